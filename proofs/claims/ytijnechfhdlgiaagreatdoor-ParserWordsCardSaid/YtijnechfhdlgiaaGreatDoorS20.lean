/- Part 20 of rules for walks through the code of a program, and of such walks; what each part proves is said by its theorems. -/
import Derived.Test.YtijnechfhdlgiaaGreatDoorS19
set_option linter.unusedVariables false
set_option linter.unusedSimpArgs false
namespace Go.Ev.Pp
open Go
set_option maxRecDepth 10000
theorem Lp(q:PS)(K:q.ok)(a:Bool):q.f5.2.lL a=q.dy.2.lL a∧(q.dy.2.err=0→q.dy=q.f5)∧q.f5.2.err=q.dy.2.err∧q.f5.2.aJ=q.dy.2.aJ:=by
 by_cases h0:q.err=0
 ·by_cases hk:q.tok.kind=2
  ·have z:q.kb=q:=by unfold PS.kb;rw[aj (fun k=>k.2 hk)]
   have h2:q.dy=q.f5:=by unfold PS.dy;rw[z,aj (by simpa using h0)]
   rw[h2];exact⟨rfl,fun _=>rfl,rfl,rfl⟩
  have z:q.kb=q.fail 5:=by unfold PS.kb;rw[aw ⟨h0,hk⟩]
  have A:(q.fail 5).err=5:=vB h0
  have h2:q.dy=(0,q.fail 5):=by unfold PS.dy;rw[z,aw (by rw[A];decide)]
  have G:q.name=([],q.fail 5):=by unfold PS.name PS.take;rw[aw h0,aj hk]
  have I:((q.fail 5).sign jg).1=false:=by rw[show(q.fail 5).sign jg=_ from rP (by rw[A];decide) 5 jg]
  have J:q.f5=(q.fail 5).push ⟨2,0,0,[],[],cq⟩:=by unfold PS.f5;rw[G,aj (by rw[I];decide)]
  rw[h2,J];exact⟨rfl,fun h=>absurd (A.symm.trans h) (by decide),rfl,rfl⟩
 have z:q.kb=q:=by unfold PS.kb;rw[aj (fun k=>h0 k.1)]
 have h2:q.dy=(0,q):=by unfold PS.dy;rw[z,aw h0]
 have G:q.name=([],q):=by unfold PS.name PS.take;rw[aj h0]
 have I:(q.sign jg).1=false:=by rw[show q.sign jg=_ from rP h0 5 jg]
 have J:q.f5=q.push ⟨2,0,0,[],[],cq⟩:=by unfold PS.f5;rw[G,aj (by rw[I];decide)]
 rw[h2,J];exact⟨rfl,fun h=>absurd h h0,rfl,rfl⟩
theorem EG.dy{q:PS}{e:List aL}{N:Nat}(z:q.ok)(h:EG q.f5.2 e N):EG q.dy.2 e N:=by
 obtain⟨_,h2,A,G⟩:=Lp q z true
 exact⟨fun h0=>by rw[h2 h0];exact h.eq (by rw[A];exact h0),by rw[←G];exact h.len⟩
theorem Tk{p:PS}(h:¬p.err=0):p.join=none:=by
 unfold PS.join
 simp only[show∀s,p.keyword s=(false,p) from fun s=>rP h 1 s]
 rfl
theorem Vv{p:PS}(h:¬p.err=0):p.op=none:=by
 unfold PS.op
 simp only[show∀s,p.keyword s=(false,p) from fun s=>rP h 1 s]
 rfl
theorem Tl{p:PS}(h:¬p.err=0)(s:List UInt8):p.sign s=(false,p):=rP h 5 s
theorem F8(p:PS)(b:Bool):(p.source b).2.ex=p.ex:=(vD ..).trans (ql ..)
section
variable{T:bf}{VE:b0}{B:br}
def th(k:Nat):List (Nat×Nat):=[(1000,1000),(1001,k),(1050,1050),(1051,1051)]
theorem Og{f:Nat}{d:Key}{O:Option (List Nat)}{J:List bt}{l:List aG}{bZ:List VV}{a dd:Bool}{p K:PS}{e:List aL}{cn:List Item}{G:List aL→Item→Prop}{Q:b0→br→Prop}(k:Nat)(h:bX T f bZ (p.ib a dd e cn) fun r Bn=>∃z A,r= .tuple []∧Bn=K.ib a dd z (cn++[A])∧G z A)
  (U:n9 2000 (th k)=true) (Y:qA (th k) 2000 (p.ib a dd e cn) B) (Z:iU VE l=some (iI (th k) 2000 bZ)) (hi:xX (th k) (p.ib a dd e cn)=true)
  (hc:(kA 2000 (kL 1050 VE VE)&&(kB 2000 B&&clean (kL 1050 VE VE) (eH (th k) B) (th k)))=true) (hq:∀z A,G z A→VO T J ((d.n,.tuple [])::kL 1050 VE VE) (mP (th k) 2000 (K.ib a dd z (cn++[A]))++eH (th k) B) Q):VO T (⟨some d,none,O,.call f l⟩::J) VE B Q:=by
 obtain⟨a1,I⟩:=iv hc
 obtain⟨I,a3⟩:=iv I
 exact rW (Bi:=p.ib a dd e cn) 1050 (th k) 2000 rfl U a1 I hi a3 Z Y h fun r Bn hp=>by
  obtain⟨z,A,rfl,rfl,h5⟩:=hp
  exact hq z A h5
end
set_option maxHeartbeats 8000000 in
theorem Ee{T:bf}(F:FT T){D:Rd}(Lq:ke T D){a:Bool}{p:PS}(hp:bd p):bX T 162 [.vp 1000 0] (PS.bq a p) fun r Bn=>(∃c:Core,r=et c.enc∧((p.core D a).2.err=0→c=(p.core D a).1))∧Bn=PS.bq a (p.core D a).2:=by
 refine cr F.ZI aa (eA (PS.bq a {p with ex:=[]}) ⟨aa,trivial⟩ ?_)
 have h0:bQ {p with ex:=[]} {p with ex:=[]}:=.refl hp.nil.top
 have iZ:bQ {p with ex:=[]} p.iM:=h0.trans (h0.top.dF [zB])
 have U:bQ {p with ex:=[]} p.fq:=iZ.trans (iZ.top.kw ja)
 have hz:EG {p with ex:=[]} [] 0:=⟨fun _=>rfl,df _⟩
 have Fg:EG p.fq [] 0:=hz.go2 U (by unfold PS.fq;rw[mi];exact pn)
 refine ak 1 aa (ak 3 aa (ai (ae 1 aa (bI (iW F h0.ok zB) aa aa aa aa (af (ai (ae 1 aa (bI (fD F iZ.ok ja) aa aa aa aa ?_))))))))
 obtain⟨d,hd⟩:∃d,(p.iM.keyword ja).1=d:=⟨_,rfl⟩
 rw[hd]
 refine ae 2 aa (af ?_)
 refine zW (fun VE B=>∃(q:PS)(e1:List aL)(cn:List Item),(p.fq.items D).2=q∧(q.err=0→cn=(p.fq.items D).1)∧bQ {p with ex:=[]} q∧EG q e1 1000∧bw [(0,.vp 1000 0),(2,.vp 2 0),(3,.vp 3 0)] VE∧bw (PS.bq a q++[(3,.one 106 120 [dB d,.ac 1050 (e1.map aL.enc).length 8,.ac 1051 (cn.map Item.enc).length 3,dN,dI (-1),dB false,dN]),(1050,.acc 142 88 8 (e1.map aL.enc)),(1051,.acc 167 32 3 (cn.map Item.enc)),(2,.one 106 120 [dB false,dN,dN,dN,d0,dB false,dN])]) B) ?_ ?_
 ·rintro VE B⟨q,e1,cn,hq2,Fj,A,Y,hV,K⟩
  refine eA (PS.bq a q++[(3,.one 106 120 [dB d,.ac 1050 (e1.map aL.enc).length 8,.ac 1051 (cn.map Item.enc).length 3,dN,dI (-1),dB false,dN]),(1050,.acc 142 88 8 (e1.map aL.enc)),(1051,.acc 167 32 3 (cn.map Item.enc)),(2,.one 106 120 [dB false,dN,dN,dN,d0,dB false,dN])]) K ?_
  have K:bw (PS.bq a q++[(3,.one 106 120 [dB d,.ac 1050 (e1.map aL.enc).length 8,.ac 1051 (cn.map Item.enc).length 3,dN,dI (-1),dB false,dN]),(1050,.acc 142 88 8 (e1.map aL.enc)),(1051,.acc 167 32 3 (cn.map Item.enc)),(2,.one 106 120 [dB false,dN,dN,dN,d0,dB false,dN])]) (PS.bq a q++[(3,.one 106 120 [dB d,.ac 1050 (e1.map aL.enc).length 8,.ac 1051 (cn.map Item.enc).length 3,dN,dI (-1),dB false,dN]),(1050,.acc 142 88 8 (e1.map aL.enc)),(1051,.acc 167 32 3 (cn.map Item.enc)),(2,.one 106 120 [dB false,dN,dN,dN,d0,dB false,dN])]):=cG rfl ⟨rfl,rfl,rfl,rfl,trivial⟩
  subst hq2
  have IU:bQ {p with ex:=[]} (p.fv D):=A.trans (A.top.dF [hY])
  have PT:EG (p.fv D) e1 1000:=Y.go2 (A.top.dF [hY]) pn
  have aaS:=(A.top.dF [hY]).er
  replace Fj:(p.fv D).err=0→cn=(p.fq.items D).1:=fun h0=>Fj (aaS h0)
  refine dx _ _ hV K (ai (ae 1 aa (bI (iW F A.ok hY) aa aa aa aa (mV 3 3 1052 169 48 4 aa aa aa (af (eX (bo 3 aa (yw (GI F IU.top true) aa aa aa aa aa (bo 1 aa ?_)))))))))
  refine eL rfl (ey (rows:=[]) (ys:=[((p.fv D).source a).1.enc]) rfl rfl rfl (.bs (rows:=[((p.fv D).source a).1.enc]) rfl) (bW rfl) (by simp only[bK,dk,dO];omega) (fun h=>rfl) (fun h=>rfl) ?_)
  refine bo 2 aa (dc ?_)
  refine zW (fun VE B=>∃(q:PS)(e1:List aL)(src:List Src),(p.iV D a)=q∧(q.err=0→src=((p.fv D).jS D a).1)∧src.length≤3000∧bQ (p.fv D) q∧EG q e1 2000∧bw [(0,.vp 1000 0),(2,.vp 2 0),(3,.vp 3 0)] VE∧bw (PS.bq a q++[(3,.one 106 120 [dB d,.ac 1050 (e1.map aL.enc).length 8,.ac 1051 (cn.map Item.enc).length 3,.ac 1052 (src.map Src.enc).length 4,dI (-1),dB false,dN]),(1050,.acc 142 88 8 (e1.map aL.enc)),(1051,.acc 167 32 3 (cn.map Item.enc)),(1052,.acc 169 48 4 (src.map Src.enc)),(2,.one 106 120 [dB false,dN,dN,dN,d0,dB false,dN])]) B) ?_ ?_
  ·rintro VE B⟨q,e1,src,hq4,PU,qC,A,Y,hV,K⟩
   refine eA (PS.bq a q++[(3,.one 106 120 [dB d,.ac 1050 (e1.map aL.enc).length 8,.ac 1051 (cn.map Item.enc).length 3,.ac 1052 (src.map Src.enc).length 4,dI (-1),dB false,dN]),(1050,.acc 142 88 8 (e1.map aL.enc)),(1051,.acc 167 32 3 (cn.map Item.enc)),(1052,.acc 169 48 4 (src.map Src.enc)),(2,.one 106 120 [dB false,dN,dN,dN,d0,dB false,dN])]) K ?_
   have K:bw (PS.bq a q++[(3,.one 106 120 [dB d,.ac 1050 (e1.map aL.enc).length 8,.ac 1051 (cn.map Item.enc).length 3,.ac 1052 (src.map Src.enc).length 4,dI (-1),dB false,dN]),(1050,.acc 142 88 8 (e1.map aL.enc)),(1051,.acc 167 32 3 (cn.map Item.enc)),(1052,.acc 169 48 4 (src.map Src.enc)),(2,.one 106 120 [dB false,dN,dN,dN,d0,dB false,dN])]) (PS.bq a q++[(3,.one 106 120 [dB d,.ac 1050 (e1.map aL.enc).length 8,.ac 1051 (cn.map Item.enc).length 3,.ac 1052 (src.map Src.enc).length 4,dI (-1),dB false,dN]),(1050,.acc 142 88 8 (e1.map aL.enc)),(1051,.acc 167 32 3 (cn.map Item.enc)),(1052,.acc 169 48 4 (src.map Src.enc)),(2,.one 106 120 [dB false,dN,dN,dN,d0,dB false,dN])]):=cG rfl ⟨rfl,rfl,rfl,rfl,rfl,trivial⟩
   subst hq4
   refine dx _ _ hV K (zW (fun VE B=>∃(q:PS)(e1:List aL)(w:Int),(p.dD D a)=q∧(q.err=0→w=((p.iV D a).dX D).1)∧bQ (p.iV D a) q∧EG q e1 3000∧bw [(0,.vp 1000 0),(2,.vp 2 0),(3,.vp 3 0)] VE∧bw (PS.bq a q++[(3,.one 106 120 [dB d,.ac 1050 (e1.map aL.enc).length 8,.ac 1051 (cn.map Item.enc).length 3,.ac 1052 (src.map Src.enc).length 4,dI w,dB false,dN]),(1050,.acc 142 88 8 (e1.map aL.enc)),(1051,.acc 167 32 3 (cn.map Item.enc)),(1052,.acc 169 48 4 (src.map Src.enc)),(2,.one 106 120 [dB false,dN,dN,dN,d0,dB false,dN])]) B) ?_ ?_)
   ·rintro VE B⟨q,e1,w,hq5,hw,AU,Y,hV,K⟩
    refine eA (PS.bq a q++[(3,.one 106 120 [dB d,.ac 1050 (e1.map aL.enc).length 8,.ac 1051 (cn.map Item.enc).length 3,.ac 1052 (src.map Src.enc).length 4,dI w,dB false,dN]),(1050,.acc 142 88 8 (e1.map aL.enc)),(1051,.acc 167 32 3 (cn.map Item.enc)),(1052,.acc 169 48 4 (src.map Src.enc)),(2,.one 106 120 [dB false,dN,dN,dN,d0,dB false,dN])]) K ?_
    have K:bw (PS.bq a q++[(3,.one 106 120 [dB d,.ac 1050 (e1.map aL.enc).length 8,.ac 1051 (cn.map Item.enc).length 3,.ac 1052 (src.map Src.enc).length 4,dI w,dB false,dN]),(1050,.acc 142 88 8 (e1.map aL.enc)),(1051,.acc 167 32 3 (cn.map Item.enc)),(1052,.acc 169 48 4 (src.map Src.enc)),(2,.one 106 120 [dB false,dN,dN,dN,d0,dB false,dN])]) (PS.bq a q++[(3,.one 106 120 [dB d,.ac 1050 (e1.map aL.enc).length 8,.ac 1051 (cn.map Item.enc).length 3,.ac 1052 (src.map Src.enc).length 4,dI w,dB false,dN]),(1050,.acc 142 88 8 (e1.map aL.enc)),(1051,.acc 167 32 3 (cn.map Item.enc)),(1052,.acc 169 48 4 (src.map Src.enc)),(2,.one 106 120 [dB false,dN,dN,dN,d0,dB false,dN])]):=cG rfl ⟨rfl,rfl,rfl,rfl,rfl,trivial⟩
    subst hq5
    refine dx _ _ hV K (aM (ai (ae 1 aa (bI (fD F AU.ok gp) aa aa aa aa (af (aK aa (fun tl=>?_) (fun tl=>?_)))))))
    ·have Bt:(p.dD D a).group=((true,(jc PS.dy (((p.dD D a).keyword gp).2.aW [gC])).1),(jc PS.dy (((p.dD D a).keyword gp).2.aW [gC])).2):=by unfold PS.group;rw[aw tl]
     have IV:=AU.top.kw gp
     have hG:=IV.trans (IV.top.dF [gC])
     have PV:EG (((p.dD D a).keyword gp).2.aW [gC]) e1 4000:=(Y.go2 hG (by rw[pn,mi])).dz (by omega)
     refine ai (ae 1 aa (bI (iW F IV.ok gC) aa aa aa aa (mV 3 6 1053 3 8 1 aa aa aa (af (ak 2 aa (bN (d6 (fun k VE B=>∃(l:List Int)(q:PS)(e1:List aL)(gs:List Int),kv PS.dy k (l++[q.dy.1]) q.dy.2=jc PS.dy (((p.dD D a).keyword gp).2.aW [gC])∧gs.length=l.length∧(q.err=0→gs=l)∧l.length≤q.aJ+1∧(((p.dD D a).keyword gp).2.aW [gC]).aA.length≤k+q.aJ∧bQ (((p.dD D a).keyword gp).2.aW [gC]) q∧EG q e1 4000∧bw [(0,.vp 1000 0),(2,.vp 2 0),(3,.vp 3 0)] VE∧bw (PS.bq a q++[(3,.one 106 120 [dB d,.ac 1050 (e1.map aL.enc).length 8,.ac 1051 (cn.map Item.enc).length 3,.ac 1052 (src.map Src.enc).length 4,dI w,dB true,.ac 1053 (gs.map (fun i=>[DC.i .i64 i])).length 1]),(1050,.acc 142 88 8 (e1.map aL.enc)),(1051,.acc 167 32 3 (cn.map Item.enc)),(1052,.acc 169 48 4 (src.map Src.enc)),(1053,.acc 3 8 1 (gs.map (fun i=>[DC.i .i64 i]))),(2,.one 106 120 [dB false,dN,dN,dN,d0,dB false,dN])]) B) ?_ (k:=(((p.dD D a).keyword gp).2.aW [gC]).aA.length) ⟨[],(((p.dD D a).keyword gp).2.aW [gC]),e1,[],aa,aa,fun _=>aa,df _,jQ _ _,.refl hG.top,PV,⟨aa,aa,aa,trivial⟩,cG aa ⟨aa,aa,aa,aa,aa,aa,trivial⟩⟩)))))))
     clear Y PV
     rintro k VE B⟨l,q,e1,gs,z,PW,sY,jj,hk,Z,Y,hV,K⟩
     refine eA (PS.bq a q++[(3,.one 106 120 [dB d,.ac 1050 (e1.map aL.enc).length 8,.ac 1051 (cn.map Item.enc).length 3,.ac 1052 (src.map Src.enc).length 4,dI w,dB true,.ac 1053 (gs.map (fun i=>[DC.i .i64 i])).length 1]),(1050,.acc 142 88 8 (e1.map aL.enc)),(1051,.acc 167 32 3 (cn.map Item.enc)),(1052,.acc 169 48 4 (src.map Src.enc)),(1053,.acc 3 8 1 (gs.map (fun i=>[DC.i .i64 i]))),(2,.one 106 120 [dB false,dN,dN,dN,d0,dB false,dN])]) K ?_
     have K:bw (PS.bq a q++[(3,.one 106 120 [dB d,.ac 1050 (e1.map aL.enc).length 8,.ac 1051 (cn.map Item.enc).length 3,.ac 1052 (src.map Src.enc).length 4,dI w,dB true,.ac 1053 (gs.map (fun i=>[DC.i .i64 i])).length 1]),(1050,.acc 142 88 8 (e1.map aL.enc)),(1051,.acc 167 32 3 (cn.map Item.enc)),(1052,.acc 169 48 4 (src.map Src.enc)),(1053,.acc 3 8 1 (gs.map (fun i=>[DC.i .i64 i]))),(2,.one 106 120 [dB false,dN,dN,dN,d0,dB false,dN])]) (PS.bq a q++[(3,.one 106 120 [dB d,.ac 1050 (e1.map aL.enc).length 8,.ac 1051 (cn.map Item.enc).length 3,.ac 1052 (src.map Src.enc).length 4,dI w,dB true,.ac 1053 (gs.map (fun i=>[DC.i .i64 i])).length 1]),(1050,.acc 142 88 8 (e1.map aL.enc)),(1051,.acc 167 32 3 (cn.map Item.enc)),(1052,.acc 169 48 4 (src.map Src.enc)),(1053,.acc 3 8 1 (gs.map (fun i=>[DC.i .i64 i]))),(2,.one 106 120 [dB false,dN,dN,dN,d0,dB false,dN])]):=cG rfl ⟨rfl,rfl,rfl,rfl,rfl,rfl,trivial⟩
     have gi:q.aA.length=(((p.dD D a).keyword gp).2.aW [gC]).aA.length:=by rw[Z.aA]
     have fu:=Z.ok.dY
     have yz:=Z.ok.lt
     obtain⟨c1,c2,c3,c4⟩:=Lp q Z.ok a
     have I:=Z.top.dy
     refine dx _ _ hV K (bN (ai (ae 3 aa (js 3 1 aa aa (ez (PS.bq a q++[(3,.one 106 120 [dB d,.undef,.ac 1051 (cn.map Item.enc).length 3,.ac 1052 (src.map Src.enc).length 4,dI w,dB true,.ac 1053 (gs.map (fun i=>[DC.i .i64 i])).length 1]),(1050,.acc 142 88 8 (e1.map aL.enc)),(1051,.acc 167 32 3 (cn.map Item.enc)),(1052,.acc 169 48 4 (src.map Src.enc)),(1053,.acc 3 8 1 (gs.map (fun i=>[DC.i .i64 i]))),(2,.one 106 120 [dB false,dN,dN,dN,d0,dB false,dN])]) (cG aa ⟨aa,aa,aa,aa,aa,aa,trivial⟩) ?_)))))
     refine jm (L' F a q e1 4000 Z.st trivial Y (by omega)) rfl rfl rfl rfl (fun e2 g2=>?_)
     have Bu:EG q.dy.2 e2 4001:=g2.dy Z.ok
     have pj:=Bu.small I.ok (by omega)
     have hvz:(((e2.map aL.enc).length:Nat):Int) -Int.ofNat 1=(((e2.map aL.enc).length:Nat):Int) -Int.ofNat 1:=rfl
     refine ez (PS.bq a q.dy.2++[(3,.one 106 120 [dB d,.undef,.ac 1051 (cn.map Item.enc).length 3,.ac 1052 (src.map Src.enc).length 4,dI w,dB true,.ac 1053 (gs.map (fun i=>[DC.i .i64 i])).length 1]),(1050,.acc 142 88 8 (e2.map aL.enc)),(1051,.acc 167 32 3 (cn.map Item.enc)),(1052,.acc 169 48 4 (src.map Src.enc)),(1053,.acc 3 8 1 (gs.map (fun i=>[DC.i .i64 i]))),(2,.one 106 120 [dB false,dN,dN,dN,d0,dB false,dN])]) (cG (by rw[←c1];rfl) ⟨rfl,rfl,rfl,rfl,rfl,rfl,trivial⟩) ?_
     refine ae 2 aa (af ?_)
     refine ai (ae 5 aa ?_)
     refine al (gj rfl rfl (by simp only[cC,bb];omega) (by simp only[cC,bb];omega) ?_)
     obtain⟨v,hv⟩:∃v:Int,(((e2.map aL.enc).length:Nat):Int) -Int.ofNat 1=v:=⟨_,rfl⟩
     rw[hv]
     have PX:q.dy.2.err=0→v=q.dy.1:=fun h0=>hv.symm.trans (pC (by rw[c2 h0,(g2.eq (by rw[c3];exact h0))];exact Je q))
     refine ae 1 aa ?_
     refine al (ey (rows:=gs.map (fun i=>[DC.i .i64 i])) (ys:=[[.i .i64 v]]) rfl rfl rfl (.bs (rows:=[[.i .i64 v]]) rfl) (bW rfl) (by rw[bK,cC];simp only[dk,dO];omega) (fun h=>by rw[h];rfl) (fun h=>by rw[h];rfl) ?_)
     refine ae 2 aa (af ?_)
     refine ai (ae 1 aa (bI (mr F I.ok cF) aa aa aa aa (ae 1 aa (af ?_))))
     refine aK aa (fun IW=>?_) (fun IW=>?_)
     ·have qF:(q.dy.2.sign cF).1=false:=by simpa using IW
      rw[PS.ig qF]
      rw[ox qF] at z
      have Fm:(p.dD D a).group=((true,l++[q.dy.1]),q.dy.2):=by rw[Bt,←z]
      have Oh:EG (p.dD D a).group.2 e2 4001∧bQ (p.dD D a) (p.dD D a).group.2:=by rw[Fm];exact⟨Bu,(hG.trans Z).trans I⟩
      refine dM (ai (ae 1 aa ?_))
      refine fx 99 1050 rfl rfl ⟨trivial,fun _=>⟨rfl,rfl⟩,fun h=>absurd h (by decide),fun h=>absurd h (by decide),trivial,trivial,fun h=>absurd h (by decide),trivial⟩ ?_
      refine fx 99 1051 rfl rfl ⟨trivial,trivial,fun _=>⟨rfl,rfl⟩,fun h=>absurd h (by decide),trivial,trivial,fun h=>absurd h (by decide),trivial⟩ ?_
      refine fx 99 1052 rfl rfl ⟨trivial,trivial,trivial,fun _=>⟨rfl,rfl⟩,trivial,trivial,fun h=>absurd h (by decide),trivial⟩ ?_
      refine fx 99 1053 aa aa ⟨trivial,trivial,trivial,trivial,trivial,trivial,fun _=>⟨aa,aa⟩,trivial⟩ (ae 1 aa (af ?_))
      refine ax ?_
      have hc:(p.core D a).1=⟨(p.iM.keyword ja).1,(p.dD D a).group.2.ex,(p.fq.items D).1,((p.fv D).jS D a).1,((p.iV D a).dX D).1,(p.dD D a).group.1.1,(p.dD D a).group.1.2⟩:=rfl
      exact⟨_,PS.bq a q.dy.2,rfl,⟨rfl,trivial⟩,⟨⟨d,e2,cn,src,w,true,gs++[v]⟩,by simp only[Core.enc,dT,eB,fy];rfl,fun h0=>by
       have h5:=Oh.2.er h0
       have h4:=AU.er h5
       have h3:=A.er h4
       have hz:q.dy.2.err=0:=by
        have h1:((p.dD D a).group).2.err=0:=h0
        rw[Fm] at h1;exact h1
       rw[hc,hd,←Fj h3,←PU h4,←hw h5,←Oh.1.eq h0,Fm,PX hz,sY (I.er hz)]⟩,by show _=PS.bq a (p.dD D a).group.2;rw[Fm]⟩
     have qF:(q.dy.2.sign cF).1=true:=by simpa using IW
     have J:=(qs qF).1
     have pg:=ov I.ok qF
     obtain⟨k,rfl⟩:∃k',k=k'+1:=⟨k-1,by have:=pg.2;have:=I.aA;omega⟩
     rw[ow qF] at z
     have hgct:q.dy.2.aA.length=q.aA.length:=by rw[I.aA]
     refine aU ?_
     refine⟨k,fZ k,l++[q.dy.1],(q.dy.2.sign cF).2,e2,gs++[v],z,?_,?_,?_,?_,(Z.trans I).trans (I.top.sign cF),(Bu.zero I.ok J).km (bD.xY I.st cF) (oy ..)|>.dz (by omega),⟨rfl,rfl,rfl,trivial⟩,?_⟩
     ·rw[bK,bK,PW];rfl
     ·intro _;rw[PX J,sY (I.er J)]
     ·have:=I.aJ;rw[bK,eK];omega
     ·have:=I.aJ;omega
     rw[dT];exact cG rfl ⟨rfl,rfl,rfl,rfl,rfl,rfl,trivial⟩
    have Bt:(p.dD D a).group=((false,[]),p.dD D a):=by unfold PS.group;rw[aj (by rw[tl];decide)]
    rw[PS.cL tl]
    have z:EG (p.dD D a).group.2 e1 4000∧bQ (p.dD D a) (p.dD D a).group.2:=by rw[Bt];exact⟨Y.dz (by omega),.refl AU.top⟩
    refine aU (ai (ae 1 aa ?_))
    refine fx 99 1050 rfl rfl ⟨trivial,fun _=>⟨rfl,rfl⟩,fun h=>absurd h (by decide),fun h=>absurd h (by decide),trivial,trivial,trivial,trivial⟩ ?_
    refine fx 99 1051 rfl rfl ⟨trivial,trivial,fun _=>⟨rfl,rfl⟩,fun h=>absurd h (by decide),trivial,trivial,trivial,trivial⟩ ?_
    refine fx 99 1052 aa aa ⟨trivial,trivial,trivial,fun _=>⟨aa,aa⟩,trivial,trivial,trivial,trivial⟩ (ae 1 aa (af ?_))
    refine ax ?_
    have hc:(p.core D a).1=⟨(p.iM.keyword ja).1,(p.dD D a).group.2.ex,(p.fq.items D).1,((p.fv D).jS D a).1,((p.iV D a).dX D).1,(p.dD D a).group.1.1,(p.dD D a).group.1.2⟩:=rfl
    exact⟨_,PS.bq a (p.dD D a),rfl,⟨rfl,trivial⟩,⟨⟨d,e1,cn,src,w,false,[]⟩,rfl,fun h0=>by
     have h5:=z.2.er h0
     have h4:=AU.er h5
     have h3:=A.er h4
     rw[hc,hd,←Fj h3,←PU h4,←hw h5,←z.1.eq h0,Bt]⟩,by show _=PS.bq a (p.dD D a).group.2;rw[Bt]⟩
   refine ai (ae 1 aa (bI (fD F A.ok jP) aa aa aa aa (af (aK aa (fun yT=>?_) (fun yT=>?_)))))
   ·refine ai (ae 3 aa (js 3 1 aa aa (ez (PS.bq a ((p.iV D a).keyword jP).2++[(3,.one 106 120 [dB d,.undef,.ac 1051 (cn.map Item.enc).length 3,.ac 1052 (src.map Src.enc).length 4,dI (-1),dB false,dN]),(1050,.acc 142 88 8 (e1.map aL.enc)),(1051,.acc 167 32 3 (cn.map Item.enc)),(1052,.acc 169 48 4 (src.map Src.enc)),(2,.one 106 120 [dB false,dN,dN,dN,d0,dB false,dN])]) (cG aa ⟨aa,aa,aa,aa,aa,trivial⟩) ?_)))
    refine jm (t6 F Lq (A.top.kw jP).top (Y.go2 (A.top.kw jP) (mi ..)) (by omega)) rfl rfl rfl rfl (fun e2 g2=>?_)
    have pj:=g2.small ((A.top.kw jP).trans ((A.top.kw jP).top.expr D)).ok (by omega)
    refine ae 2 aa (af ?_)
    refine bG (ae 3 aa ?_)
    refine al (gj rfl rfl (by simp only[cC,bb];omega) (by simp only[cC,bb];omega) ?_)
    obtain⟨v,hv⟩:∃v:Int,(((e2.map aL.enc).length:Nat):Int) -Int.ofNat 1=v:=⟨_,rfl⟩
    rw[hv]
    refine ae 2 aa (af ?_)
    exact⟨_,e2,v,by unfold PS.dD PS.dX;rw[aw yT],fun h0=>by unfold PS.dX;rw[aw yT];exact hv.symm.trans (qN (A.top.kw jP).top g2 h0),(A.top.kw jP).trans ((A.top.kw jP).top.expr D),g2.dz (by omega),⟨rfl,rfl,rfl,trivial⟩,cG rfl ⟨rfl,rfl,rfl,rfl,rfl,trivial⟩⟩
   rw[PS.cL yT]
   refine aU ?_
   exact⟨_,e1, -1,by unfold PS.dD PS.dX;rw[aj (by rw[yT];decide)],fun h0=>by unfold PS.dX;rw[aj (by rw[yT];decide)],.refl A.top,Y.dz (by omega),⟨rfl,rfl,rfl,trivial⟩,cG rfl ⟨rfl,rfl,rfl,rfl,rfl,trivial⟩⟩
  refine bN ?_
  refine d6 (fun k VE B=>∃(l:List Src)(q:PS)(e1:List aL)(src:List Src),oR D k l q=(p.fv D).jS D a∧src.length=l.length∧(q.err=0→src=l)∧l.length≤q.aJ+1∧(p.fv D).aA.length≤k+q.aJ∧bQ (p.fv D) q∧EG q e1 2000∧bw [(0,.vp 1000 0),(2,.vp 2 0),(3,.vp 3 0)] VE∧bw (PS.bq a q++[(3,.one 106 120 [dB d,.ac 1050 (e1.map aL.enc).length 8,.ac 1051 (cn.map Item.enc).length 3,.ac 1052 (src.map Src.enc).length 4,dI (-1),dB false,dN]),(1050,.acc 142 88 8 (e1.map aL.enc)),(1051,.acc 167 32 3 (cn.map Item.enc)),(1052,.acc 169 48 4 (src.map Src.enc)),(2,.one 106 120 [dB false,dN,dN,dN,d0,dB false,dN])]) B) ?_ (k:=(p.fv D).aA.length) ⟨[((p.fv D).source a).1],((p.fv D).source a).2,e1,[((p.fv D).source a).1],rfl,rfl,fun _=>rfl,mG (df _),jQ _ _,IU.top.source a,(PT.go2 (IU.top.source a) (F8 ..)).dz (by omega),⟨rfl,rfl,rfl,trivial⟩,cG rfl ⟨rfl,rfl,rfl,rfl,rfl,trivial⟩⟩
  clear PT Y
  rintro k VE B⟨l,q,e1,src,z,qC,Fo,jj,hk,A,Y,hV,K⟩
  refine eA (PS.bq a q++[(3,.one 106 120 [dB d,.ac 1050 (e1.map aL.enc).length 8,.ac 1051 (cn.map Item.enc).length 3,.ac 1052 (src.map Src.enc).length 4,dI (-1),dB false,dN]),(1050,.acc 142 88 8 (e1.map aL.enc)),(1051,.acc 167 32 3 (cn.map Item.enc)),(1052,.acc 169 48 4 (src.map Src.enc)),(2,.one 106 120 [dB false,dN,dN,dN,d0,dB false,dN])]) K ?_
  have K:bw (PS.bq a q++[(3,.one 106 120 [dB d,.ac 1050 (e1.map aL.enc).length 8,.ac 1051 (cn.map Item.enc).length 3,.ac 1052 (src.map Src.enc).length 4,dI (-1),dB false,dN]),(1050,.acc 142 88 8 (e1.map aL.enc)),(1051,.acc 167 32 3 (cn.map Item.enc)),(1052,.acc 169 48 4 (src.map Src.enc)),(2,.one 106 120 [dB false,dN,dN,dN,d0,dB false,dN])]) (PS.bq a q++[(3,.one 106 120 [dB d,.ac 1050 (e1.map aL.enc).length 8,.ac 1051 (cn.map Item.enc).length 3,.ac 1052 (src.map Src.enc).length 4,dI (-1),dB false,dN]),(1050,.acc 142 88 8 (e1.map aL.enc)),(1051,.acc 167 32 3 (cn.map Item.enc)),(1052,.acc 169 48 4 (src.map Src.enc)),(2,.one 106 120 [dB false,dN,dN,dN,d0,dB false,dN])]):=cG rfl ⟨rfl,rfl,rfl,rfl,rfl,trivial⟩
  have gi:q.aA.length=(p.fv D).aA.length:=by rw[A.aA]
  have fu:=A.ok.dY
  have yz:=A.ok.lt
  refine dx _ _ hV K (aM (ak 5 aa (aK aa (fun qG=>?_) (fun qG=>?_))))
  ·have J:q.err=0:=by simpa using qG
   refine aU (bN (ai (ae 1 aa (bI (fD F A.ok nL) aa aa aa aa (ae 1 aa (af ?_))))))
   refine aM (ak 1 aa (aK aa (fun wG=>?_) (fun wG=>?_)))
   ·have hj:q.join=some (true,((q.keyword nL).2.aW [ka])):=by unfold PS.join;rw[aw wG]
    obtain⟨tm,n4,j0⟩:=A.top.join hj
    obtain⟨k,rfl⟩:∃k',k=k'+1:=⟨k-1,by omega⟩
    rw[yZ hj] at z
    have gz:EG ((q.keyword nL).2.aW [ka]) e1 0:=((Y.zero A.ok J).km (bD.Gg A.st nL) (mi ..)).km (bD.aW (A.top.kw nL).st) pn
    refine bG (ae 1 aa (bI (iW F (A.top.kw nL).ok ka) aa aa aa aa ?_))
    rw[wG]
    generalize ((q.keyword nL).2.aW [ka])=G at hj tm n4 z gz⊢
    have s1:=tm.top.source false
    have s2:=s1.trans (s1.top.dF [pd])
    have gs:=gz.go2 s2 (by rw[pn,F8])
    have s3:=s2.trans (s2.top.expr D)
    refine af (ai (ae 1 aa (bI (GI F tm.top false) aa aa aa aa (ae 2 aa (af ?_)))))
    refine ak 3 aa (ai (ae 1 aa (bI (iW F s1.ok pd) aa aa aa aa (af (ai (ae 3 aa (js 3 1 aa aa (ez (PS.bq a ((G.source false).2.aW [pd])++[(3,.one 106 120 [dB d,.undef,.ac 1051 (cn.map Item.enc).length 3,.ac 1052 (src.map Src.enc).length 4,dI (-1),dB false,dN]),(1050,.acc 142 88 8 (e1.map aL.enc)),(1051,.acc 167 32 3 (cn.map Item.enc)),(1052,.acc 169 48 4 (src.map Src.enc)),(5,.one 169 48 [dB true,dS (G.source false).1.table,dS (G.source false).1.alias,dI (-1)]),(2,.one 106 120 [dB false,dN,dN,dN,d0,dB false,dN])]) (cG aa ⟨aa,aa,aa,aa,aa,aa,trivial⟩) ?_))))))))
    refine jm (t6 F Lq s2.top gs (by omega)) rfl rfl rfl rfl (fun e2 g2=>?_)
    have pj:=g2.small s3.ok (by omega)
    refine ae 2 aa (af ?_)
    refine ai (ae 3 aa ?_)
    refine al (gj rfl rfl (by simp only[cC,bb];omega) (by simp only[cC,bb];omega) ?_)
    obtain⟨v,hv⟩:∃v:Int,(((e2.map aL.enc).length:Nat):Int) -Int.ofNat 1=v:=⟨_,rfl⟩
    rw[hv]
    refine ae 2 aa (af ?_)
    refine bG (ae 4 aa ?_)
    refine al (ey (rows:=src.map Src.enc) (ys:=[(⟨true,(G.source false).1.table,(G.source false).1.alias,v⟩:Src).enc]) rfl rfl rfl (.bs (rows:=[(⟨true,(G.source false).1.table,(G.source false).1.alias,v⟩:Src).enc]) rfl) (bW rfl) (by rw[bK,cC];simp only[dk,dO];omega) (fun h=>by rw[h];rfl) (fun h=>by rw[h];rfl) ?_)
    refine ae 2 aa (af ?_)
    have gv:(G.gx D true).2.err=0→v=(G.gx D true).1.on:=fun h0=>hv.symm.trans (qN s2.top g2 h0)
    refine⟨k,fZ k,l++[(G.gx D true).1],(G.gx D true).2,e2,src++[(⟨true,(G.source false).1.table,(G.source false).1.alias,v⟩:Src)],z,?_,?_,?_,?_,(A.trans tm).trans s3,g2.dz (by omega),⟨rfl,rfl,rfl,trivial⟩,?_⟩
    ·rw[bK,bK,qC];rfl
    ·intro h0;rw[gv h0,Fo J];rfl
    ·have:G.aJ≤(G.gx D true).2.aJ:=s3.aJ;rw[bK,eK];omega
    ·have:G.aJ≤(G.gx D true).2.aJ:=s3.aJ;show(p.fv D).aA.length≤k+(G.gx D true).2.aJ;omega
    rw[dT];exact cG rfl ⟨rfl,rfl,rfl,rfl,rfl,trivial⟩
   rw[PS.cL wG]
   refine ai (ae 1 aa (bI (fD F A.ok ka) aa aa aa aa (ae 1 aa (af ?_))))
   refine aK aa (fun qE=>?_) (fun qE=>?_)
   ·have vf:(q.keyword ka).1=false:=by simpa using qE
    have hj:q.join=none:=by unfold PS.join;rw[aj (by rw[wG];decide),aj (by rw[vf];decide)]
    rw[BE hj] at z
    rw[PS.cL vf]
    refine dM ?_
    exact⟨q,e1,src,by unfold PS.iV;rw[←z],fun h0=>by rw[←z];exact Fo h0,by omega,A,Y,⟨rfl,rfl,rfl,trivial⟩,cG rfl ⟨rfl,rfl,rfl,rfl,rfl,trivial⟩⟩
   have vf:(q.keyword ka).1=true:=by simpa using qE
   have hj:q.join=some (false,(q.keyword ka).2):=by unfold PS.join;rw[aj (by rw[wG];decide),aw vf]
   obtain⟨tm,n4,j0⟩:=A.top.join hj
   obtain⟨k,rfl⟩:∃k',k=k'+1:=⟨k-1,by omega⟩
   rw[yZ hj] at z
   have gz:EG (q.keyword ka).2 e1 0:=(Y.zero A.ok J).km (bD.Gg A.st ka) (mi ..)
   rw[wG]
   generalize (q.keyword ka).2=G at hj tm n4 z gz⊢
   have s1:=tm.top.source false
   have s2:=s1.trans (s1.top.dF [pd])
   have gs:=gz.go2 s2 (by rw[pn,F8])
   have s3:=s2.trans (s2.top.expr D)
   refine aU (ai (ae 1 aa (bI (GI F tm.top false) aa aa aa aa (ae 2 aa (af ?_)))))
   refine ak 3 aa (ai (ae 1 aa (bI (iW F s1.ok pd) aa aa aa aa (af (ai (ae 3 aa (js 3 1 aa aa (ez (PS.bq a ((G.source false).2.aW [pd])++[(3,.one 106 120 [dB d,.undef,.ac 1051 (cn.map Item.enc).length 3,.ac 1052 (src.map Src.enc).length 4,dI (-1),dB false,dN]),(1050,.acc 142 88 8 (e1.map aL.enc)),(1051,.acc 167 32 3 (cn.map Item.enc)),(1052,.acc 169 48 4 (src.map Src.enc)),(5,.one 169 48 [dB false,dS (G.source false).1.table,dS (G.source false).1.alias,dI (-1)]),(2,.one 106 120 [dB false,dN,dN,dN,d0,dB false,dN])]) (cG aa ⟨aa,aa,aa,aa,aa,aa,trivial⟩) ?_))))))))
   refine jm (t6 F Lq s2.top gs (by omega)) rfl rfl rfl rfl (fun e2 g2=>?_)
   have pj:=g2.small s3.ok (by omega)
   refine ae 2 aa (af ?_)
   refine ai (ae 3 aa ?_)
   refine al (gj rfl rfl (by simp only[cC,bb];omega) (by simp only[cC,bb];omega) ?_)
   obtain⟨v,hv⟩:∃v:Int,(((e2.map aL.enc).length:Nat):Int) -Int.ofNat 1=v:=⟨_,rfl⟩
   rw[hv]
   refine ae 2 aa (af ?_)
   refine bG (ae 4 aa ?_)
   refine al (ey (rows:=src.map Src.enc) (ys:=[(⟨false,(G.source false).1.table,(G.source false).1.alias,v⟩:Src).enc]) rfl rfl rfl (.bs (rows:=[(⟨false,(G.source false).1.table,(G.source false).1.alias,v⟩:Src).enc]) rfl) (bW rfl) (by rw[bK,cC];simp only[dk,dO];omega) (fun h=>by rw[h];rfl) (fun h=>by rw[h];rfl) ?_)
   refine ae 2 aa (af ?_)
   have gv:(G.gx D false).2.err=0→v=(G.gx D false).1.on:=fun h0=>hv.symm.trans (qN s2.top g2 h0)
   refine⟨k,fZ k,l++[(G.gx D false).1],(G.gx D false).2,e2,src++[(⟨false,(G.source false).1.table,(G.source false).1.alias,v⟩:Src)],z,?_,?_,?_,?_,(A.trans tm).trans s3,g2.dz (by omega),⟨rfl,rfl,rfl,trivial⟩,?_⟩
   ·rw[bK,bK,qC];rfl
   ·intro h0;rw[gv h0,Fo J];rfl
   ·have:G.aJ≤(G.gx D false).2.aJ:=s3.aJ;rw[bK,eK];omega
   ·have:G.aJ≤(G.gx D false).2.aJ:=s3.aJ;show(p.fv D).aA.length≤k+(G.gx D false).2.aJ;omega
   rw[dT];exact cG rfl ⟨rfl,rfl,rfl,rfl,rfl,trivial⟩
  have J:¬q.err=0:=by simpa using qG
  have hj:q.join=none:=Tk J
  rw[BE hj] at z
  refine dM ?_
  exact⟨q,e1,src,by unfold PS.iV;rw[←z],fun h0=>by rw[←z];exact Fo h0,by omega,A,Y,⟨rfl,rfl,rfl,trivial⟩,cG rfl ⟨rfl,rfl,rfl,rfl,rfl,trivial⟩⟩
 refine ai (mV 3 1 1050 142 88 8 aa aa aa (mV 3 2 1051 167 32 3 aa aa aa (ae 1 aa (bI (mr F U.ok eS) aa aa aa aa (ae 1 aa (af ?_))))))
 refine aK aa (fun O=>?_) (fun O=>?_)
 ·have O:(p.fq.sign eS).1=false:=by simpa using O
  rw[PS.ig O]
  refine ai (ae 1 aa ?_)
  refine Og 3 (Of F Lq U.top d (e:=[]) (cn:=[]) Fg (by omega) (df _)) rfl ⟨rfl,rfl,rfl,rfl,rfl,rfl,rfl,rfl,trivial⟩ rfl rfl rfl (fun e1 it1 IX=>?_)
  obtain⟨PY,PZ⟩:=IX
  refine af (bN ?_)
  refine d6 (fun k VE B=>∃(l:List Item)(q:PS)(e1:List aL)(cn:List Item),kv (fun p=>p.item D) k l q=(jc (fun p=>p.item D) p.fq)∧cn.length=l.length∧(q.err=0→cn=l)∧l.length≤q.aJ+1∧p.fq.aA.length≤k+q.aJ∧bQ p.fq q∧EG q e1 1000∧bw [(0,.vp 1000 0),(2,.vp 2 0),(3,.vp 3 0)] VE∧bw (PS.bq a q++[(3,.one 106 120 [dB d,.ac 1050 (e1.map aL.enc).length 8,.ac 1051 (cn.map Item.enc).length 3,dN,dI (-1),dB false,dN]),(1050,.acc 142 88 8 (e1.map aL.enc)),(1051,.acc 167 32 3 (cn.map Item.enc)),(2,.one 106 120 [dB false,dN,dN,dN,d0,dB false,dN])]) B) ?_ (k:=p.fq.aA.length) ⟨[(p.fq.item D).1],(p.fq.item D).2,e1,[it1],rfl,rfl,fun h0=>by rw[PZ h0],mG (df _),jQ _ _,U.top.item D,PY.dz (by omega),⟨rfl,rfl,rfl,trivial⟩,cG rfl ⟨rfl,rfl,rfl,rfl,trivial⟩⟩
  clear PY PZ
  rintro k VE B⟨l,q,e1,cn,z,Bk,P0,jj,hk,A,Y,hV,K⟩
  refine eA (PS.bq a q++[(3,.one 106 120 [dB d,.ac 1050 (e1.map aL.enc).length 8,.ac 1051 (cn.map Item.enc).length 3,dN,dI (-1),dB false,dN]),(1050,.acc 142 88 8 (e1.map aL.enc)),(1051,.acc 167 32 3 (cn.map Item.enc)),(2,.one 106 120 [dB false,dN,dN,dN,d0,dB false,dN])]) K ?_
  have K:bw (PS.bq a q++[(3,.one 106 120 [dB d,.ac 1050 (e1.map aL.enc).length 8,.ac 1051 (cn.map Item.enc).length 3,dN,dI (-1),dB false,dN]),(1050,.acc 142 88 8 (e1.map aL.enc)),(1051,.acc 167 32 3 (cn.map Item.enc)),(2,.one 106 120 [dB false,dN,dN,dN,d0,dB false,dN])]) (PS.bq a q++[(3,.one 106 120 [dB d,.ac 1050 (e1.map aL.enc).length 8,.ac 1051 (cn.map Item.enc).length 3,dN,dI (-1),dB false,dN]),(1050,.acc 142 88 8 (e1.map aL.enc)),(1051,.acc 167 32 3 (cn.map Item.enc)),(2,.one 106 120 [dB false,dN,dN,dN,d0,dB false,dN])]):=cG rfl ⟨rfl,rfl,rfl,rfl,trivial⟩
  have gi:q.aA.length=p.fq.aA.length:=by rw[A.aA]
  have fu:=A.ok.dY
  have yz:=A.ok.lt
  refine dx _ _ hV K (aM (ai (ae 1 aa (bI (mr F A.ok cF) aa aa aa aa (af (aK aa (fun yU=>?_) (fun yU=>?_)))))))
  ·have h2:=A.top.sign cF
   have pg:=ov A.ok yU
   have J:=(qs yU).1
   obtain⟨k,rfl⟩:∃k',k=k'+1:=⟨k-1,by have:=pg.2;omega⟩
   rw[ow yU] at z
   have h3:=h2.trans (h2.top.item D)
   have gz:=(Y.zero A.ok J).km (bD.xY A.st cF) (oy ..)
   refine aU (bN (bG (ae 1 aa ?_)))
   refine Og 3 (Of F Lq h2.top d (e:=e1) (cn:=cn) gz (by omega) (by omega)) rfl ⟨rfl,rfl,rfl,rfl,rfl,rfl,rfl,rfl,trivial⟩ rfl rfl rfl (fun e2 it2 IX=>?_)
   obtain⟨Bu,gi2⟩:=IX
   refine af ?_
   refine⟨k,fZ k,l++[((q.sign cF).2.item D).1],((q.sign cF).2.item D).2,e2,cn++[it2],z,?_,?_,?_,?_,A.trans h3,Bu.dz (by omega),⟨rfl,rfl,rfl,trivial⟩,cG rfl ⟨rfl,rfl,rfl,rfl,trivial⟩⟩
   ·rw[bK,bK,Bk];rfl
   ·intro h0;rw[gi2 h0,P0 J]
   ·have:=h3.aJ;have:=pg.1;have:=(h2.top.item D).aJ;rw[bK,eK];show l.length+1≤((q.sign cF).2.item D).2.aJ+1;omega
   have:=(h2.top.item D).aJ;have:=pg.1;show p.fq.aA.length≤k+((q.sign cF).2.item D).2.aJ;omega
  rw[ox yU] at z
  rw[PS.ig yU]
  refine dM ?_
  exact⟨_,e1,cn,by unfold PS.items;rw[aj (by rw[O];decide)];rw[←z],fun h0=>by unfold PS.items;rw[aj (by rw[O];decide),←z];exact P0 h0,U.trans A,Y,⟨rfl,rfl,rfl,trivial⟩,cG rfl ⟨rfl,rfl,rfl,rfl,trivial⟩⟩
 have O:(p.fq.sign eS).1=true:=by simpa using O
 refine aU ?_
 exact⟨_,[],[],by unfold PS.items;rw[aw O],fun _=>by unfold PS.items;rw[aw O],U.trans (U.top.sign _),(EG.go2 hz (U.trans (U.top.sign _)) (by rw[oy];unfold PS.fq;rw[mi];exact pn)).dz (by omega),⟨rfl,rfl,rfl,trivial⟩,cG rfl ⟨rfl,rfl,rfl,rfl,trivial⟩⟩
open Go
set_option maxRecDepth 10000
set_option maxHeartbeats 4000000 in
theorem G0{T:bf}(F:FT T){D:Rd}(Lq:ke T D){a:Bool}{p:PS}(hp:bd p):bX T 101 [.vp 1000 0] (PS.bq a p) fun r Bn=>(∃s:jr,r=et s.enc∧((p.cT D a).2.err=0→s=(p.cT D a).1))∧Bn=PS.bq a (p.cT D a).2:=by
 refine cr F.Y7 aa (ak 1 aa (ai (ae 1 aa (al (pT (Ee F Lq hp) aa aa aa (fun r hr=>?_))))))
 obtain⟨c1,rfl,iZ⟩:=hr
 refine ae 2 aa (rR 7 1 1101 3 8 1 aa aa aa (ae 2 aa (af ?_)))
 refine aM (bN ?_)
 refine d6 (fun k VE B=>∃(s:jr)(q:PS)(cs:List Core)(os:List Int),p0 D a k s q=p.cT D a∧cs≠[]∧cs.length=s.fP.length∧os=s.ops∧(q.err=0→cs=s.fP)∧s.fP.length≤q.aJ+1∧s.ops.length≤q.aJ+1∧p.aA.length≤k+q.aJ∧bQ p q∧bw [(0,.vp 1000 0),(2,.vp 2 0),(3,.vp 3 0)] VE∧bw (PS.bq a q++[(3,.one 39 48 [.bs 6 (cs.map Core.enc).length 7,.ac 1101 (os.map (fun i=>[DC.i .i64 i])).length 1]),(6,.arr 106 120 7 (cs.map Core.enc).length (cs.map Core.enc)),(1101,.acc 3 8 1 (os.map (fun i=>[DC.i .i64 i]))),(2,.one 39 48 [dN,dN])]) B) ?_ (k:=p.aA.length) ⟨⟨[(p.core D a).1],[]⟩,(p.core D a).2,[c1],[],rfl,pO _ _,rfl,rfl,fun h0=>by rw[iZ h0],mG (df _),df _,jQ _ _,hp.core D a,⟨rfl,rfl,rfl,trivial⟩,cG rfl ⟨rfl,rfl,rfl,rfl,trivial⟩⟩
 clear iZ
 rintro k VE B⟨s,q,cs,os,z,U,rH,J,Y,jj,sX,hk,O,hV,hB⟩
 refine eA (PS.bq a q++[(3,.one 39 48 [.bs 6 (cs.map Core.enc).length 7,.ac 1101 (os.map (fun i=>[DC.i .i64 i])).length 1]),(6,.arr 106 120 7 (cs.map Core.enc).length (cs.map Core.enc)),(1101,.acc 3 8 1 (os.map (fun i=>[DC.i .i64 i]))),(2,.one 39 48 [dN,dN])]) hB ?_
 have hB:bw (PS.bq a q++[(3,.one 39 48 [.bs 6 (cs.map Core.enc).length 7,.ac 1101 (os.map (fun i=>[DC.i .i64 i])).length 1]),(6,.arr 106 120 7 (cs.map Core.enc).length (cs.map Core.enc)),(1101,.acc 3 8 1 (os.map (fun i=>[DC.i .i64 i]))),(2,.one 39 48 [dN,dN])]) (PS.bq a q++[(3,.one 39 48 [.bs 6 (cs.map Core.enc).length 7,.ac 1101 (os.map (fun i=>[DC.i .i64 i])).length 1]),(6,.arr 106 120 7 (cs.map Core.enc).length (cs.map Core.enc)),(1101,.acc 3 8 1 (os.map (fun i=>[DC.i .i64 i]))),(2,.one 39 48 [dN,dN])]):=cG rfl ⟨rfl,rfl,rfl,rfl,trivial⟩
 have gi:q.aA.length=p.aA.length:=by rw[O.aA]
 have fu:=O.ok.dY
 have yz:=O.ok.lt
 have hol:os.length=s.ops.length:=by rw[J]
 refine dx _ _ hV hB (aM (ak 5 aa (aK aa (fun wF=>?_) (fun wF=>?_))))
 ·have Z:q.err=0:=by simpa using wF
  refine aU (bN (aM (bN (ai (ae 1 aa (bI (fD F O.ok tZ) aa aa aa aa (ae 1 aa (af ?_))))))))
  refine aK aa (fun K=>?_) (fun K=>?_)
  ·have A:q.op=some (6,(q.keyword tZ).2):=by unfold PS.op;rw[aw K]
   obtain⟨G,n4,j0⟩:=O.top.op A
   obtain⟨k,rfl⟩:∃k',k=k'+1:=⟨k-1,by omega⟩
   rw[vm A] at z
   generalize (q.keyword tZ).2=q1 at A G n4 z⊢
   have I:=G.top.dF [gE]
   have g2:=I.top.core D a
   have ga:=I.aJ
   have gb:=g2.aJ
   refine bG (ae 3 aa ?_)
   refine al (ey (rows:=(os.map (fun i=>[DC.i .i64 i]))) (ys:=[[.i .i64 6]]) rfl rfl rfl (.bs (rows:=[[.i .i64 6]]) rfl) (bW rfl) (by simp only[bK,cC,dk,dO];omega) (fun h=>by rw[h];rfl) (fun h=>by rw[h];rfl) ?_)
   refine ae 2 aa (af ?_)
   refine ai (ae 1 aa (bI (iW F G.ok gE) aa aa aa aa (af (iK (bo 3 aa (eL aa (pT (Ee F Lq I.top) aa aa aa (fun r hr=>?_))))))))
   obtain⟨c2,rfl,rI⟩:=hr
   refine bo 1 aa ?_
   refine eL rfl (r5 (rows:=cs.map Core.enc) (ys:=[c2.enc]) rfl rfl rfl (.bs (rows:=[c2.enc]) rfl) (bW rfl) (by simp only[bK,cC,dk,dO];omega) ?_)
   refine bo 2 aa (dc ?_)
   refine⟨k,fZ k,⟨s.fP++[((q1.aW [gE]).core D a).1],s.ops++[6]⟩,((q1.aW [gE]).core D a).2,cs++[c2],os++[6],z,mo U _,?_,?_,?_,?_,?_,?_,(O.trans G).trans (I.trans g2),⟨aa,aa,aa,trivial⟩,?_⟩
   ·rw[bK,bK,rH];rfl
   ·rw[J]
   ·intro h0;rw[rI h0,Y Z]
   ·rw[bK,eK];omega
   ·rw[bK,eK];omega
   ·omega
   simp only[dT,eB,fy]
   exact cG aa ⟨aa,aa,aa,aa,trivial⟩
  rw[PS.cL K]
  refine ai (ae 1 aa (bI (fD F O.ok tM) aa aa aa aa (ae 1 aa (af ?_))))
  refine aK aa (fun rL=>?_) (fun rL=>?_)
  ·have A:q.op=some (7,(q.keyword tM).2):=by unfold PS.op;rw[aj (by rw[K];decide),aw rL]
   obtain⟨G,n4,j0⟩:=O.top.op A
   obtain⟨k,rfl⟩:∃k',k=k'+1:=⟨k-1,by omega⟩
   rw[vm A] at z
   generalize (q.keyword tM).2=q1 at A G n4 z⊢
   have I:=G.top.dF [gE]
   have g2:=I.top.core D a
   have ga:=I.aJ
   have gb:=g2.aJ
   refine bG (ae 3 aa ?_)
   refine al (ey (rows:=(os.map (fun i=>[DC.i .i64 i]))) (ys:=[[.i .i64 7]]) rfl rfl rfl (.bs (rows:=[[.i .i64 7]]) rfl) (bW rfl) (by simp only[bK,cC,dk,dO];omega) (fun h=>by rw[h];rfl) (fun h=>by rw[h];rfl) ?_)
   refine ae 2 aa (af ?_)
   refine ai (ae 1 aa (bI (iW F G.ok gE) aa aa aa aa (af (iK (bo 3 aa (eL aa (pT (Ee F Lq I.top) aa aa aa (fun r hr=>?_))))))))
   obtain⟨c2,rfl,rI⟩:=hr
   refine bo 1 aa ?_
   refine eL rfl (r5 (rows:=cs.map Core.enc) (ys:=[c2.enc]) rfl rfl rfl (.bs (rows:=[c2.enc]) rfl) (bW rfl) (by simp only[bK,cC,dk,dO];omega) ?_)
   refine bo 2 aa (dc ?_)
   refine⟨k,fZ k,⟨s.fP++[((q1.aW [gE]).core D a).1],s.ops++[7]⟩,((q1.aW [gE]).core D a).2,cs++[c2],os++[7],z,mo U _,?_,?_,?_,?_,?_,?_,(O.trans G).trans (I.trans g2),⟨aa,aa,aa,trivial⟩,?_⟩
   ·rw[bK,bK,rH];rfl
   ·rw[J]
   ·intro h0;rw[rI h0,Y Z]
   ·rw[bK,eK];omega
   ·rw[bK,eK];omega
   ·omega
   simp only[dT,eB,fy]
   exact cG aa ⟨aa,aa,aa,aa,trivial⟩
  rw[PS.cL rL]
  refine ai (ae 1 aa (bI (fD F O.ok tq) aa aa aa aa (ae 1 aa (af ?_))))
  refine aK aa (fun Fq=>?_) (fun Fq=>?_)
  ·have A:q.op=some (8,(q.keyword tq).2):=by unfold PS.op;rw[aj (by rw[K];decide),aj (by rw[rL];decide),aw Fq]
   obtain⟨G,n4,j0⟩:=O.top.op A
   obtain⟨k,rfl⟩:∃k',k=k'+1:=⟨k-1,by omega⟩
   rw[vm A] at z
   generalize (q.keyword tq).2=q1 at A G n4 z⊢
   have I:=G.top.dF [gE]
   have g2:=I.top.core D a
   have ga:=I.aJ
   have gb:=g2.aJ
   refine bG (ae 3 aa ?_)
   refine al (ey (rows:=(os.map (fun i=>[DC.i .i64 i]))) (ys:=[[.i .i64 8]]) rfl rfl rfl (.bs (rows:=[[.i .i64 8]]) rfl) (bW rfl) (by simp only[bK,cC,dk,dO];omega) (fun h=>by rw[h];rfl) (fun h=>by rw[h];rfl) ?_)
   refine ae 2 aa (af ?_)
   refine ai (ae 1 aa (bI (iW F G.ok gE) aa aa aa aa (af (iK (bo 3 aa (eL aa (pT (Ee F Lq I.top) aa aa aa (fun r hr=>?_))))))))
   obtain⟨c2,rfl,rI⟩:=hr
   refine bo 1 aa ?_
   refine eL rfl (r5 (rows:=cs.map Core.enc) (ys:=[c2.enc]) rfl rfl rfl (.bs (rows:=[c2.enc]) rfl) (bW rfl) (by simp only[bK,cC,dk,dO];omega) ?_)
   refine bo 2 aa (dc ?_)
   refine⟨k,fZ k,⟨s.fP++[((q1.aW [gE]).core D a).1],s.ops++[8]⟩,((q1.aW [gE]).core D a).2,cs++[c2],os++[8],z,mo U _,?_,?_,?_,?_,?_,?_,(O.trans G).trans (I.trans g2),⟨aa,aa,aa,trivial⟩,?_⟩
   ·rw[bK,bK,rH];rfl
   ·rw[J]
   ·intro h0;rw[rI h0,Y Z]
   ·rw[bK,eK];omega
   ·rw[bK,eK];omega
   ·omega
   simp only[dT,eB,fy]
   exact cG aa ⟨aa,aa,aa,aa,trivial⟩
  have A:q.op=none:=by unfold PS.op;rw[aj (by rw[K];decide),aj (by rw[rL];decide),aj (by rw[Fq];decide)]
  rw[BV A] at z
  rw[PS.cL Fq]
  refine ai (ae 1 aa ?_)
  refine gn 13 6 rfl rfl ⟨fun _=>⟨rfl,rfl⟩,fun h=>absurd h (by decide),trivial⟩ ?_
  refine fx 13 1101 aa aa ⟨trivial,fun _=>⟨aa,aa⟩,trivial⟩ (ae 1 aa (af ?_))
  refine ax ?_
  rw[←z]
  subst J
  have he:jr.enc ⟨cs,s.ops⟩=[.sl (cs.map Core.enc),.ff (s.ops.map fun i=>[.i .i64 i])]:=by unfold jr.enc;rw[DC.qO (rows:=cs.map Core.enc) (by simpa using U)]
  exact⟨_,PS.bq a _,rfl,⟨rfl,trivial⟩,⟨⟨cs,s.ops⟩,by rw[he];rfl,fun h0=>by rw[Y h0]⟩,rfl⟩
 have Z:¬q.err=0:=by simpa using wF
 have A:=Vv Z
 rw[BV A] at z
 refine dM (ai (ae 1 aa ?_))
 refine gn 47 6 rfl rfl ⟨fun _=>⟨rfl,rfl⟩,fun h=>absurd h (by decide),trivial⟩ ?_
 refine fx 47 1101 aa aa ⟨trivial,fun _=>⟨aa,aa⟩,trivial⟩ (ae 1 aa (af ?_))
 refine ax ?_
 rw[←z]
 subst J
 have he:jr.enc ⟨cs,s.ops⟩=[.sl (cs.map Core.enc),.ff (s.ops.map fun i=>[.i .i64 i])]:=by unfold jr.enc;rw[DC.qO (rows:=cs.map Core.enc) (by simpa using U)]
 exact⟨_,PS.bq a _,rfl,⟨rfl,trivial⟩,⟨⟨cs,s.ops⟩,by rw[he];rfl,fun h0=>by rw[Y h0]⟩,rfl⟩
open Go
set_option maxRecDepth 10000
def AV(k:Int)(t:List UInt8)(v:Int×Int):Nat×BS:=(1001,.one 50 328 [dI k,d0,d0,d0,dN,dN,dS t,dS [],dN,dI v.1,dI v.2,dN,d0,dN,dN,dN,dN,dN,d0,d0,d0])
def Bv(k:Int)(t:List UInt8)(v:Int×Int)(n:Nat)(w:Int)(s:DC):Nat×BS:=(1001,.one 50 328 [dI k,d0,d0,d0,dN,dN,dS t,dS [],dN,dI v.1,dI v.2,.ac 1050 n 8,dI w,.d s,dN,dN,dN,dN,d0,d0,d0])
def AW(k:Int)(t:List UInt8)(v:Int×Int)(n m:Nat):Nat×BS:=(1001,.one 50 328 [dI k,d0,d0,d0,dN,dN,dS t,dS [],dN,dI v.1,dI v.2,.ac 1050 n 8,d0,.ac 1051 m 2,dN,dN,dN,dN,d0,d0,d0])
set_option maxHeartbeats 2000000 in
theorem Lr{T:bf}(F:FT T){D:Rd}(G:ke T D){a:Bool}{p:PS}(hp:bd p)(k:Int)(t:List UInt8):bX T 153 [.vp 1000 0,.vp 1001 0] (PS.bq a p++[AV k t (0,0)]) fun r Bn=>∃v,r= .tuple []∧Bn=PS.bq a ((p.aW [kO,oq,j6]).period D).2++[AV k t v]∧(((p.aW [kO,oq,j6]).period D).2.err=0→v=((p.aW [kO,oq,j6]).period D).1):=by
 refine cr F.ZA aa ?_
 have z:=hp.dF [kO]
 have A:=z.top.dF [oq]
 have I:=A.top.dF [j6]
 refine eA (PS.bq a p++[(1001,.one 50 328 [dI k,d0,d0,d0,dN,dN,dS t,dS [],dN,dI (Prod.fst ((0,0):Int×Int)),dI (Prod.snd ((0,0):Int×Int)),dN,d0,dN,dN,dN,dN,dN,d0,d0,d0])]) (cG aa ⟨aa,trivial⟩) (ai (ae 1 aa (bI (iW F hp.ok kO) aa aa aa aa (af (ai (ae 1 aa (bI (iW F z.ok oq) aa aa aa aa (af (ai ?_)))))))))
 refine ae 1 aa (bI (iW F A.ok j6) aa aa aa aa (af (bG (ae 2 aa (al (pT (L4 F G I.st) aa aa aa (fun r J=>?_)))))))
 obtain⟨v,rfl,K⟩:=J
 refine ae 3 aa (af ?_)
 exact⟨_,PS.bq a _++[AV k t v],aa,cG aa ⟨aa,trivial⟩,v,aa,aa,K⟩
set_option maxHeartbeats 2000000 in
theorem Vw{T:bf}(F:FT T){D:Rd}(K:ke T D){a:Bool}{p:PS}(hp:bd p)(k:Int)(t:List UInt8)(v:Int×Int)(w:Int)(s:DC){e:List aL}{N:Nat}(he:EG p e N)(hN:N≤100000):bX T 154 [.vp 1000 0,.vp 1001 0] (PS.bq a p++[Bv k t v (e.map aL.enc).length w s,(1050,.acc 142 88 8 (e.map aL.enc))]) fun r Bn=>∃e1 x,r= .tuple []∧Bn=PS.bq a (p.dX D).2++[Bv k t v (e1.map aL.enc).length x s,(1050,.acc 142 88 8 (e1.map aL.enc))]∧EG (p.dX D).2 e1 (N+610)∧((p.dX D).2.err=0→x=(p.dX D).1):=by
 refine cr F.O3 aa (eA (PS.bq a p++[(1001,.one 50 328 [dI k,d0,d0,d0,dN,dN,dS t,dS [],dN,dI v.1,dI v.2,.ac 1050 (e.map aL.enc).length 8,dI w,.d s,dN,dN,dN,dN,d0,d0,d0]),(1050,.acc 142 88 8 (e.map aL.enc))]) (cG aa ⟨aa,aa,trivial⟩) (ak 4 aa (ai (ae 1 aa (bI (fD F hp.ok jP) aa aa aa aa (af (aK aa (fun z=>?_) (fun z=>?_))))))))
 ·have G:p.dX D=(p.keyword jP).2.expr D:=by unfold PS.dX;rw[aw z]
  have A:=hp.kw jP
  have O:=A.top.expr D
  refine ai (ae 6 aa (js 1001 11 aa aa (ez (PS.bq a (p.keyword jP).2++[(1001,.one 50 328 [dI k,d0,d0,d0,dN,dN,dS t,dS [],dN,dI v.1,dI v.2,.undef,dI (-1),.d s,dN,dN,dN,dN,d0,d0,d0]),(1050,.acc 142 88 8 (e.map aL.enc))]) (cG aa ⟨aa,aa,trivial⟩) (jm (t6 F K A.top (he.go2 A (mi ..)) hN) aa aa aa aa (fun e1 I=>?_)))))
  have U:=I.small O.ok (by omega)
  refine ae 3 aa (af ?_)
  refine bG (ae 6 aa ?_)
  refine al (gj rfl rfl (by simp only[cC,bb];omega) (by simp only[cC,bb];omega) ?_)
  obtain⟨x,J⟩:∃x:Int,(((e1.map aL.enc).length:Nat):Int) -Int.ofNat 1=x:=⟨_,rfl⟩
  rw[J]
  refine ae 3 aa (af ?_)
  rw[G]
  exact⟨_,PS.bq a _++[Bv k t v (e1.map aL.enc).length x s,(1050,.acc 142 88 8 (e1.map aL.enc))],rfl,cG rfl ⟨rfl,rfl,trivial⟩,e1,x,rfl,rfl,I.dz (by omega),fun h0=>J.symm.trans (qN A.top I h0)⟩
 have G:p.dX D=(-1,p):=by unfold PS.dX;rw[aj (by rw[z];decide)]
 rw[PS.cL z]
 refine aU ?_
 rw[G]
 exact⟨_,PS.bq a _++[Bv k t v (e.map aL.enc).length (-1) s,(1050,.acc 142 88 8 (e.map aL.enc))],rfl,cG rfl ⟨rfl,rfl,trivial⟩,e, -1,rfl,rfl,he.dz (by omega),fun _=>rfl⟩
set_option maxHeartbeats 4000000 in
theorem O'{T:bf}(F:FT T){D:Rd}(J:ke T D){a:Bool}{p:PS}(hp:bd p)(k:Int)(t:List UInt8)(v:Int×Int){ss:List (List UInt8×Int)}(K:ss.length≤100000){e:List aL}{N:Nat}(he:EG p e N)(hN:N≤100000):bX T 155 [.vp 1000 0,.vp 1001 0] (PS.bq a p++[AW k t v (e.map aL.enc).length (ss.map eM).length,(1050,.acc 142 88 8 (e.map aL.enc)),(1051,.acc 94 24 2 (ss.map eM))]) fun r Bn=>∃e1 x,r= .tuple []∧Bn=PS.bq a (p.set D).2++[AW k t v (e1.map aL.enc).length ((ss++[x]).map eM).length,(1050,.acc 142 88 8 (e1.map aL.enc)),(1051,.acc 94 24 2 ((ss++[x]).map eM))]∧EG (p.set D).2 e1 (N+610)∧((p.set D).2.err=0→x=(p.set D).1):=by
 refine cr F.ZB aa ?_
 have A:=hp.name
 have z:=A.trans (A.top.gK mS)
 have O:=z.trans (z.top.expr D)
 refine eA (PS.bq a p++[(1001,.one 50 328 [dI k,d0,d0,d0,dN,dN,dS t,dS [],dN,dI v.1,dI v.2,.ac 1050 (e.map aL.enc).length 8,d0,.ac 1051 (ss.map eM).length 2,dN,dN,dN,dN,d0,d0,d0]),(1050,.acc 142 88 8 (e.map aL.enc)),(1051,.acc 94 24 2 (ss.map eM))]) (cG aa ⟨aa,aa,aa,trivial⟩) (ai (ae 1 aa (bI (kM F hp.ok) aa aa aa aa (ae 3 aa (af ?_)))))
 refine ai (ae 1 aa (bI (oj F A.ok mS) aa aa aa aa (af (ai (ae 6 aa (js 1001 11 aa aa (ez (PS.bq a (p.name.2.bx mS)++[(1001,.one 50 328 [dI k,d0,d0,d0,dN,dN,dS t,dS [],dN,dI v.1,dI v.2,.undef,d0,.ac 1051 (ss.map eM).length 2,dN,dN,dN,dN,d0,d0,d0]),(1050,.acc 142 88 8 (e.map aL.enc)),(1051,.acc 94 24 2 (ss.map eM)),(4,.one 94 24 [dS p.name.1,d0])]) (cG aa ⟨aa,aa,aa,aa,trivial⟩) ?_)))))))
 refine jm (t6 F J z.top (he.go2 z (by rw[rN];exact ql ..)) hN) rfl rfl rfl rfl (fun e1 G=>?_)
 have U:=G.small O.ok (by omega)
 refine ae 3 aa (af ?_)
 refine ai (ae 5 aa ?_)
 refine al (gj rfl rfl (by simp only[cC,bb];omega) (by simp only[cC,bb];omega) ?_)
 obtain⟨x,I⟩:∃x:Int,(((e1.map aL.enc).length:Nat):Int) -Int.ofNat 1=x:=⟨_,rfl⟩
 rw[I]
 refine ae 2 aa (af ?_)
 refine iK (bo 7 aa ?_)
 refine eL rfl (ey (rows:=ss.map eM) (ys:=[(eM (p.name.1,x))]) rfl rfl rfl (.bs (rows:=[(eM (p.name.1,x))]) rfl) (bW rfl) (by rw[bK,cC];simp only[dk,dO];omega) (fun h=>by rw[h];rfl) (fun h=>by rw[h];rfl) ?_)
 refine bo 3 aa (dc ?_)
 exact⟨_,PS.bq a (p.set D).2++[AW k t v (e1.map aL.enc).length ((ss.map eM)++[(eM (p.name.1,x))]).length,(1050,.acc 142 88 8 (e1.map aL.enc)),(1051,.acc 94 24 2 ((ss.map eM)++[(eM (p.name.1,x))]))],rfl,cG rfl ⟨rfl,rfl,rfl,trivial⟩,e1,(p.name.1,x),rfl,by rw[dT];rfl,G.dz (by omega),fun h0=>by rw[←I,qN z.top G h0];rfl⟩
theorem Pa{T:bf}(F:FT T){a:Bool}{p:PS}(hp:bd p):bX T 100 [.vp 1000 0] (PS.bq a p) fun r Bn=>r= .tuple []∧Bn=PS.bq a p.fin:=by
 refine cr F.Y6 aa ?_
 have G:(p.aA.map cM.enc)[p.aJ]?=some p.tok.enc:=by rw[iw,hp.ok.get];rfl
 refine eX (bo 6 aa (vz (g:=aF) aa (fun z=>?_) (fun z=>?_)))
 ·have h0:p.err=0:=by simpa using z
  refine eb aa (z) (bM aa ?_)
  refine eb aa (z) (pr aa ?_)
  refine eb aa (z) (du aa ?_)
  refine kp aa (z) aa (c8 aa aa aa ?_)
  refine eb aa (z) (bM aa ?_)
  refine eb aa (z) (pr aa ?_)
  refine eb aa (z) (du aa ?_)
  refine kp aa (z) aa (c8 aa aa aa ?_)
  refine eb aa (z) (kZ (row:=p.tok.enc) aa aa G aa ?_)
  refine eb aa (z) (tD aa ?_)
  refine kp aa (z) aa (lT aa aa ?_)
  refine eb aa (z) (iq aa aa ?_)
  refine dG (cU aa (z) aa ?_)
  refine dc (aK aa (fun A=>?_) (fun A=>?_))
  ·have hk:¬p.tok.kind=6:=by simpa using A
   have I:p.fin=p.fail 5:=by unfold PS.fin;rw[aw ⟨h0,hk⟩]
   refine bG (ae 1 aa ?_)
   refine bI (lX F hp.ok (by decide)) rfl rfl rfl rfl ?_
   refine af ?_
   rw[I]
   exact⟨_,PS.bq a _,aa,⟨aa,trivial⟩,aa,aa⟩
  have hk:p.tok.kind=6:=by simpa using A
  have I:p.fin=p:=by unfold PS.fin;rw[aj (fun k=>k.2 hk)]
  refine aU ?_
  rw[I]
  exact⟨_,PS.bq a _,aa,⟨aa,trivial⟩,aa,aa⟩
 have h0:¬p.err=0:=by simpa using z
 have I:p.fin=p:=by unfold PS.fin;rw[aj (fun k=>h0 k.1)]
 refine cP aa (z) (cP aa (z) (cP aa (z) (iJ aa (z) (cP aa (z) (cP aa (z) (cP aa (z) (iJ aa (z) (cP aa (z) (cP aa (z) ?_)))))))))
 refine iJ aa (z) (cP aa (z) (dG (cK aa (z) aa ?_)))
 refine dc (eJ aa aa (aU ?_))
 rw[I]
 exact⟨_,PS.bq a _,aa,⟨aa,trivial⟩,aa,aa⟩
end Go.Ev.Pp
