/- Part 20 of rules for walks through the code of a program, and of such walks; what each part proves is said by its theorems. -/
import Derived.Test.YtijnechfhdlgiaaGreatDoorS19
set_option linter.unusedVariables false
set_option linter.unusedSimpArgs false
namespace Go.Ev.Pp
open Go
set_option maxRecDepth 10000
theorem L8(q:PS)(K:q.ok)(a:Bool):q.gk.2.lY a=q.dC.2.lY a∧(q.dC.2.err=0→q.dC=q.gk)∧q.gk.2.err=q.dC.2.err∧q.gk.2.aJ=q.dC.2.aJ:=by
 by_cases h0:q.err=0
 ·by_cases hk:q.tok.kind=2
  ·have z:q.ko=q:=by unfold PS.ko;rw[aj (fun k=>k.2 hk)]
   have h2:q.dC=q.gk:=by unfold PS.dC;rw[z,aj (by simpa using h0)]
   rw[h2];exact⟨rfl,fun _=>rfl,rfl,rfl⟩
  have z:q.ko=q.fail 5:=by unfold PS.ko;rw[aw ⟨h0,hk⟩]
  have A:(q.fail 5).err=5:=vM h0
  have h2:q.dC=(0,q.fail 5):=by unfold PS.dC;rw[z,aw (by rw[A];decide)]
  have G:q.name=([],q.fail 5):=by unfold PS.name PS.take;rw[aw h0,aj hk]
  have I:((q.fail 5).sign jo).1=false:=by rw[show(q.fail 5).sign jo=_ from r8 (by rw[A];decide) 5 jo]
  have J:q.gk=(q.fail 5).push ⟨2,0,0,[],[],ct⟩:=by unfold PS.gk;rw[G,aj (by rw[I];decide)]
  rw[h2,J];exact⟨rfl,fun h=>absurd (A.symm.trans h) (by decide),rfl,rfl⟩
 have z:q.ko=q:=by unfold PS.ko;rw[aj (fun k=>h0 k.1)]
 have h2:q.dC=(0,q):=by unfold PS.dC;rw[z,aw h0]
 have G:q.name=([],q):=by unfold PS.name PS.take;rw[aj h0]
 have I:(q.sign jo).1=false:=by rw[show q.sign jo=_ from r8 h0 5 jo]
 have J:q.gk=q.push ⟨2,0,0,[],[],ct⟩:=by unfold PS.gk;rw[G,aj (by rw[I];decide)]
 rw[h2,J];exact⟨rfl,fun h=>absurd h h0,rfl,rfl⟩
theorem EG.dC{q:PS}{e:List aN}{N:Nat}(z:q.ok)(h:EG q.gk.2 e N):EG q.dC.2 e N:=by
 obtain⟨_,h2,A,G⟩:=L8 q z true
 exact⟨fun h0=>by rw[h2 h0];exact h.eq (by rw[A];exact h0),by rw[←G];exact h.len⟩
theorem T6{p:PS}(h:¬p.err=0):p.join=none:=by
 unfold PS.join
 simp only[show∀s,p.keyword s=(false,p) from fun s=>r8 h 1 s]
 rfl
theorem Wf{p:PS}(h:¬p.err=0):p.op=none:=by
 unfold PS.op
 simp only[show∀s,p.keyword s=(false,p) from fun s=>r8 h 1 s]
 rfl
theorem T7{p:PS}(h:¬p.err=0)(s:List UInt8):p.sign s=(false,p):=r8 h 5 s
theorem GQ(p:PS)(b:Bool):(p.source b).2.ex=p.ex:=(vO ..).trans (qu ..)
section
variable{T:bd}{VE:b0}{B:bo}
def tz(k:Nat):List (Nat×Nat):=[(1000,1000),(1001,k),(1050,1050),(1051,1051)]
theorem O0{f:Nat}{d:Key}{O:Option (List Nat)}{J:List bt}{l:List aF}{b9:List VV}{a dd:Bool}{p K:PS}{e:List aN}{cr:List Item}{G:List aN→Item→Prop}{Q:b0→bo→Prop}(k:Nat)(h:bY T f b9 (p.ib a dd e cr) fun r Bn=>∃z A,r= .tuple []∧Bn=K.ib a dd z (cr++[A])∧G z A)
  (U:oo 2000 (tz k)=true) (Y:qO (tz k) 2000 (p.ib a dd e cr) B) (Z:i6 VE l=some (iN (tz k) 2000 b9)) (hi:ym (tz k) (p.ib a dd e cr)=true)
  (hc:(kK 2000 (kW 1050 VE VE)&&(kL 2000 B&&clean (kW 1050 VE VE) (eM (tz k) B) (tz k)))=true) (hq:∀z A,G z A→VO T J ((d.n,.tuple [])::kW 1050 VE VE) (m6 (tz k) 2000 (K.ib a dd z (cr++[A]))++eM (tz k) B) Q):VO T (⟨some d,none,O,.call f l⟩::J) VE B Q:=by
 obtain⟨a1,I⟩:=iF hc
 obtain⟨I,a3⟩:=iF I
 exact sf (Bi:=p.ib a dd e cr) 1050 (tz k) 2000 rfl U a1 I hi a3 Z Y h fun r Bn hp=>by
  obtain⟨z,A,rfl,rfl,h5⟩:=hp
  exact hq z A h5
end
set_option maxHeartbeats 8000000 in
theorem EV{T:bd}(F:FT T){D:Rd}(Lq:kp T D){a:Bool}{p:PS}(hp:bf p):bY T 162 [.vp 1000 0] (PS.bq a p) fun r Bn=>(∃c:Core,r=ez c.enc∧((p.core D a).2.err=0→c=(p.core D a).1))∧Bn=PS.bq a (p.core D a).2:=by
 refine cw F.aan aa (eD (PS.bq a {p with ex:=[]}) ⟨aa,trivial⟩ ?_)
 have h0:bP {p with ex:=[]} {p with ex:=[]}:=.refl hp.nil.top
 have je:bP {p with ex:=[]} p.iQ:=h0.trans (h0.top.dK [zW])
 have U:bP {p with ex:=[]} p.fw:=je.trans (je.top.kw jg)
 have hz:EG {p with ex:=[]} [] 0:=⟨fun _=>rfl,da _⟩
 have F3:EG p.fw [] 0:=hz.go2 U (by unfold PS.fw;rw[mz];exact pE)
 refine al 1 aa (al 3 aa (ai (ae 1 aa (bI (jb F h0.ok zW) aa aa aa aa (af (ai (ae 1 aa (bI (fN F je.ok jg) aa aa aa aa ?_))))))))
 obtain⟨d,hd⟩:∃d,(p.iQ.keyword jg).1=d:=⟨_,rfl⟩
 rw[hd]
 refine ae 2 aa (af ?_)
 refine vY (fun VE B=>∃(q:PS)(e1:List aN)(cr:List Item),(p.fw.items D).2=q∧(q.err=0→cr=(p.fw.items D).1)∧bP {p with ex:=[]} q∧EG q e1 1000∧br [(0,.vp 1000 0),(2,.vp 2 0),(3,.vp 3 0)] VE∧br (PS.bq a q++[(3,.one 106 120 [dB d,.ac 1050 (e1.map aN.enc).length 8,.ac 1051 (cr.map Item.enc).length 3,dN,dI (-1),dB false,dN]),(1050,.acc 142 88 8 (e1.map aN.enc)),(1051,.acc 167 32 3 (cr.map Item.enc)),(2,.one 106 120 [dB false,dN,dN,dN,d0,dB false,dN])]) B) ?_ ?_
 ·rintro VE B⟨q,e1,cr,hq2,F6,A,Y,hV,K⟩
  refine eD (PS.bq a q++[(3,.one 106 120 [dB d,.ac 1050 (e1.map aN.enc).length 8,.ac 1051 (cr.map Item.enc).length 3,dN,dI (-1),dB false,dN]),(1050,.acc 142 88 8 (e1.map aN.enc)),(1051,.acc 167 32 3 (cr.map Item.enc)),(2,.one 106 120 [dB false,dN,dN,dN,d0,dB false,dN])]) K ?_
  have K:br (PS.bq a q++[(3,.one 106 120 [dB d,.ac 1050 (e1.map aN.enc).length 8,.ac 1051 (cr.map Item.enc).length 3,dN,dI (-1),dB false,dN]),(1050,.acc 142 88 8 (e1.map aN.enc)),(1051,.acc 167 32 3 (cr.map Item.enc)),(2,.one 106 120 [dB false,dN,dN,dN,d0,dB false,dN])]) (PS.bq a q++[(3,.one 106 120 [dB d,.ac 1050 (e1.map aN.enc).length 8,.ac 1051 (cr.map Item.enc).length 3,dN,dI (-1),dB false,dN]),(1050,.acc 142 88 8 (e1.map aN.enc)),(1051,.acc 167 32 3 (cr.map Item.enc)),(2,.one 106 120 [dB false,dN,dN,dN,d0,dB false,dN])]):=cI rfl ⟨rfl,rfl,rfl,rfl,trivial⟩
  subst hq2
  have JA:bP {p with ex:=[]} (p.fA D):=A.trans (A.top.dK [il])
  have Qx:EG (p.fA D) e1 1000:=Y.go2 (A.top.dK [il]) pE
  have abz:=(A.top.dK [il]).er
  replace F6:(p.fA D).err=0→cr=(p.fw.items D).1:=fun h0=>F6 (abz h0)
  refine dn _ _ hV K (ai (ae 1 aa (bI (jb F A.ok il) aa aa aa aa (nf 3 3 1052 169 48 4 aa aa aa (af (eZ (bk 3 aa (yO (Ht F JA.top true) aa aa aa aa aa (bk 1 aa ?_)))))))))
  refine eo rfl (dZ (rows:=[]) (ys:=[((p.fA D).source a).1.enc]) rfl rfl rfl (.bs (rows:=[((p.fA D).source a).1.enc]) rfl) (bO rfl) (by simp only[bC,cP,dx];omega) (fun h=>rfl) (fun h=>rfl) ?_)
  refine bk 2 aa (c6 ?_)
  refine vY (fun VE B=>∃(q:PS)(e1:List aN)(src:List Src),(p.ja D a)=q∧(q.err=0→src=((p.fA D).j6 D a).1)∧src.length≤3000∧bP (p.fA D) q∧EG q e1 2000∧br [(0,.vp 1000 0),(2,.vp 2 0),(3,.vp 3 0)] VE∧br (PS.bq a q++[(3,.one 106 120 [dB d,.ac 1050 (e1.map aN.enc).length 8,.ac 1051 (cr.map Item.enc).length 3,.ac 1052 (src.map Src.enc).length 4,dI (-1),dB false,dN]),(1050,.acc 142 88 8 (e1.map aN.enc)),(1051,.acc 167 32 3 (cr.map Item.enc)),(1052,.acc 169 48 4 (src.map Src.enc)),(2,.one 106 120 [dB false,dN,dN,dN,d0,dB false,dN])]) B) ?_ ?_
  ·rintro VE B⟨q,e1,src,hq4,Qy,qR,A,Y,hV,K⟩
   refine eD (PS.bq a q++[(3,.one 106 120 [dB d,.ac 1050 (e1.map aN.enc).length 8,.ac 1051 (cr.map Item.enc).length 3,.ac 1052 (src.map Src.enc).length 4,dI (-1),dB false,dN]),(1050,.acc 142 88 8 (e1.map aN.enc)),(1051,.acc 167 32 3 (cr.map Item.enc)),(1052,.acc 169 48 4 (src.map Src.enc)),(2,.one 106 120 [dB false,dN,dN,dN,d0,dB false,dN])]) K ?_
   have K:br (PS.bq a q++[(3,.one 106 120 [dB d,.ac 1050 (e1.map aN.enc).length 8,.ac 1051 (cr.map Item.enc).length 3,.ac 1052 (src.map Src.enc).length 4,dI (-1),dB false,dN]),(1050,.acc 142 88 8 (e1.map aN.enc)),(1051,.acc 167 32 3 (cr.map Item.enc)),(1052,.acc 169 48 4 (src.map Src.enc)),(2,.one 106 120 [dB false,dN,dN,dN,d0,dB false,dN])]) (PS.bq a q++[(3,.one 106 120 [dB d,.ac 1050 (e1.map aN.enc).length 8,.ac 1051 (cr.map Item.enc).length 3,.ac 1052 (src.map Src.enc).length 4,dI (-1),dB false,dN]),(1050,.acc 142 88 8 (e1.map aN.enc)),(1051,.acc 167 32 3 (cr.map Item.enc)),(1052,.acc 169 48 4 (src.map Src.enc)),(2,.one 106 120 [dB false,dN,dN,dN,d0,dB false,dN])]):=cI rfl ⟨rfl,rfl,rfl,rfl,rfl,trivial⟩
   subst hq4
   refine dn _ _ hV K (vY (fun VE B=>∃(q:PS)(e1:List aN)(w:Int),(p.dH D a)=q∧(q.err=0→w=((p.ja D a).d7 D).1)∧bP (p.ja D a) q∧EG q e1 3000∧br [(0,.vp 1000 0),(2,.vp 2 0),(3,.vp 3 0)] VE∧br (PS.bq a q++[(3,.one 106 120 [dB d,.ac 1050 (e1.map aN.enc).length 8,.ac 1051 (cr.map Item.enc).length 3,.ac 1052 (src.map Src.enc).length 4,dI w,dB false,dN]),(1050,.acc 142 88 8 (e1.map aN.enc)),(1051,.acc 167 32 3 (cr.map Item.enc)),(1052,.acc 169 48 4 (src.map Src.enc)),(2,.one 106 120 [dB false,dN,dN,dN,d0,dB false,dN])]) B) ?_ ?_)
   ·rintro VE B⟨q,e1,w,hq5,hw,Bf,Y,hV,K⟩
    refine eD (PS.bq a q++[(3,.one 106 120 [dB d,.ac 1050 (e1.map aN.enc).length 8,.ac 1051 (cr.map Item.enc).length 3,.ac 1052 (src.map Src.enc).length 4,dI w,dB false,dN]),(1050,.acc 142 88 8 (e1.map aN.enc)),(1051,.acc 167 32 3 (cr.map Item.enc)),(1052,.acc 169 48 4 (src.map Src.enc)),(2,.one 106 120 [dB false,dN,dN,dN,d0,dB false,dN])]) K ?_
    have K:br (PS.bq a q++[(3,.one 106 120 [dB d,.ac 1050 (e1.map aN.enc).length 8,.ac 1051 (cr.map Item.enc).length 3,.ac 1052 (src.map Src.enc).length 4,dI w,dB false,dN]),(1050,.acc 142 88 8 (e1.map aN.enc)),(1051,.acc 167 32 3 (cr.map Item.enc)),(1052,.acc 169 48 4 (src.map Src.enc)),(2,.one 106 120 [dB false,dN,dN,dN,d0,dB false,dN])]) (PS.bq a q++[(3,.one 106 120 [dB d,.ac 1050 (e1.map aN.enc).length 8,.ac 1051 (cr.map Item.enc).length 3,.ac 1052 (src.map Src.enc).length 4,dI w,dB false,dN]),(1050,.acc 142 88 8 (e1.map aN.enc)),(1051,.acc 167 32 3 (cr.map Item.enc)),(1052,.acc 169 48 4 (src.map Src.enc)),(2,.one 106 120 [dB false,dN,dN,dN,d0,dB false,dN])]):=cI rfl ⟨rfl,rfl,rfl,rfl,rfl,trivial⟩
    subst hq5
    refine dn _ _ hV K (aK (ai (ae 1 aa (bI (fN F Bf.ok gx) aa aa aa aa (af (aI aa (fun tA=>?_) (fun tA=>?_)))))))
    ·have BQ:(p.dH D a).group=((true,(jk PS.dC (((p.dH D a).keyword gx).2.aU [gI])).1),(jk PS.dC (((p.dH D a).keyword gx).2.aU [gI])).2):=by unfold PS.group;rw[aw tA]
     have JB:=Bf.top.kw gx
     have hG:=JB.trans (JB.top.dK [gI])
     have Qz:EG (((p.dH D a).keyword gx).2.aU [gI]) e1 4000:=(Y.go2 hG (by rw[pE,mz])).dE (by omega)
     refine ai (ae 1 aa (bI (jb F JB.ok gI) aa aa aa aa (nf 3 6 1053 3 8 1 aa aa aa (af (al 2 aa (bJ (dY (fun k VE B=>∃(l:List Int)(q:PS)(e1:List aN)(gs:List Int),kE PS.dC k (l++[q.dC.1]) q.dC.2=jk PS.dC (((p.dH D a).keyword gx).2.aU [gI])∧gs.length=l.length∧(q.err=0→gs=l)∧l.length≤q.aJ+1∧(((p.dH D a).keyword gx).2.aU [gI]).aA.length≤k+q.aJ∧bP (((p.dH D a).keyword gx).2.aU [gI]) q∧EG q e1 4000∧br [(0,.vp 1000 0),(2,.vp 2 0),(3,.vp 3 0)] VE∧br (PS.bq a q++[(3,.one 106 120 [dB d,.ac 1050 (e1.map aN.enc).length 8,.ac 1051 (cr.map Item.enc).length 3,.ac 1052 (src.map Src.enc).length 4,dI w,dB true,.ac 1053 (gs.map (fun i=>[DC.i .i64 i])).length 1]),(1050,.acc 142 88 8 (e1.map aN.enc)),(1051,.acc 167 32 3 (cr.map Item.enc)),(1052,.acc 169 48 4 (src.map Src.enc)),(1053,.acc 3 8 1 (gs.map (fun i=>[DC.i .i64 i]))),(2,.one 106 120 [dB false,dN,dN,dN,d0,dB false,dN])]) B) ?_ (k:=(((p.dH D a).keyword gx).2.aU [gI]).aA.length) ⟨[],(((p.dH D a).keyword gx).2.aU [gI]),e1,[],aa,aa,fun _=>aa,da _,j0 _ _,.refl hG.top,Qz,⟨aa,aa,aa,trivial⟩,cI aa ⟨aa,aa,aa,aa,aa,aa,trivial⟩⟩)))))))
     clear Y Qz
     rintro k VE B⟨l,q,e1,gs,z,QA,tm,js,hk,Z,Y,hV,K⟩
     refine eD (PS.bq a q++[(3,.one 106 120 [dB d,.ac 1050 (e1.map aN.enc).length 8,.ac 1051 (cr.map Item.enc).length 3,.ac 1052 (src.map Src.enc).length 4,dI w,dB true,.ac 1053 (gs.map (fun i=>[DC.i .i64 i])).length 1]),(1050,.acc 142 88 8 (e1.map aN.enc)),(1051,.acc 167 32 3 (cr.map Item.enc)),(1052,.acc 169 48 4 (src.map Src.enc)),(1053,.acc 3 8 1 (gs.map (fun i=>[DC.i .i64 i]))),(2,.one 106 120 [dB false,dN,dN,dN,d0,dB false,dN])]) K ?_
     have K:br (PS.bq a q++[(3,.one 106 120 [dB d,.ac 1050 (e1.map aN.enc).length 8,.ac 1051 (cr.map Item.enc).length 3,.ac 1052 (src.map Src.enc).length 4,dI w,dB true,.ac 1053 (gs.map (fun i=>[DC.i .i64 i])).length 1]),(1050,.acc 142 88 8 (e1.map aN.enc)),(1051,.acc 167 32 3 (cr.map Item.enc)),(1052,.acc 169 48 4 (src.map Src.enc)),(1053,.acc 3 8 1 (gs.map (fun i=>[DC.i .i64 i]))),(2,.one 106 120 [dB false,dN,dN,dN,d0,dB false,dN])]) (PS.bq a q++[(3,.one 106 120 [dB d,.ac 1050 (e1.map aN.enc).length 8,.ac 1051 (cr.map Item.enc).length 3,.ac 1052 (src.map Src.enc).length 4,dI w,dB true,.ac 1053 (gs.map (fun i=>[DC.i .i64 i])).length 1]),(1050,.acc 142 88 8 (e1.map aN.enc)),(1051,.acc 167 32 3 (cr.map Item.enc)),(1052,.acc 169 48 4 (src.map Src.enc)),(1053,.acc 3 8 1 (gs.map (fun i=>[DC.i .i64 i]))),(2,.one 106 120 [dB false,dN,dN,dN,d0,dB false,dN])]):=cI rfl ⟨rfl,rfl,rfl,rfl,rfl,rfl,trivial⟩
     have gp:q.aA.length=(((p.dH D a).keyword gx).2.aU [gI]).aA.length:=by rw[Z.aA]
     have fy:=Z.ok.d8
     have yQ:=Z.ok.lt
     obtain⟨c1,c2,c3,c4⟩:=L8 q Z.ok a
     have I:=Z.top.dC
     refine dn _ _ hV K (bJ (ai (ae 3 aa (jE 3 1 aa aa (eB (PS.bq a q++[(3,.one 106 120 [dB d,.undef,.ac 1051 (cr.map Item.enc).length 3,.ac 1052 (src.map Src.enc).length 4,dI w,dB true,.ac 1053 (gs.map (fun i=>[DC.i .i64 i])).length 1]),(1050,.acc 142 88 8 (e1.map aN.enc)),(1051,.acc 167 32 3 (cr.map Item.enc)),(1052,.acc 169 48 4 (src.map Src.enc)),(1053,.acc 3 8 1 (gs.map (fun i=>[DC.i .i64 i]))),(2,.one 106 120 [dB false,dN,dN,dN,d0,dB false,dN])]) (cI aa ⟨aa,aa,aa,aa,aa,aa,trivial⟩) ?_)))))
     refine jv (MP F a q e1 4000 Z.st trivial Y (by omega)) rfl rfl rfl rfl (fun e2 g2=>?_)
     have BR:EG q.dC.2 e2 4001:=g2.dC Z.ok
     have pC:=BR.small I.ok (by omega)
     have hvz:(((e2.map aN.enc).length:Nat):Int) -Int.ofNat 1=(((e2.map aN.enc).length:Nat):Int) -Int.ofNat 1:=rfl
     refine eB (PS.bq a q.dC.2++[(3,.one 106 120 [dB d,.undef,.ac 1051 (cr.map Item.enc).length 3,.ac 1052 (src.map Src.enc).length 4,dI w,dB true,.ac 1053 (gs.map (fun i=>[DC.i .i64 i])).length 1]),(1050,.acc 142 88 8 (e2.map aN.enc)),(1051,.acc 167 32 3 (cr.map Item.enc)),(1052,.acc 169 48 4 (src.map Src.enc)),(1053,.acc 3 8 1 (gs.map (fun i=>[DC.i .i64 i]))),(2,.one 106 120 [dB false,dN,dN,dN,d0,dB false,dN])]) (cI (by rw[←c1];rfl) ⟨rfl,rfl,rfl,rfl,rfl,rfl,trivial⟩) ?_
     refine ae 2 aa (af ?_)
     refine ai (ae 5 aa ?_)
     refine ak (gm rfl rfl (by simp only[bZ,bb];omega) (by simp only[bZ,bb];omega) ?_)
     obtain⟨v,hv⟩:∃v:Int,(((e2.map aN.enc).length:Nat):Int) -Int.ofNat 1=v:=⟨_,rfl⟩
     rw[hv]
     have QB:q.dC.2.err=0→v=q.dC.1:=fun h0=>hv.symm.trans (pN (by rw[c2 h0,(g2.eq (by rw[c3];exact h0))];exact JQ q))
     refine ae 1 aa ?_
     refine ak (dZ (rows:=gs.map (fun i=>[DC.i .i64 i])) (ys:=[[.i .i64 v]]) rfl rfl rfl (.bs (rows:=[[.i .i64 v]]) rfl) (bO rfl) (by rw[bC,bZ];simp only[cP,dx];omega) (fun h=>by rw[h];rfl) (fun h=>by rw[h];rfl) ?_)
     refine ae 2 aa (af ?_)
     refine ai (ae 1 aa (bI (mG F I.ok cH) aa aa aa aa (ae 1 aa (af ?_))))
     refine aI aa (fun JC=>?_) (fun JC=>?_)
     ·have qU:(q.dC.2.sign cH).1=false:=by simpa using JC
      rw[PS.iA qU]
      rw[oU qU] at z
      have F7:(p.dH D a).group=((true,l++[q.dC.1]),q.dC.2):=by rw[BQ,←z]
      have O1:EG (p.dH D a).group.2 e2 4001∧bP (p.dH D a) (p.dH D a).group.2:=by rw[F7];exact⟨BR,(hG.trans Z).trans I⟩
      refine dD (ai (ae 1 aa ?_))
      refine fo 99 1050 rfl rfl ⟨trivial,fun _=>⟨rfl,rfl⟩,fun h=>absurd h (by decide),fun h=>absurd h (by decide),trivial,trivial,fun h=>absurd h (by decide),trivial⟩ ?_
      refine fo 99 1051 rfl rfl ⟨trivial,trivial,fun _=>⟨rfl,rfl⟩,fun h=>absurd h (by decide),trivial,trivial,fun h=>absurd h (by decide),trivial⟩ ?_
      refine fo 99 1052 rfl rfl ⟨trivial,trivial,trivial,fun _=>⟨rfl,rfl⟩,trivial,trivial,fun h=>absurd h (by decide),trivial⟩ ?_
      refine fo 99 1053 aa aa ⟨trivial,trivial,trivial,trivial,trivial,trivial,fun _=>⟨aa,aa⟩,trivial⟩ (ae 1 aa (af ?_))
      refine ax ?_
      have hc:(p.core D a).1=⟨(p.iQ.keyword jg).1,(p.dH D a).group.2.ex,(p.fw.items D).1,((p.fA D).j6 D a).1,((p.ja D a).d7 D).1,(p.dH D a).group.1.1,(p.dH D a).group.1.2⟩:=rfl
      exact⟨_,PS.bq a q.dC.2,rfl,⟨rfl,trivial⟩,⟨⟨d,e2,cr,src,w,true,gs++[v]⟩,by simp only[Core.enc,dr,eF,fH];rfl,fun h0=>by
       have h5:=O1.2.er h0
       have h4:=Bf.er h5
       have h3:=A.er h4
       have hz:q.dC.2.err=0:=by
        have h1:((p.dH D a).group).2.err=0:=h0
        rw[F7] at h1;exact h1
       rw[hc,hd,←F6 h3,←Qy h4,←hw h5,←O1.1.eq h0,F7,QB hz,tm (I.er hz)]⟩,by show _=PS.bq a (p.dH D a).group.2;rw[F7]⟩
     have qU:(q.dC.2.sign cH).1=true:=by simpa using JC
     have J:=(qG qU).1
     have pA:=oR I.ok qU
     obtain⟨k,rfl⟩:∃k',k=k'+1:=⟨k-1,by have:=pA.2;have:=I.aA;omega⟩
     rw[oT qU] at z
     have hgct:q.dC.2.aA.length=q.aA.length:=by rw[I.aA]
     refine aQ ?_
     refine⟨k,gh k,l++[q.dC.1],(q.dC.2.sign cH).2,e2,gs++[v],z,?_,?_,?_,?_,(Z.trans I).trans (I.top.sign cH),(BR.zero I.ok J).ku (bE.yn I.st cH) (oV ..)|>.dE (by omega),⟨rfl,rfl,rfl,trivial⟩,?_⟩
     ·rw[bC,bC,QA];rfl
     ·intro _;rw[QB J,tm (I.er J)]
     ·have:=I.aJ;rw[bC,dU];omega
     ·have:=I.aJ;omega
     rw[dr];exact cI rfl ⟨rfl,rfl,rfl,rfl,rfl,rfl,trivial⟩
    have BQ:(p.dH D a).group=((false,[]),p.dH D a):=by unfold PS.group;rw[aj (by rw[tA];decide)]
    rw[PS.cQ tA]
    have z:EG (p.dH D a).group.2 e1 4000∧bP (p.dH D a) (p.dH D a).group.2:=by rw[BQ];exact⟨Y.dE (by omega),.refl Bf.top⟩
    refine aQ (ai (ae 1 aa ?_))
    refine fo 99 1050 rfl rfl ⟨trivial,fun _=>⟨rfl,rfl⟩,fun h=>absurd h (by decide),fun h=>absurd h (by decide),trivial,trivial,trivial,trivial⟩ ?_
    refine fo 99 1051 rfl rfl ⟨trivial,trivial,fun _=>⟨rfl,rfl⟩,fun h=>absurd h (by decide),trivial,trivial,trivial,trivial⟩ ?_
    refine fo 99 1052 aa aa ⟨trivial,trivial,trivial,fun _=>⟨aa,aa⟩,trivial,trivial,trivial,trivial⟩ (ae 1 aa (af ?_))
    refine ax ?_
    have hc:(p.core D a).1=⟨(p.iQ.keyword jg).1,(p.dH D a).group.2.ex,(p.fw.items D).1,((p.fA D).j6 D a).1,((p.ja D a).d7 D).1,(p.dH D a).group.1.1,(p.dH D a).group.1.2⟩:=rfl
    exact⟨_,PS.bq a (p.dH D a),rfl,⟨rfl,trivial⟩,⟨⟨d,e1,cr,src,w,false,[]⟩,rfl,fun h0=>by
     have h5:=z.2.er h0
     have h4:=Bf.er h5
     have h3:=A.er h4
     rw[hc,hd,←F6 h3,←Qy h4,←hw h5,←z.1.eq h0,BQ]⟩,by show _=PS.bq a (p.dH D a).group.2;rw[BQ]⟩
   refine ai (ae 1 aa (bI (fN F A.ok jZ) aa aa aa aa (af (aI aa (fun zg=>?_) (fun zg=>?_)))))
   ·refine ai (ae 3 aa (jE 3 1 aa aa (eB (PS.bq a ((p.ja D a).keyword jZ).2++[(3,.one 106 120 [dB d,.undef,.ac 1051 (cr.map Item.enc).length 3,.ac 1052 (src.map Src.enc).length 4,dI (-1),dB false,dN]),(1050,.acc 142 88 8 (e1.map aN.enc)),(1051,.acc 167 32 3 (cr.map Item.enc)),(1052,.acc 169 48 4 (src.map Src.enc)),(2,.one 106 120 [dB false,dN,dN,dN,d0,dB false,dN])]) (cI aa ⟨aa,aa,aa,aa,aa,trivial⟩) ?_)))
    refine jv (ui F Lq (A.top.kw jZ).top (Y.go2 (A.top.kw jZ) (mz ..)) (by omega)) rfl rfl rfl rfl (fun e2 g2=>?_)
    have pC:=g2.small ((A.top.kw jZ).trans ((A.top.kw jZ).top.expr D)).ok (by omega)
    refine ae 2 aa (af ?_)
    refine bD (ae 3 aa ?_)
    refine ak (gm rfl rfl (by simp only[bZ,bb];omega) (by simp only[bZ,bb];omega) ?_)
    obtain⟨v,hv⟩:∃v:Int,(((e2.map aN.enc).length:Nat):Int) -Int.ofNat 1=v:=⟨_,rfl⟩
    rw[hv]
    refine ae 2 aa (af ?_)
    exact⟨_,e2,v,by unfold PS.dH PS.d7;rw[aw zg],fun h0=>by unfold PS.d7;rw[aw zg];exact hv.symm.trans (q6 (A.top.kw jZ).top g2 h0),(A.top.kw jZ).trans ((A.top.kw jZ).top.expr D),g2.dE (by omega),⟨rfl,rfl,rfl,trivial⟩,cI rfl ⟨rfl,rfl,rfl,rfl,rfl,trivial⟩⟩
   rw[PS.cQ zg]
   refine aQ ?_
   exact⟨_,e1, -1,by unfold PS.dH PS.d7;rw[aj (by rw[zg];decide)],fun h0=>by unfold PS.d7;rw[aj (by rw[zg];decide)],.refl A.top,Y.dE (by omega),⟨rfl,rfl,rfl,trivial⟩,cI rfl ⟨rfl,rfl,rfl,rfl,rfl,trivial⟩⟩
  refine bJ ?_
  refine dY (fun k VE B=>∃(l:List Src)(q:PS)(e1:List aN)(src:List Src),o5 D k l q=(p.fA D).j6 D a∧src.length=l.length∧(q.err=0→src=l)∧l.length≤q.aJ+1∧(p.fA D).aA.length≤k+q.aJ∧bP (p.fA D) q∧EG q e1 2000∧br [(0,.vp 1000 0),(2,.vp 2 0),(3,.vp 3 0)] VE∧br (PS.bq a q++[(3,.one 106 120 [dB d,.ac 1050 (e1.map aN.enc).length 8,.ac 1051 (cr.map Item.enc).length 3,.ac 1052 (src.map Src.enc).length 4,dI (-1),dB false,dN]),(1050,.acc 142 88 8 (e1.map aN.enc)),(1051,.acc 167 32 3 (cr.map Item.enc)),(1052,.acc 169 48 4 (src.map Src.enc)),(2,.one 106 120 [dB false,dN,dN,dN,d0,dB false,dN])]) B) ?_ (k:=(p.fA D).aA.length) ⟨[((p.fA D).source a).1],((p.fA D).source a).2,e1,[((p.fA D).source a).1],rfl,rfl,fun _=>rfl,mR (da _),j0 _ _,JA.top.source a,(Qx.go2 (JA.top.source a) (GQ ..)).dE (by omega),⟨rfl,rfl,rfl,trivial⟩,cI rfl ⟨rfl,rfl,rfl,rfl,rfl,trivial⟩⟩
  clear Qx Y
  rintro k VE B⟨l,q,e1,src,z,qR,F8,js,hk,A,Y,hV,K⟩
  refine eD (PS.bq a q++[(3,.one 106 120 [dB d,.ac 1050 (e1.map aN.enc).length 8,.ac 1051 (cr.map Item.enc).length 3,.ac 1052 (src.map Src.enc).length 4,dI (-1),dB false,dN]),(1050,.acc 142 88 8 (e1.map aN.enc)),(1051,.acc 167 32 3 (cr.map Item.enc)),(1052,.acc 169 48 4 (src.map Src.enc)),(2,.one 106 120 [dB false,dN,dN,dN,d0,dB false,dN])]) K ?_
  have K:br (PS.bq a q++[(3,.one 106 120 [dB d,.ac 1050 (e1.map aN.enc).length 8,.ac 1051 (cr.map Item.enc).length 3,.ac 1052 (src.map Src.enc).length 4,dI (-1),dB false,dN]),(1050,.acc 142 88 8 (e1.map aN.enc)),(1051,.acc 167 32 3 (cr.map Item.enc)),(1052,.acc 169 48 4 (src.map Src.enc)),(2,.one 106 120 [dB false,dN,dN,dN,d0,dB false,dN])]) (PS.bq a q++[(3,.one 106 120 [dB d,.ac 1050 (e1.map aN.enc).length 8,.ac 1051 (cr.map Item.enc).length 3,.ac 1052 (src.map Src.enc).length 4,dI (-1),dB false,dN]),(1050,.acc 142 88 8 (e1.map aN.enc)),(1051,.acc 167 32 3 (cr.map Item.enc)),(1052,.acc 169 48 4 (src.map Src.enc)),(2,.one 106 120 [dB false,dN,dN,dN,d0,dB false,dN])]):=cI rfl ⟨rfl,rfl,rfl,rfl,rfl,trivial⟩
  have gp:q.aA.length=(p.fA D).aA.length:=by rw[A.aA]
  have fy:=A.ok.d8
  have yQ:=A.ok.lt
  refine dn _ _ hV K (aK (al 5 aa (aI aa (fun qV=>?_) (fun qV=>?_))))
  ·have J:q.err=0:=by simpa using qV
   refine aQ (bJ (ai (ae 1 aa (bI (fN F A.ok nX) aa aa aa aa (ae 1 aa (af ?_))))))
   refine aK (al 1 aa (aI aa (fun wW=>?_) (fun wW=>?_)))
   ·have hj:q.join=some (true,((q.keyword nX).2.aU [kn])):=by unfold PS.join;rw[aw wW]
    obtain⟨tC,og,ke⟩:=A.top.join hj
    obtain⟨k,rfl⟩:∃k',k=k'+1:=⟨k-1,by omega⟩
    rw[zl hj] at z
    have gz:EG ((q.keyword nX).2.aU [kn]) e1 0:=((Y.zero A.ok J).ku (bE.G2 A.st nX) (mz ..)).ku (bE.aU (A.top.kw nX).st) pE
    refine bD (ae 1 aa (bI (jb F (A.top.kw nX).ok kn) aa aa aa aa ?_))
    rw[wW]
    generalize ((q.keyword nX).2.aU [kn])=G at hj tC og z gz⊢
    have s1:=tC.top.source false
    have s2:=s1.trans (s1.top.dK [pz])
    have gs:=gz.go2 s2 (by rw[pE,GQ])
    have s3:=s2.trans (s2.top.expr D)
    refine af (ai (ae 1 aa (bI (Ht F tC.top false) aa aa aa aa (ae 2 aa (af ?_)))))
    refine al 3 aa (ai (ae 1 aa (bI (jb F s1.ok pz) aa aa aa aa (af (ai (ae 3 aa (jE 3 1 aa aa (eB (PS.bq a ((G.source false).2.aU [pz])++[(3,.one 106 120 [dB d,.undef,.ac 1051 (cr.map Item.enc).length 3,.ac 1052 (src.map Src.enc).length 4,dI (-1),dB false,dN]),(1050,.acc 142 88 8 (e1.map aN.enc)),(1051,.acc 167 32 3 (cr.map Item.enc)),(1052,.acc 169 48 4 (src.map Src.enc)),(5,.one 169 48 [dB true,dS (G.source false).1.table,dS (G.source false).1.alias,dI (-1)]),(2,.one 106 120 [dB false,dN,dN,dN,d0,dB false,dN])]) (cI aa ⟨aa,aa,aa,aa,aa,aa,trivial⟩) ?_))))))))
    refine jv (ui F Lq s2.top gs (by omega)) rfl rfl rfl rfl (fun e2 g2=>?_)
    have pC:=g2.small s3.ok (by omega)
    refine ae 2 aa (af ?_)
    refine ai (ae 3 aa ?_)
    refine ak (gm rfl rfl (by simp only[bZ,bb];omega) (by simp only[bZ,bb];omega) ?_)
    obtain⟨v,hv⟩:∃v:Int,(((e2.map aN.enc).length:Nat):Int) -Int.ofNat 1=v:=⟨_,rfl⟩
    rw[hv]
    refine ae 2 aa (af ?_)
    refine bD (ae 4 aa ?_)
    refine ak (dZ (rows:=src.map Src.enc) (ys:=[(⟨true,(G.source false).1.table,(G.source false).1.alias,v⟩:Src).enc]) rfl rfl rfl (.bs (rows:=[(⟨true,(G.source false).1.table,(G.source false).1.alias,v⟩:Src).enc]) rfl) (bO rfl) (by rw[bC,bZ];simp only[cP,dx];omega) (fun h=>by rw[h];rfl) (fun h=>by rw[h];rfl) ?_)
    refine ae 2 aa (af ?_)
    have gv:(G.gD D true).2.err=0→v=(G.gD D true).1.on:=fun h0=>hv.symm.trans (q6 s2.top g2 h0)
    refine⟨k,gh k,l++[(G.gD D true).1],(G.gD D true).2,e2,src++[(⟨true,(G.source false).1.table,(G.source false).1.alias,v⟩:Src)],z,?_,?_,?_,?_,(A.trans tC).trans s3,g2.dE (by omega),⟨rfl,rfl,rfl,trivial⟩,?_⟩
    ·rw[bC,bC,qR];rfl
    ·intro h0;rw[gv h0,F8 J];rfl
    ·have:G.aJ≤(G.gD D true).2.aJ:=s3.aJ;rw[bC,dU];omega
    ·have:G.aJ≤(G.gD D true).2.aJ:=s3.aJ;show(p.fA D).aA.length≤k+(G.gD D true).2.aJ;omega
    rw[dr];exact cI rfl ⟨rfl,rfl,rfl,rfl,rfl,trivial⟩
   rw[PS.cQ wW]
   refine ai (ae 1 aa (bI (fN F A.ok kn) aa aa aa aa (ae 1 aa (af ?_))))
   refine aI aa (fun qT=>?_) (fun qT=>?_)
   ·have r4:(q.keyword kn).1=false:=by simpa using qT
    have hj:q.join=none:=by unfold PS.join;rw[aj (by rw[wW];decide),aj (by rw[r4];decide)]
    rw[B8 hj] at z
    rw[PS.cQ r4]
    refine dD ?_
    exact⟨q,e1,src,by unfold PS.ja;rw[←z],fun h0=>by rw[←z];exact F8 h0,by omega,A,Y,⟨rfl,rfl,rfl,trivial⟩,cI rfl ⟨rfl,rfl,rfl,rfl,rfl,trivial⟩⟩
   have r4:(q.keyword kn).1=true:=by simpa using qT
   have hj:q.join=some (false,(q.keyword kn).2):=by unfold PS.join;rw[aj (by rw[wW];decide),aw r4]
   obtain⟨tC,og,ke⟩:=A.top.join hj
   obtain⟨k,rfl⟩:∃k',k=k'+1:=⟨k-1,by omega⟩
   rw[zl hj] at z
   have gz:EG (q.keyword kn).2 e1 0:=(Y.zero A.ok J).ku (bE.G2 A.st kn) (mz ..)
   rw[wW]
   generalize (q.keyword kn).2=G at hj tC og z gz⊢
   have s1:=tC.top.source false
   have s2:=s1.trans (s1.top.dK [pz])
   have gs:=gz.go2 s2 (by rw[pE,GQ])
   have s3:=s2.trans (s2.top.expr D)
   refine aQ (ai (ae 1 aa (bI (Ht F tC.top false) aa aa aa aa (ae 2 aa (af ?_)))))
   refine al 3 aa (ai (ae 1 aa (bI (jb F s1.ok pz) aa aa aa aa (af (ai (ae 3 aa (jE 3 1 aa aa (eB (PS.bq a ((G.source false).2.aU [pz])++[(3,.one 106 120 [dB d,.undef,.ac 1051 (cr.map Item.enc).length 3,.ac 1052 (src.map Src.enc).length 4,dI (-1),dB false,dN]),(1050,.acc 142 88 8 (e1.map aN.enc)),(1051,.acc 167 32 3 (cr.map Item.enc)),(1052,.acc 169 48 4 (src.map Src.enc)),(5,.one 169 48 [dB false,dS (G.source false).1.table,dS (G.source false).1.alias,dI (-1)]),(2,.one 106 120 [dB false,dN,dN,dN,d0,dB false,dN])]) (cI aa ⟨aa,aa,aa,aa,aa,aa,trivial⟩) ?_))))))))
   refine jv (ui F Lq s2.top gs (by omega)) rfl rfl rfl rfl (fun e2 g2=>?_)
   have pC:=g2.small s3.ok (by omega)
   refine ae 2 aa (af ?_)
   refine ai (ae 3 aa ?_)
   refine ak (gm rfl rfl (by simp only[bZ,bb];omega) (by simp only[bZ,bb];omega) ?_)
   obtain⟨v,hv⟩:∃v:Int,(((e2.map aN.enc).length:Nat):Int) -Int.ofNat 1=v:=⟨_,rfl⟩
   rw[hv]
   refine ae 2 aa (af ?_)
   refine bD (ae 4 aa ?_)
   refine ak (dZ (rows:=src.map Src.enc) (ys:=[(⟨false,(G.source false).1.table,(G.source false).1.alias,v⟩:Src).enc]) rfl rfl rfl (.bs (rows:=[(⟨false,(G.source false).1.table,(G.source false).1.alias,v⟩:Src).enc]) rfl) (bO rfl) (by rw[bC,bZ];simp only[cP,dx];omega) (fun h=>by rw[h];rfl) (fun h=>by rw[h];rfl) ?_)
   refine ae 2 aa (af ?_)
   have gv:(G.gD D false).2.err=0→v=(G.gD D false).1.on:=fun h0=>hv.symm.trans (q6 s2.top g2 h0)
   refine⟨k,gh k,l++[(G.gD D false).1],(G.gD D false).2,e2,src++[(⟨false,(G.source false).1.table,(G.source false).1.alias,v⟩:Src)],z,?_,?_,?_,?_,(A.trans tC).trans s3,g2.dE (by omega),⟨rfl,rfl,rfl,trivial⟩,?_⟩
   ·rw[bC,bC,qR];rfl
   ·intro h0;rw[gv h0,F8 J];rfl
   ·have:G.aJ≤(G.gD D false).2.aJ:=s3.aJ;rw[bC,dU];omega
   ·have:G.aJ≤(G.gD D false).2.aJ:=s3.aJ;show(p.fA D).aA.length≤k+(G.gD D false).2.aJ;omega
   rw[dr];exact cI rfl ⟨rfl,rfl,rfl,rfl,rfl,trivial⟩
  have J:¬q.err=0:=by simpa using qV
  have hj:q.join=none:=T6 J
  rw[B8 hj] at z
  refine dD ?_
  exact⟨q,e1,src,by unfold PS.ja;rw[←z],fun h0=>by rw[←z];exact F8 h0,by omega,A,Y,⟨rfl,rfl,rfl,trivial⟩,cI rfl ⟨rfl,rfl,rfl,rfl,rfl,trivial⟩⟩
 refine ai (nf 3 1 1050 142 88 8 aa aa aa (nf 3 2 1051 167 32 3 aa aa aa (ae 1 aa (bI (mG F U.ok eV) aa aa aa aa (ae 1 aa (af ?_))))))
 refine aI aa (fun O=>?_) (fun O=>?_)
 ·have O:(p.fw.sign eV).1=false:=by simpa using O
  rw[PS.iA O]
  refine ai (ae 1 aa ?_)
  refine O0 3 (OZ F Lq U.top d (e:=[]) (cr:=[]) F3 (by omega) (da _)) rfl ⟨rfl,rfl,rfl,rfl,rfl,rfl,rfl,rfl,trivial⟩ rfl rfl rfl (fun e1 it1 JD=>?_)
  obtain⟨QC,QD⟩:=JD
  refine af (bJ ?_)
  refine dY (fun k VE B=>∃(l:List Item)(q:PS)(e1:List aN)(cr:List Item),kE (fun p=>p.item D) k l q=(jk (fun p=>p.item D) p.fw)∧cr.length=l.length∧(q.err=0→cr=l)∧l.length≤q.aJ+1∧p.fw.aA.length≤k+q.aJ∧bP p.fw q∧EG q e1 1000∧br [(0,.vp 1000 0),(2,.vp 2 0),(3,.vp 3 0)] VE∧br (PS.bq a q++[(3,.one 106 120 [dB d,.ac 1050 (e1.map aN.enc).length 8,.ac 1051 (cr.map Item.enc).length 3,dN,dI (-1),dB false,dN]),(1050,.acc 142 88 8 (e1.map aN.enc)),(1051,.acc 167 32 3 (cr.map Item.enc)),(2,.one 106 120 [dB false,dN,dN,dN,d0,dB false,dN])]) B) ?_ (k:=p.fw.aA.length) ⟨[(p.fw.item D).1],(p.fw.item D).2,e1,[it1],rfl,rfl,fun h0=>by rw[QD h0],mR (da _),j0 _ _,U.top.item D,QC.dE (by omega),⟨rfl,rfl,rfl,trivial⟩,cI rfl ⟨rfl,rfl,rfl,rfl,trivial⟩⟩
  clear QC QD
  rintro k VE B⟨l,q,e1,cr,z,BH,QE,js,hk,A,Y,hV,K⟩
  refine eD (PS.bq a q++[(3,.one 106 120 [dB d,.ac 1050 (e1.map aN.enc).length 8,.ac 1051 (cr.map Item.enc).length 3,dN,dI (-1),dB false,dN]),(1050,.acc 142 88 8 (e1.map aN.enc)),(1051,.acc 167 32 3 (cr.map Item.enc)),(2,.one 106 120 [dB false,dN,dN,dN,d0,dB false,dN])]) K ?_
  have K:br (PS.bq a q++[(3,.one 106 120 [dB d,.ac 1050 (e1.map aN.enc).length 8,.ac 1051 (cr.map Item.enc).length 3,dN,dI (-1),dB false,dN]),(1050,.acc 142 88 8 (e1.map aN.enc)),(1051,.acc 167 32 3 (cr.map Item.enc)),(2,.one 106 120 [dB false,dN,dN,dN,d0,dB false,dN])]) (PS.bq a q++[(3,.one 106 120 [dB d,.ac 1050 (e1.map aN.enc).length 8,.ac 1051 (cr.map Item.enc).length 3,dN,dI (-1),dB false,dN]),(1050,.acc 142 88 8 (e1.map aN.enc)),(1051,.acc 167 32 3 (cr.map Item.enc)),(2,.one 106 120 [dB false,dN,dN,dN,d0,dB false,dN])]):=cI rfl ⟨rfl,rfl,rfl,rfl,trivial⟩
  have gp:q.aA.length=p.fw.aA.length:=by rw[A.aA]
  have fy:=A.ok.d8
  have yQ:=A.ok.lt
  refine dn _ _ hV K (aK (ai (ae 1 aa (bI (mG F A.ok cH) aa aa aa aa (af (aI aa (fun zh=>?_) (fun zh=>?_)))))))
  ·have h2:=A.top.sign cH
   have pA:=oR A.ok zh
   have J:=(qG zh).1
   obtain⟨k,rfl⟩:∃k',k=k'+1:=⟨k-1,by have:=pA.2;omega⟩
   rw[oT zh] at z
   have h3:=h2.trans (h2.top.item D)
   have gz:=(Y.zero A.ok J).ku (bE.yn A.st cH) (oV ..)
   refine aQ (bJ (bD (ae 1 aa ?_)))
   refine O0 3 (OZ F Lq h2.top d (e:=e1) (cr:=cr) gz (by omega) (by omega)) rfl ⟨rfl,rfl,rfl,rfl,rfl,rfl,rfl,rfl,trivial⟩ rfl rfl rfl (fun e2 it2 JD=>?_)
   obtain⟨BR,gi2⟩:=JD
   refine af ?_
   refine⟨k,gh k,l++[((q.sign cH).2.item D).1],((q.sign cH).2.item D).2,e2,cr++[it2],z,?_,?_,?_,?_,A.trans h3,BR.dE (by omega),⟨rfl,rfl,rfl,trivial⟩,cI rfl ⟨rfl,rfl,rfl,rfl,trivial⟩⟩
   ·rw[bC,bC,BH];rfl
   ·intro h0;rw[gi2 h0,QE J]
   ·have:=h3.aJ;have:=pA.1;have:=(h2.top.item D).aJ;rw[bC,dU];show l.length+1≤((q.sign cH).2.item D).2.aJ+1;omega
   have:=(h2.top.item D).aJ;have:=pA.1;show p.fw.aA.length≤k+((q.sign cH).2.item D).2.aJ;omega
  rw[oU zh] at z
  rw[PS.iA zh]
  refine dD ?_
  exact⟨_,e1,cr,by unfold PS.items;rw[aj (by rw[O];decide)];rw[←z],fun h0=>by unfold PS.items;rw[aj (by rw[O];decide),←z];exact QE h0,U.trans A,Y,⟨rfl,rfl,rfl,trivial⟩,cI rfl ⟨rfl,rfl,rfl,rfl,trivial⟩⟩
 have O:(p.fw.sign eV).1=true:=by simpa using O
 refine aQ ?_
 exact⟨_,[],[],by unfold PS.items;rw[aw O],fun _=>by unfold PS.items;rw[aw O],U.trans (U.top.sign _),(EG.go2 hz (U.trans (U.top.sign _)) (by rw[oV];unfold PS.fw;rw[mz];exact pE)).dE (by omega),⟨rfl,rfl,rfl,trivial⟩,cI rfl ⟨rfl,rfl,rfl,rfl,trivial⟩⟩
open Go
set_option maxRecDepth 10000
set_option maxHeartbeats 4000000 in
theorem HI{T:bd}(F:FT T){D:Rd}(Lq:kp T D){a:Bool}{p:PS}(hp:bf p):bY T 101 [.vp 1000 0] (PS.bq a p) fun r Bn=>(∃s:jC,r=ez s.enc∧((p.cW D a).2.err=0→s=(p.cW D a).1))∧Bn=PS.bq a (p.cW D a).2:=by
 refine cw F.ZM aa (al 1 aa (ai (ae 1 aa (ak (p8 (EV F Lq hp) aa aa aa (fun r hr=>?_))))))
 obtain⟨c1,rfl,je⟩:=hr
 refine ae 2 aa (sa 7 1 1101 3 8 1 aa aa aa (ae 2 aa (af ?_)))
 refine aK (bJ ?_)
 refine dY (fun k VE B=>∃(s:jC)(q:PS)(cs:List Core)(os:List Int),qc D a k s q=p.cW D a∧cs≠[]∧cs.length=s.fZ.length∧os=s.ops∧(q.err=0→cs=s.fZ)∧s.fZ.length≤q.aJ+1∧s.ops.length≤q.aJ+1∧p.aA.length≤k+q.aJ∧bP p q∧br [(0,.vp 1000 0),(2,.vp 2 0),(3,.vp 3 0)] VE∧br (PS.bq a q++[(3,.one 39 48 [.bs 6 (cs.map Core.enc).length 7,.ac 1101 (os.map (fun i=>[DC.i .i64 i])).length 1]),(6,.arr 106 120 7 (cs.map Core.enc).length (cs.map Core.enc)),(1101,.acc 3 8 1 (os.map (fun i=>[DC.i .i64 i]))),(2,.one 39 48 [dN,dN])]) B) ?_ (k:=p.aA.length) ⟨⟨[(p.core D a).1],[]⟩,(p.core D a).2,[c1],[],rfl,pX _ _,rfl,rfl,fun h0=>by rw[je h0],mR (da _),da _,j0 _ _,hp.core D a,⟨rfl,rfl,rfl,trivial⟩,cI rfl ⟨rfl,rfl,rfl,rfl,trivial⟩⟩
 clear je
 rintro k VE B⟨s,q,cs,os,z,U,rS,J,Y,js,tl,hk,O,hV,hB⟩
 refine eD (PS.bq a q++[(3,.one 39 48 [.bs 6 (cs.map Core.enc).length 7,.ac 1101 (os.map (fun i=>[DC.i .i64 i])).length 1]),(6,.arr 106 120 7 (cs.map Core.enc).length (cs.map Core.enc)),(1101,.acc 3 8 1 (os.map (fun i=>[DC.i .i64 i]))),(2,.one 39 48 [dN,dN])]) hB ?_
 have hB:br (PS.bq a q++[(3,.one 39 48 [.bs 6 (cs.map Core.enc).length 7,.ac 1101 (os.map (fun i=>[DC.i .i64 i])).length 1]),(6,.arr 106 120 7 (cs.map Core.enc).length (cs.map Core.enc)),(1101,.acc 3 8 1 (os.map (fun i=>[DC.i .i64 i]))),(2,.one 39 48 [dN,dN])]) (PS.bq a q++[(3,.one 39 48 [.bs 6 (cs.map Core.enc).length 7,.ac 1101 (os.map (fun i=>[DC.i .i64 i])).length 1]),(6,.arr 106 120 7 (cs.map Core.enc).length (cs.map Core.enc)),(1101,.acc 3 8 1 (os.map (fun i=>[DC.i .i64 i]))),(2,.one 39 48 [dN,dN])]):=cI rfl ⟨rfl,rfl,rfl,rfl,trivial⟩
 have gp:q.aA.length=p.aA.length:=by rw[O.aA]
 have fy:=O.ok.d8
 have yQ:=O.ok.lt
 have hol:os.length=s.ops.length:=by rw[J]
 refine dn _ _ hV hB (aK (al 5 aa (aI aa (fun wT=>?_) (fun wT=>?_))))
 ·have Z:q.err=0:=by simpa using wT
  refine aQ (bJ (aK (bJ (ai (ae 1 aa (bI (fN F O.ok uh) aa aa aa aa (ae 1 aa (af ?_))))))))
  refine aI aa (fun K=>?_) (fun K=>?_)
  ·have A:q.op=some (6,(q.keyword uh).2):=by unfold PS.op;rw[aw K]
   obtain⟨G,og,ke⟩:=O.top.op A
   obtain⟨k,rfl⟩:∃k',k=k'+1:=⟨k-1,by omega⟩
   rw[vC A] at z
   generalize (q.keyword uh).2=q1 at A G og z⊢
   have I:=G.top.dK [gK]
   have g2:=I.top.core D a
   have ga:=I.aJ
   have gb:=g2.aJ
   refine bD (ae 3 aa ?_)
   refine ak (dZ (rows:=(os.map (fun i=>[DC.i .i64 i]))) (ys:=[[.i .i64 6]]) rfl rfl rfl (.bs (rows:=[[.i .i64 6]]) rfl) (bO rfl) (by simp only[bC,bZ,cP,dx];omega) (fun h=>by rw[h];rfl) (fun h=>by rw[h];rfl) ?_)
   refine ae 2 aa (af ?_)
   refine ai (ae 1 aa (bI (jb F G.ok gK) aa aa aa aa (af (iw (bk 3 aa (eo aa (p8 (EV F Lq I.top) aa aa aa (fun r hr=>?_))))))))
   obtain⟨c2,rfl,rT⟩:=hr
   refine bk 1 aa ?_
   refine eo rfl (sk (rows:=cs.map Core.enc) (ys:=[c2.enc]) rfl rfl rfl (.bs (rows:=[c2.enc]) rfl) (bO rfl) (by simp only[bC,bZ,cP,dx];omega) ?_)
   refine bk 2 aa (c6 ?_)
   refine⟨k,gh k,⟨s.fZ++[((q1.aU [gK]).core D a).1],s.ops++[6]⟩,((q1.aU [gK]).core D a).2,cs++[c2],os++[6],z,mE U _,?_,?_,?_,?_,?_,?_,(O.trans G).trans (I.trans g2),⟨aa,aa,aa,trivial⟩,?_⟩
   ·rw[bC,bC,rS];rfl
   ·rw[J]
   ·intro h0;rw[rT h0,Y Z]
   ·rw[bC,dU];omega
   ·rw[bC,dU];omega
   ·omega
   simp only[dr,eF,fH]
   exact cI aa ⟨aa,aa,aa,aa,trivial⟩
  rw[PS.cQ K]
  refine ai (ae 1 aa (bI (fN F O.ok t7) aa aa aa aa (ae 1 aa (af ?_))))
  refine aI aa (fun rZ=>?_) (fun rZ=>?_)
  ·have A:q.op=some (7,(q.keyword t7).2):=by unfold PS.op;rw[aj (by rw[K];decide),aw rZ]
   obtain⟨G,og,ke⟩:=O.top.op A
   obtain⟨k,rfl⟩:∃k',k=k'+1:=⟨k-1,by omega⟩
   rw[vC A] at z
   generalize (q.keyword t7).2=q1 at A G og z⊢
   have I:=G.top.dK [gK]
   have g2:=I.top.core D a
   have ga:=I.aJ
   have gb:=g2.aJ
   refine bD (ae 3 aa ?_)
   refine ak (dZ (rows:=(os.map (fun i=>[DC.i .i64 i]))) (ys:=[[.i .i64 7]]) rfl rfl rfl (.bs (rows:=[[.i .i64 7]]) rfl) (bO rfl) (by simp only[bC,bZ,cP,dx];omega) (fun h=>by rw[h];rfl) (fun h=>by rw[h];rfl) ?_)
   refine ae 2 aa (af ?_)
   refine ai (ae 1 aa (bI (jb F G.ok gK) aa aa aa aa (af (iw (bk 3 aa (eo aa (p8 (EV F Lq I.top) aa aa aa (fun r hr=>?_))))))))
   obtain⟨c2,rfl,rT⟩:=hr
   refine bk 1 aa ?_
   refine eo rfl (sk (rows:=cs.map Core.enc) (ys:=[c2.enc]) rfl rfl rfl (.bs (rows:=[c2.enc]) rfl) (bO rfl) (by simp only[bC,bZ,cP,dx];omega) ?_)
   refine bk 2 aa (c6 ?_)
   refine⟨k,gh k,⟨s.fZ++[((q1.aU [gK]).core D a).1],s.ops++[7]⟩,((q1.aU [gK]).core D a).2,cs++[c2],os++[7],z,mE U _,?_,?_,?_,?_,?_,?_,(O.trans G).trans (I.trans g2),⟨aa,aa,aa,trivial⟩,?_⟩
   ·rw[bC,bC,rS];rfl
   ·rw[J]
   ·intro h0;rw[rT h0,Y Z]
   ·rw[bC,dU];omega
   ·rw[bC,dU];omega
   ·omega
   simp only[dr,eF,fH]
   exact cI aa ⟨aa,aa,aa,aa,trivial⟩
  rw[PS.cQ rZ]
  refine ai (ae 1 aa (bI (fN F O.ok tG) aa aa aa aa (ae 1 aa (af ?_))))
  refine aI aa (fun F9=>?_) (fun F9=>?_)
  ·have A:q.op=some (8,(q.keyword tG).2):=by unfold PS.op;rw[aj (by rw[K];decide),aj (by rw[rZ];decide),aw F9]
   obtain⟨G,og,ke⟩:=O.top.op A
   obtain⟨k,rfl⟩:∃k',k=k'+1:=⟨k-1,by omega⟩
   rw[vC A] at z
   generalize (q.keyword tG).2=q1 at A G og z⊢
   have I:=G.top.dK [gK]
   have g2:=I.top.core D a
   have ga:=I.aJ
   have gb:=g2.aJ
   refine bD (ae 3 aa ?_)
   refine ak (dZ (rows:=(os.map (fun i=>[DC.i .i64 i]))) (ys:=[[.i .i64 8]]) rfl rfl rfl (.bs (rows:=[[.i .i64 8]]) rfl) (bO rfl) (by simp only[bC,bZ,cP,dx];omega) (fun h=>by rw[h];rfl) (fun h=>by rw[h];rfl) ?_)
   refine ae 2 aa (af ?_)
   refine ai (ae 1 aa (bI (jb F G.ok gK) aa aa aa aa (af (iw (bk 3 aa (eo aa (p8 (EV F Lq I.top) aa aa aa (fun r hr=>?_))))))))
   obtain⟨c2,rfl,rT⟩:=hr
   refine bk 1 aa ?_
   refine eo rfl (sk (rows:=cs.map Core.enc) (ys:=[c2.enc]) rfl rfl rfl (.bs (rows:=[c2.enc]) rfl) (bO rfl) (by simp only[bC,bZ,cP,dx];omega) ?_)
   refine bk 2 aa (c6 ?_)
   refine⟨k,gh k,⟨s.fZ++[((q1.aU [gK]).core D a).1],s.ops++[8]⟩,((q1.aU [gK]).core D a).2,cs++[c2],os++[8],z,mE U _,?_,?_,?_,?_,?_,?_,(O.trans G).trans (I.trans g2),⟨aa,aa,aa,trivial⟩,?_⟩
   ·rw[bC,bC,rS];rfl
   ·rw[J]
   ·intro h0;rw[rT h0,Y Z]
   ·rw[bC,dU];omega
   ·rw[bC,dU];omega
   ·omega
   simp only[dr,eF,fH]
   exact cI aa ⟨aa,aa,aa,aa,trivial⟩
  have A:q.op=none:=by unfold PS.op;rw[aj (by rw[K];decide),aj (by rw[rZ];decide),aj (by rw[F9];decide)]
  rw[Co A] at z
  rw[PS.cQ F9]
  refine ai (ae 1 aa ?_)
  refine gq 13 6 rfl rfl ⟨fun _=>⟨rfl,rfl⟩,fun h=>absurd h (by decide),trivial⟩ ?_
  refine fo 13 1101 aa aa ⟨trivial,fun _=>⟨aa,aa⟩,trivial⟩ (ae 1 aa (af ?_))
  refine ax ?_
  rw[←z]
  subst J
  have he:jC.enc ⟨cs,s.ops⟩=[.sl (cs.map Core.enc),.e9 (s.ops.map fun i=>[.i .i64 i])]:=by unfold jC.enc;rw[DC.q7 (rows:=cs.map Core.enc) (by simpa using U)]
  exact⟨_,PS.bq a _,rfl,⟨rfl,trivial⟩,⟨⟨cs,s.ops⟩,by rw[he];rfl,fun h0=>by rw[Y h0]⟩,rfl⟩
 have Z:¬q.err=0:=by simpa using wT
 have A:=Wf Z
 rw[Co A] at z
 refine dD (ai (ae 1 aa ?_))
 refine gq 47 6 rfl rfl ⟨fun _=>⟨rfl,rfl⟩,fun h=>absurd h (by decide),trivial⟩ ?_
 refine fo 47 1101 aa aa ⟨trivial,fun _=>⟨aa,aa⟩,trivial⟩ (ae 1 aa (af ?_))
 refine ax ?_
 rw[←z]
 subst J
 have he:jC.enc ⟨cs,s.ops⟩=[.sl (cs.map Core.enc),.e9 (s.ops.map fun i=>[.i .i64 i])]:=by unfold jC.enc;rw[DC.q7 (rows:=cs.map Core.enc) (by simpa using U)]
 exact⟨_,PS.bq a _,rfl,⟨rfl,trivial⟩,⟨⟨cs,s.ops⟩,by rw[he];rfl,fun h0=>by rw[Y h0]⟩,rfl⟩
open Go
set_option maxRecDepth 10000
def Bg(k:Int)(t:List UInt8)(v:Int×Int):Nat×BS:=(1001,.one 50 328 [dI k,d0,d0,d0,dN,dN,dS t,dS [],dN,dI v.1,dI v.2,dN,d0,dN,dN,dN,dN,dN,d0,d0,d0])
def BT(k:Int)(t:List UInt8)(v:Int×Int)(n:Nat)(w:Int)(s:DC):Nat×BS:=(1001,.one 50 328 [dI k,d0,d0,d0,dN,dN,dS t,dS [],dN,dI v.1,dI v.2,.ac 1050 n 8,dI w,.d s,dN,dN,dN,dN,d0,d0,d0])
def Bh(k:Int)(t:List UInt8)(v:Int×Int)(n m:Nat):Nat×BS:=(1001,.one 50 328 [dI k,d0,d0,d0,dN,dN,dS t,dS [],dN,dI v.1,dI v.2,.ac 1050 n 8,d0,.ac 1051 m 2,dN,dN,dN,dN,d0,d0,d0])
set_option maxHeartbeats 2000000 in
theorem L9{T:bd}(F:FT T){D:Rd}(G:kp T D){a:Bool}{p:PS}(hp:bf p)(k:Int)(t:List UInt8):bY T 153 [.vp 1000 0,.vp 1001 0] (PS.bq a p++[Bg k t (0,0)]) fun r Bn=>∃v,r= .tuple []∧Bn=PS.bq a ((p.aU [ld,oD,kf]).period D).2++[Bg k t v]∧(((p.aU [ld,oD,kf]).period D).2.err=0→v=((p.aU [ld,oD,kf]).period D).1):=by
 refine cw F.aaf aa ?_
 have z:=hp.dK [ld]
 have A:=z.top.dK [oD]
 have I:=A.top.dK [kf]
 refine eD (PS.bq a p++[(1001,.one 50 328 [dI k,d0,d0,d0,dN,dN,dS t,dS [],dN,dI (Prod.fst ((0,0):Int×Int)),dI (Prod.snd ((0,0):Int×Int)),dN,d0,dN,dN,dN,dN,dN,d0,d0,d0])]) (cI aa ⟨aa,trivial⟩) (ai (ae 1 aa (bI (jb F hp.ok ld) aa aa aa aa (af (ai (ae 1 aa (bI (jb F z.ok oD) aa aa aa aa (af (ai ?_)))))))))
 refine ae 1 aa (bI (jb F A.ok kf) aa aa aa aa (af (bD (ae 2 aa (ak (p8 (MJ F G I.st) aa aa aa (fun r J=>?_)))))))
 obtain⟨v,rfl,K⟩:=J
 refine ae 3 aa (af ?_)
 exact⟨_,PS.bq a _++[Bg k t v],aa,cI aa ⟨aa,trivial⟩,v,aa,aa,K⟩
set_option maxHeartbeats 2000000 in
theorem Wg{T:bd}(F:FT T){D:Rd}(K:kp T D){a:Bool}{p:PS}(hp:bf p)(k:Int)(t:List UInt8)(v:Int×Int)(w:Int)(s:DC){e:List aN}{N:Nat}(he:EG p e N)(hN:N≤100000):bY T 154 [.vp 1000 0,.vp 1001 0] (PS.bq a p++[BT k t v (e.map aN.enc).length w s,(1050,.acc 142 88 8 (e.map aN.enc))]) fun r Bn=>∃e1 x,r= .tuple []∧Bn=PS.bq a (p.d7 D).2++[BT k t v (e1.map aN.enc).length x s,(1050,.acc 142 88 8 (e1.map aN.enc))]∧EG (p.d7 D).2 e1 (N+610)∧((p.d7 D).2.err=0→x=(p.d7 D).1):=by
 refine cw F.PL aa (eD (PS.bq a p++[(1001,.one 50 328 [dI k,d0,d0,d0,dN,dN,dS t,dS [],dN,dI v.1,dI v.2,.ac 1050 (e.map aN.enc).length 8,dI w,.d s,dN,dN,dN,dN,d0,d0,d0]),(1050,.acc 142 88 8 (e.map aN.enc))]) (cI aa ⟨aa,aa,trivial⟩) (al 4 aa (ai (ae 1 aa (bI (fN F hp.ok jZ) aa aa aa aa (af (aI aa (fun z=>?_) (fun z=>?_))))))))
 ·have G:p.d7 D=(p.keyword jZ).2.expr D:=by unfold PS.d7;rw[aw z]
  have A:=hp.kw jZ
  have O:=A.top.expr D
  refine ai (ae 6 aa (jE 1001 11 aa aa (eB (PS.bq a (p.keyword jZ).2++[(1001,.one 50 328 [dI k,d0,d0,d0,dN,dN,dS t,dS [],dN,dI v.1,dI v.2,.undef,dI (-1),.d s,dN,dN,dN,dN,d0,d0,d0]),(1050,.acc 142 88 8 (e.map aN.enc))]) (cI aa ⟨aa,aa,trivial⟩) (jv (ui F K A.top (he.go2 A (mz ..)) hN) aa aa aa aa (fun e1 I=>?_)))))
  have U:=I.small O.ok (by omega)
  refine ae 3 aa (af ?_)
  refine bD (ae 6 aa ?_)
  refine ak (gm rfl rfl (by simp only[bZ,bb];omega) (by simp only[bZ,bb];omega) ?_)
  obtain⟨x,J⟩:∃x:Int,(((e1.map aN.enc).length:Nat):Int) -Int.ofNat 1=x:=⟨_,rfl⟩
  rw[J]
  refine ae 3 aa (af ?_)
  rw[G]
  exact⟨_,PS.bq a _++[BT k t v (e1.map aN.enc).length x s,(1050,.acc 142 88 8 (e1.map aN.enc))],rfl,cI rfl ⟨rfl,rfl,trivial⟩,e1,x,rfl,rfl,I.dE (by omega),fun h0=>J.symm.trans (q6 A.top I h0)⟩
 have G:p.d7 D=(-1,p):=by unfold PS.d7;rw[aj (by rw[z];decide)]
 rw[PS.cQ z]
 refine aQ ?_
 rw[G]
 exact⟨_,PS.bq a _++[BT k t v (e.map aN.enc).length (-1) s,(1050,.acc 142 88 8 (e.map aN.enc))],rfl,cI rfl ⟨rfl,rfl,trivial⟩,e, -1,rfl,rfl,he.dE (by omega),fun _=>rfl⟩
set_option maxHeartbeats 4000000 in
theorem PU{T:bd}(F:FT T){D:Rd}(J:kp T D){a:Bool}{p:PS}(hp:bf p)(k:Int)(t:List UInt8)(v:Int×Int){ss:List (List UInt8×Int)}(K:ss.length≤100000){e:List aN}{N:Nat}(he:EG p e N)(hN:N≤100000):bY T 155 [.vp 1000 0,.vp 1001 0] (PS.bq a p++[Bh k t v (e.map aN.enc).length (ss.map eR).length,(1050,.acc 142 88 8 (e.map aN.enc)),(1051,.acc 94 24 2 (ss.map eR))]) fun r Bn=>∃e1 x,r= .tuple []∧Bn=PS.bq a (p.set D).2++[Bh k t v (e1.map aN.enc).length ((ss++[x]).map eR).length,(1050,.acc 142 88 8 (e1.map aN.enc)),(1051,.acc 94 24 2 ((ss++[x]).map eR))]∧EG (p.set D).2 e1 (N+610)∧((p.set D).2.err=0→x=(p.set D).1):=by
 refine cw F.aag aa ?_
 have A:=hp.name
 have z:=A.trans (A.top.gQ na)
 have O:=z.trans (z.top.expr D)
 refine eD (PS.bq a p++[(1001,.one 50 328 [dI k,d0,d0,d0,dN,dN,dS t,dS [],dN,dI v.1,dI v.2,.ac 1050 (e.map aN.enc).length 8,d0,.ac 1051 (ss.map eR).length 2,dN,dN,dN,dN,d0,d0,d0]),(1050,.acc 142 88 8 (e.map aN.enc)),(1051,.acc 94 24 2 (ss.map eR))]) (cI aa ⟨aa,aa,aa,trivial⟩) (ai (ae 1 aa (bI (kX F hp.ok) aa aa aa aa (ae 3 aa (af ?_)))))
 refine ai (ae 1 aa (bI (oz F A.ok na) aa aa aa aa (af (ai (ae 6 aa (jE 1001 11 aa aa (eB (PS.bq a (p.name.2.bA na)++[(1001,.one 50 328 [dI k,d0,d0,d0,dN,dN,dS t,dS [],dN,dI v.1,dI v.2,.undef,d0,.ac 1051 (ss.map eR).length 2,dN,dN,dN,dN,d0,d0,d0]),(1050,.acc 142 88 8 (e.map aN.enc)),(1051,.acc 94 24 2 (ss.map eR)),(4,.one 94 24 [dS p.name.1,d0])]) (cI aa ⟨aa,aa,aa,aa,trivial⟩) ?_)))))))
 refine jv (ui F J z.top (he.go2 z (by rw[r6];exact qu ..)) hN) rfl rfl rfl rfl (fun e1 G=>?_)
 have U:=G.small O.ok (by omega)
 refine ae 3 aa (af ?_)
 refine ai (ae 5 aa ?_)
 refine ak (gm rfl rfl (by simp only[bZ,bb];omega) (by simp only[bZ,bb];omega) ?_)
 obtain⟨x,I⟩:∃x:Int,(((e1.map aN.enc).length:Nat):Int) -Int.ofNat 1=x:=⟨_,rfl⟩
 rw[I]
 refine ae 2 aa (af ?_)
 refine iw (bk 7 aa ?_)
 refine eo rfl (dZ (rows:=ss.map eR) (ys:=[(eR (p.name.1,x))]) rfl rfl rfl (.bs (rows:=[(eR (p.name.1,x))]) rfl) (bO rfl) (by rw[bC,bZ];simp only[cP,dx];omega) (fun h=>by rw[h];rfl) (fun h=>by rw[h];rfl) ?_)
 refine bk 3 aa (c6 ?_)
 exact⟨_,PS.bq a (p.set D).2++[Bh k t v (e1.map aN.enc).length ((ss.map eR)++[(eR (p.name.1,x))]).length,(1050,.acc 142 88 8 (e1.map aN.enc)),(1051,.acc 94 24 2 ((ss.map eR)++[(eR (p.name.1,x))]))],rfl,cI rfl ⟨rfl,rfl,rfl,trivial⟩,e1,(p.name.1,x),rfl,by rw[dr];rfl,G.dE (by omega),fun h0=>by rw[←I,q6 z.top G h0];rfl⟩
theorem PV{T:bd}(F:FT T){a:Bool}{p:PS}(hp:bf p):bY T 100 [.vp 1000 0] (PS.bq a p) fun r Bn=>r= .tuple []∧Bn=PS.bq a p.fin:=by
 refine cw F.ZL aa ?_
 have G:(p.aA.map cb.enc)[p.aJ]?=some p.tok.enc:=by rw[im,hp.ok.get];rfl
 refine eZ (bk 6 aa (vK (g:=aH) aa (fun z=>?_) (fun z=>?_)))
 ·have h0:p.err=0:=by simpa using z
  refine el aa (z) (bN aa ?_)
  refine el aa (z) (pH aa ?_)
  refine el aa (z) (dz aa ?_)
  refine ky aa (z) aa (df aa aa aa ?_)
  refine el aa (z) (bN aa ?_)
  refine el aa (z) (pH aa ?_)
  refine el aa (z) (dz aa ?_)
  refine ky aa (z) aa (df aa aa aa ?_)
  refine el aa (z) (kR (row:=p.tok.enc) aa aa G aa ?_)
  refine el aa (z) (tS aa ?_)
  refine ky aa (z) aa (mb aa aa ?_)
  refine el aa (z) (iD aa aa ?_)
  refine c8 (cT aa (z) aa ?_)
  refine c6 (aI aa (fun A=>?_) (fun A=>?_))
  ·have hk:¬p.tok.kind=6:=by simpa using A
   have I:p.fin=p.fail 5:=by unfold PS.fin;rw[aw ⟨h0,hk⟩]
   refine bD (ae 1 aa ?_)
   refine bI (mh F hp.ok (by decide)) rfl rfl rfl rfl ?_
   refine af ?_
   rw[I]
   exact⟨_,PS.bq a _,aa,⟨aa,trivial⟩,aa,aa⟩
  have hk:p.tok.kind=6:=by simpa using A
  have I:p.fin=p:=by unfold PS.fin;rw[aj (fun k=>k.2 hk)]
  refine aQ ?_
  rw[I]
  exact⟨_,PS.bq a _,aa,⟨aa,trivial⟩,aa,aa⟩
 have h0:¬p.err=0:=by simpa using z
 have I:p.fin=p:=by unfold PS.fin;rw[aj (fun k=>h0 k.1)]
 refine cU aa (z) (cU aa (z) (cU aa (z) (iO aa (z) (cU aa (z) (cU aa (z) (cU aa (z) (iO aa (z) (cU aa (z) (cU aa (z) ?_)))))))))
 refine iO aa (z) (cU aa (z) (c8 (cJ aa (z) aa ?_)))
 refine c6 (eC aa aa (aQ ?_))
 rw[I]
 exact⟨_,PS.bq a _,aa,⟨aa,trivial⟩,aa,aa⟩
end Go.Ev.Pp
