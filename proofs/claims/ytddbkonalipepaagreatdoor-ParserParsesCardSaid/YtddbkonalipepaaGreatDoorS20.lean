/- Part 20 of rules for walks through the code of a program, and of such walks; what each part proves is said by its theorems. -/
import Derived.Test.YtddbkonalipepaaGreatDoorS19
set_option linter.unusedVariables false
set_option linter.unusedSimpArgs false
namespace Go.Ev.Pp
open Go
set_option maxRecDepth 10000
theorem Lg(q:PS)(K:q.ok)(a:Bool):q.fU.2.lI a=q.dx.2.lI a∧(q.dx.2.err=0→q.dx=q.fU)∧q.fU.2.err=q.dx.2.err∧q.fU.2.aI=q.dx.2.aI:=by
 by_cases h0:q.err=0
 ·by_cases hk:q.tok.kind=2
  ·have z:q.j'=q:=by unfold PS.j';rw[aj (fun k=>k.2 hk)]
   have h2:q.dx=q.fU:=by unfold PS.dx;rw[z,aj (by simpa using h0)]
   rw[h2];exact⟨rfl,fun _=>rfl,rfl,rfl⟩
  have z:q.j'=q.fail 5:=by unfold PS.j';rw[aq ⟨h0,hk⟩]
  have A:(q.fail 5).err=5:=vA h0
  have h2:q.dx=(0,q.fail 5):=by unfold PS.dx;rw[z,aq (by rw[A];decide)]
  have G:q.name=([],q.fail 5):=by unfold PS.name PS.take;rw[aq h0,aj hk]
  have I:((q.fail 5).sign jh).1=false:=by rw[show(q.fail 5).sign jh=_ from rI (by rw[A];decide) 5 jh]
  have J:q.fU=(q.fail 5).push ⟨2,0,0,[],[],cj⟩:=by unfold PS.fU;rw[G,aj (by rw[I];decide)]
  rw[h2,J];exact⟨rfl,fun h=>absurd (A.symm.trans h) (by decide),rfl,rfl⟩
 have z:q.j'=q:=by unfold PS.j';rw[aj (fun k=>h0 k.1)]
 have h2:q.dx=(0,q):=by unfold PS.dx;rw[z,aq h0]
 have G:q.name=([],q):=by unfold PS.name PS.take;rw[aj h0]
 have I:(q.sign jh).1=false:=by rw[show q.sign jh=_ from rI h0 5 jh]
 have J:q.fU=q.push ⟨2,0,0,[],[],cj⟩:=by unfold PS.fU;rw[G,aj (by rw[I];decide)]
 rw[h2,J];exact⟨rfl,fun h=>absurd h h0,rfl,rfl⟩
theorem EG.dx{q:PS}{e:List aL}{N:Nat}(z:q.ok)(h:EG q.fU.2 e N):EG q.dx.2 e N:=by
 obtain⟨_,h2,A,G⟩:=Lg q z true
 exact⟨fun h0=>by rw[h2 h0];exact h.eq (by rw[A];exact h0),by rw[←G];exact h.len⟩
theorem S7{p:PS}(h:¬p.err=0):p.join=none:=by
 unfold PS.join
 simp only[show∀s,p.keyword s=(false,p) from fun s=>rI h 1 s]
 rfl
theorem Ve{p:PS}(h:¬p.err=0):p.op=none:=by
 unfold PS.op
 simp only[show∀s,p.keyword s=(false,p) from fun s=>rI h 1 s]
 rfl
theorem S8{p:PS}(h:¬p.err=0)(s:List UInt8):p.sign s=(false,p):=rI h 5 s
theorem F2(p:PS)(b:Bool):(p.source b).2.ex=p.ex:=(vC ..).trans (qg ..)
section
variable{T:bf}{VE:b0}{B:br}
def sX(k:Nat):List (Nat×Nat):=[(1000,1000),(1001,k),(1050,1050),(1051,1051)]
theorem N4{f:Nat}{d:Key}{O:Option (List Nat)}{J:List bo}{l:List aF}{bZ:List VV}{a dd:Bool}{p K:PS}{e:List aL}{ch:List Item}{G:List aL→Item→Prop}{Q:b0→br→Prop}(k:Nat)(h:bV T f bZ (p.ib a dd e ch) fun r Bn=>∃z A,r= .tuple []∧Bn=K.ib a dd z (ch++[A])∧G z A)
  (U:n7 2000 (sX k)=true) (Y:qy (sX k) 2000 (p.ib a dd e ch) B) (Z:iW VE l=some (iI (sX k) 2000 bZ)) (hi:xV (sX k) (p.ib a dd e ch)=true)
  (hc:(kA 2000 (kL 1050 VE VE)&&(kB 2000 B&&clean (kL 1050 VE VE) (eE (sX k) B) (sX k)))=true) (hq:∀z A,G z A→VO T J ((d.n,.tuple [])::kL 1050 VE VE) (mQ (sX k) 2000 (K.ib a dd z (ch++[A]))++eE (sX k) B) Q):VO T (⟨some d,none,O,.call f l⟩::J) VE B Q:=by
 obtain⟨a1,I⟩:=iw hc
 obtain⟨I,a3⟩:=iw I
 exact rO (Bi:=p.ib a dd e ch) 1050 (sX k) 2000 rfl U a1 I hi a3 Z Y h fun r Bn hp=>by
  obtain⟨z,A,rfl,rfl,h5⟩:=hp
  exact hq z A h5
end
set_option maxHeartbeats 8000000 in
theorem Ec{T:bf}(F:FT T){D:Rd}(Lq:ka T D){a:Bool}{p:PS}(hp:bd p):bV T 138 [.vp 1000 0] (PS.bq a p) fun r Bn=>(∃c:Core,r=ep c.enc∧((p.core D a).2.err=0→c=(p.core D a).1))∧Bn=PS.bq a (p.core D a).2:=by
 refine cl F.YU aa (ey (PS.bq a {p with ex:=[]}) ⟨aa,trivial⟩ ?_)
 have h0:bO {p with ex:=[]} {p with ex:=[]}:=.refl hp.nil.top
 have jb:bO {p with ex:=[]} p.iN:=h0.trans (h0.top.dD [zA])
 have U:bO {p with ex:=[]} p.ff:=jb.trans (jb.top.kw jc)
 have hz:EG {p with ex:=[]} [] 0:=⟨fun _=>rfl,dh _⟩
 have Fc:EG p.ff [] 0:=hz.go2 U (by unfold PS.ff;rw[mb];exact pg)
 refine ak 1 aa (ak 3 aa (ai (ae 1 aa (bH (iY F h0.ok zA) aa aa aa aa (af (ai (ae 1 aa (bH (fC F jb.ok jc) aa aa aa aa ?_))))))))
 obtain⟨d,hd⟩:∃d,(p.iN.keyword jc).1=d:=⟨_,rfl⟩
 rw[hd]
 refine ae 2 aa (af ?_)
 refine zV (fun VE B=>∃(q:PS)(e1:List aL)(ch:List Item),(p.ff.items D).2=q∧(q.err=0→ch=(p.ff.items D).1)∧bO {p with ex:=[]} q∧EG q e1 1000∧bu [(0,.vp 1000 0),(2,.vp 2 0),(3,.vp 3 0)] VE∧bu (PS.bq a q++[(3,.one 87 120 [dB d,.ac 1050 (e1.map aL.enc).length 8,.ac 1051 (ch.map Item.enc).length 3,dN,dI (-1),dB false,dN]),(1050,.acc 116 88 8 (e1.map aL.enc)),(1051,.acc 144 32 3 (ch.map Item.enc)),(2,.one 87 120 [dB false,dN,dN,dN,d0,dB false,dN])]) B) ?_ ?_
 ·rintro VE B⟨q,e1,ch,hq2,Fg,A,Y,hV,K⟩
  refine ey (PS.bq a q++[(3,.one 87 120 [dB d,.ac 1050 (e1.map aL.enc).length 8,.ac 1051 (ch.map Item.enc).length 3,dN,dI (-1),dB false,dN]),(1050,.acc 116 88 8 (e1.map aL.enc)),(1051,.acc 144 32 3 (ch.map Item.enc)),(2,.one 87 120 [dB false,dN,dN,dN,d0,dB false,dN])]) K ?_
  have K:bu (PS.bq a q++[(3,.one 87 120 [dB d,.ac 1050 (e1.map aL.enc).length 8,.ac 1051 (ch.map Item.enc).length 3,dN,dI (-1),dB false,dN]),(1050,.acc 116 88 8 (e1.map aL.enc)),(1051,.acc 144 32 3 (ch.map Item.enc)),(2,.one 87 120 [dB false,dN,dN,dN,d0,dB false,dN])]) (PS.bq a q++[(3,.one 87 120 [dB d,.ac 1050 (e1.map aL.enc).length 8,.ac 1051 (ch.map Item.enc).length 3,dN,dI (-1),dB false,dN]),(1050,.acc 116 88 8 (e1.map aL.enc)),(1051,.acc 144 32 3 (ch.map Item.enc)),(2,.one 87 120 [dB false,dN,dN,dN,d0,dB false,dN])]):=cG rfl ⟨rfl,rfl,rfl,rfl,trivial⟩
  subst hq2
  have II:bO {p with ex:=[]} (p.fo D):=A.trans (A.top.dD [hZ])
  have PE:EG (p.fo D) e1 1000:=Y.go2 (A.top.dD [hZ]) pg
  have Z4:=(A.top.dD [hZ]).er
  replace Fg:(p.fo D).err=0→ch=(p.ff.items D).1:=fun h0=>Fg (Z4 h0)
  refine dy _ _ hV K (ai (ae 1 aa (bH (iY F A.ok hZ) aa aa aa aa (mW 3 3 1052 146 48 4 aa aa aa (af (eU (bm 3 aa (yu (Gz F II.top true) aa aa aa aa aa (bm 1 aa ?_)))))))))
  refine eJ rfl (eu (rows:=[]) (ys:=[((p.fo D).source a).1.enc]) rfl rfl rfl (.bs (rows:=[((p.fo D).source a).1.enc]) rfl) (bS rfl) (by simp only[bJ,dj,dJ];omega) (fun h=>rfl) (fun h=>rfl) ?_)
  refine bm 2 aa (da ?_)
  refine zV (fun VE B=>∃(q:PS)(e1:List aL)(src:List Src),(p.iX D a)=q∧(q.err=0→src=((p.fo D).jR D a).1)∧src.length≤3000∧bO (p.fo D) q∧EG q e1 2000∧bu [(0,.vp 1000 0),(2,.vp 2 0),(3,.vp 3 0)] VE∧bu (PS.bq a q++[(3,.one 87 120 [dB d,.ac 1050 (e1.map aL.enc).length 8,.ac 1051 (ch.map Item.enc).length 3,.ac 1052 (src.map Src.enc).length 4,dI (-1),dB false,dN]),(1050,.acc 116 88 8 (e1.map aL.enc)),(1051,.acc 144 32 3 (ch.map Item.enc)),(1052,.acc 146 48 4 (src.map Src.enc)),(2,.one 87 120 [dB false,dN,dN,dN,d0,dB false,dN])]) B) ?_ ?_
  ·rintro VE B⟨q,e1,src,hq4,PF,qA,A,Y,hV,K⟩
   refine ey (PS.bq a q++[(3,.one 87 120 [dB d,.ac 1050 (e1.map aL.enc).length 8,.ac 1051 (ch.map Item.enc).length 3,.ac 1052 (src.map Src.enc).length 4,dI (-1),dB false,dN]),(1050,.acc 116 88 8 (e1.map aL.enc)),(1051,.acc 144 32 3 (ch.map Item.enc)),(1052,.acc 146 48 4 (src.map Src.enc)),(2,.one 87 120 [dB false,dN,dN,dN,d0,dB false,dN])]) K ?_
   have K:bu (PS.bq a q++[(3,.one 87 120 [dB d,.ac 1050 (e1.map aL.enc).length 8,.ac 1051 (ch.map Item.enc).length 3,.ac 1052 (src.map Src.enc).length 4,dI (-1),dB false,dN]),(1050,.acc 116 88 8 (e1.map aL.enc)),(1051,.acc 144 32 3 (ch.map Item.enc)),(1052,.acc 146 48 4 (src.map Src.enc)),(2,.one 87 120 [dB false,dN,dN,dN,d0,dB false,dN])]) (PS.bq a q++[(3,.one 87 120 [dB d,.ac 1050 (e1.map aL.enc).length 8,.ac 1051 (ch.map Item.enc).length 3,.ac 1052 (src.map Src.enc).length 4,dI (-1),dB false,dN]),(1050,.acc 116 88 8 (e1.map aL.enc)),(1051,.acc 144 32 3 (ch.map Item.enc)),(1052,.acc 146 48 4 (src.map Src.enc)),(2,.one 87 120 [dB false,dN,dN,dN,d0,dB false,dN])]):=cG rfl ⟨rfl,rfl,rfl,rfl,rfl,trivial⟩
   subst hq4
   refine dy _ _ hV K (zV (fun VE B=>∃(q:PS)(e1:List aL)(w:Int),(p.dC D a)=q∧(q.err=0→w=((p.iX D a).dW D).1)∧bO (p.iX D a) q∧EG q e1 3000∧bu [(0,.vp 1000 0),(2,.vp 2 0),(3,.vp 3 0)] VE∧bu (PS.bq a q++[(3,.one 87 120 [dB d,.ac 1050 (e1.map aL.enc).length 8,.ac 1051 (ch.map Item.enc).length 3,.ac 1052 (src.map Src.enc).length 4,dI w,dB false,dN]),(1050,.acc 116 88 8 (e1.map aL.enc)),(1051,.acc 144 32 3 (ch.map Item.enc)),(1052,.acc 146 48 4 (src.map Src.enc)),(2,.one 87 120 [dB false,dN,dN,dN,d0,dB false,dN])]) B) ?_ ?_)
   ·rintro VE B⟨q,e1,w,hq5,hw,AU,Y,hV,K⟩
    refine ey (PS.bq a q++[(3,.one 87 120 [dB d,.ac 1050 (e1.map aL.enc).length 8,.ac 1051 (ch.map Item.enc).length 3,.ac 1052 (src.map Src.enc).length 4,dI w,dB false,dN]),(1050,.acc 116 88 8 (e1.map aL.enc)),(1051,.acc 144 32 3 (ch.map Item.enc)),(1052,.acc 146 48 4 (src.map Src.enc)),(2,.one 87 120 [dB false,dN,dN,dN,d0,dB false,dN])]) K ?_
    have K:bu (PS.bq a q++[(3,.one 87 120 [dB d,.ac 1050 (e1.map aL.enc).length 8,.ac 1051 (ch.map Item.enc).length 3,.ac 1052 (src.map Src.enc).length 4,dI w,dB false,dN]),(1050,.acc 116 88 8 (e1.map aL.enc)),(1051,.acc 144 32 3 (ch.map Item.enc)),(1052,.acc 146 48 4 (src.map Src.enc)),(2,.one 87 120 [dB false,dN,dN,dN,d0,dB false,dN])]) (PS.bq a q++[(3,.one 87 120 [dB d,.ac 1050 (e1.map aL.enc).length 8,.ac 1051 (ch.map Item.enc).length 3,.ac 1052 (src.map Src.enc).length 4,dI w,dB false,dN]),(1050,.acc 116 88 8 (e1.map aL.enc)),(1051,.acc 144 32 3 (ch.map Item.enc)),(1052,.acc 146 48 4 (src.map Src.enc)),(2,.one 87 120 [dB false,dN,dN,dN,d0,dB false,dN])]):=cG rfl ⟨rfl,rfl,rfl,rfl,rfl,trivial⟩
    subst hq5
    refine dy _ _ hV K (aM (ai (ae 1 aa (bH (fC F AU.ok gq) aa aa aa aa (af (aJ aa (fun sY=>?_) (fun sY=>?_)))))))
    ·have Bt:(p.dC D a).group=((true,(je PS.dx (((p.dC D a).keyword gq).2.aU [gI])).1),(je PS.dx (((p.dC D a).keyword gq).2.aU [gI])).2):=by unfold PS.group;rw[aq sY]
     have IJ:=AU.top.kw gq
     have hG:=IJ.trans (IJ.top.dD [gI])
     have PG:EG (((p.dC D a).keyword gq).2.aU [gI]) e1 4000:=(Y.go2 hG (by rw[pg,mb])).dz (by omega)
     refine ai (ae 1 aa (bH (iY F IJ.ok gI) aa aa aa aa (mW 3 6 1053 3 8 1 aa aa aa (af (ak 2 aa (bN (d7 (fun k VE B=>∃(l:List Int)(q:PS)(e1:List aL)(gs:List Int),kv PS.dx k (l++[q.dx.1]) q.dx.2=je PS.dx (((p.dC D a).keyword gq).2.aU [gI])∧gs.length=l.length∧(q.err=0→gs=l)∧l.length≤q.aI+1∧(((p.dC D a).keyword gq).2.aU [gI]).ay.length≤k+q.aI∧bO (((p.dC D a).keyword gq).2.aU [gI]) q∧EG q e1 4000∧bu [(0,.vp 1000 0),(2,.vp 2 0),(3,.vp 3 0)] VE∧bu (PS.bq a q++[(3,.one 87 120 [dB d,.ac 1050 (e1.map aL.enc).length 8,.ac 1051 (ch.map Item.enc).length 3,.ac 1052 (src.map Src.enc).length 4,dI w,dB true,.ac 1053 (gs.map (fun i=>[DC.i .i64 i])).length 1]),(1050,.acc 116 88 8 (e1.map aL.enc)),(1051,.acc 144 32 3 (ch.map Item.enc)),(1052,.acc 146 48 4 (src.map Src.enc)),(1053,.acc 3 8 1 (gs.map (fun i=>[DC.i .i64 i]))),(2,.one 87 120 [dB false,dN,dN,dN,d0,dB false,dN])]) B) ?_ (k:=(((p.dC D a).keyword gq).2.aU [gI]).ay.length) ⟨[],(((p.dC D a).keyword gq).2.aU [gI]),e1,[],aa,aa,fun _=>aa,dh _,jP _ _,.refl hG.top,PG,⟨aa,aa,aa,trivial⟩,cG aa ⟨aa,aa,aa,aa,aa,aa,trivial⟩⟩)))))))
     clear Y PG
     rintro k VE B⟨l,q,e1,gs,z,PH,sM,jk,hk,Z,Y,hV,K⟩
     refine ey (PS.bq a q++[(3,.one 87 120 [dB d,.ac 1050 (e1.map aL.enc).length 8,.ac 1051 (ch.map Item.enc).length 3,.ac 1052 (src.map Src.enc).length 4,dI w,dB true,.ac 1053 (gs.map (fun i=>[DC.i .i64 i])).length 1]),(1050,.acc 116 88 8 (e1.map aL.enc)),(1051,.acc 144 32 3 (ch.map Item.enc)),(1052,.acc 146 48 4 (src.map Src.enc)),(1053,.acc 3 8 1 (gs.map (fun i=>[DC.i .i64 i]))),(2,.one 87 120 [dB false,dN,dN,dN,d0,dB false,dN])]) K ?_
     have K:bu (PS.bq a q++[(3,.one 87 120 [dB d,.ac 1050 (e1.map aL.enc).length 8,.ac 1051 (ch.map Item.enc).length 3,.ac 1052 (src.map Src.enc).length 4,dI w,dB true,.ac 1053 (gs.map (fun i=>[DC.i .i64 i])).length 1]),(1050,.acc 116 88 8 (e1.map aL.enc)),(1051,.acc 144 32 3 (ch.map Item.enc)),(1052,.acc 146 48 4 (src.map Src.enc)),(1053,.acc 3 8 1 (gs.map (fun i=>[DC.i .i64 i]))),(2,.one 87 120 [dB false,dN,dN,dN,d0,dB false,dN])]) (PS.bq a q++[(3,.one 87 120 [dB d,.ac 1050 (e1.map aL.enc).length 8,.ac 1051 (ch.map Item.enc).length 3,.ac 1052 (src.map Src.enc).length 4,dI w,dB true,.ac 1053 (gs.map (fun i=>[DC.i .i64 i])).length 1]),(1050,.acc 116 88 8 (e1.map aL.enc)),(1051,.acc 144 32 3 (ch.map Item.enc)),(1052,.acc 146 48 4 (src.map Src.enc)),(1053,.acc 3 8 1 (gs.map (fun i=>[DC.i .i64 i]))),(2,.one 87 120 [dB false,dN,dN,dN,d0,dB false,dN])]):=cG rfl ⟨rfl,rfl,rfl,rfl,rfl,rfl,trivial⟩
     have gh:q.ay.length=(((p.dC D a).keyword gq).2.aU [gI]).ay.length:=by rw[Z.ay]
     have fi:=Z.ok.dY
     have yw:=Z.ok.lt
     obtain⟨c1,c2,c3,c4⟩:=Lg q Z.ok a
     have I:=Z.top.dx
     refine dy _ _ hV K (bN (ai (ae 3 aa (jt 3 1 aa aa (ew (PS.bq a q++[(3,.one 87 120 [dB d,.undef,.ac 1051 (ch.map Item.enc).length 3,.ac 1052 (src.map Src.enc).length 4,dI w,dB true,.ac 1053 (gs.map (fun i=>[DC.i .i64 i])).length 1]),(1050,.acc 116 88 8 (e1.map aL.enc)),(1051,.acc 144 32 3 (ch.map Item.enc)),(1052,.acc 146 48 4 (src.map Src.enc)),(1053,.acc 3 8 1 (gs.map (fun i=>[DC.i .i64 i]))),(2,.one 87 120 [dB false,dN,dN,dN,d0,dB false,dN])]) (cG aa ⟨aa,aa,aa,aa,aa,aa,trivial⟩) ?_)))))
     refine jn (L0 F a q e1 4000 Z.st trivial Y (by omega)) rfl rfl rfl rfl (fun e2 g2=>?_)
     have Bu:EG q.dx.2 e2 4001:=g2.dx Z.ok
     have pf:=Bu.small I.ok (by omega)
     have hvz:(((e2.map aL.enc).length:Nat):Int) -Int.ofNat 1=(((e2.map aL.enc).length:Nat):Int) -Int.ofNat 1:=rfl
     refine ew (PS.bq a q.dx.2++[(3,.one 87 120 [dB d,.undef,.ac 1051 (ch.map Item.enc).length 3,.ac 1052 (src.map Src.enc).length 4,dI w,dB true,.ac 1053 (gs.map (fun i=>[DC.i .i64 i])).length 1]),(1050,.acc 116 88 8 (e2.map aL.enc)),(1051,.acc 144 32 3 (ch.map Item.enc)),(1052,.acc 146 48 4 (src.map Src.enc)),(1053,.acc 3 8 1 (gs.map (fun i=>[DC.i .i64 i]))),(2,.one 87 120 [dB false,dN,dN,dN,d0,dB false,dN])]) (cG (by rw[←c1];rfl) ⟨rfl,rfl,rfl,rfl,rfl,rfl,trivial⟩) ?_
     refine ae 2 aa (af ?_)
     refine ai (ae 5 aa ?_)
     refine al (gi rfl rfl (by simp only[cF,aZ];omega) (by simp only[cF,aZ];omega) ?_)
     obtain⟨v,hv⟩:∃v:Int,(((e2.map aL.enc).length:Nat):Int) -Int.ofNat 1=v:=⟨_,rfl⟩
     rw[hv]
     have PI:q.dx.2.err=0→v=q.dx.1:=fun h0=>hv.symm.trans (pz (by rw[c2 h0,(g2.eq (by rw[c3];exact h0))];exact I4 q))
     refine ae 1 aa ?_
     refine al (eu (rows:=gs.map (fun i=>[DC.i .i64 i])) (ys:=[[.i .i64 v]]) rfl rfl rfl (.bs (rows:=[[.i .i64 v]]) rfl) (bS rfl) (by rw[bJ,cF];simp only[dj,dJ];omega) (fun h=>by rw[h];rfl) (fun h=>by rw[h];rfl) ?_)
     refine ae 2 aa (af ?_)
     refine ai (ae 1 aa (bH (mj F I.ok cE) aa aa aa aa (ae 1 aa (af ?_))))
     refine aJ aa (fun IK=>?_) (fun IK=>?_)
     ·have qE:(q.dx.2.sign cE).1=false:=by simpa using IK
      rw[PS.ic qE]
      rw[ov qE] at z
      have Fh:(p.dC D a).group=((true,l++[q.dx.1]),q.dx.2):=by rw[Bt,←z]
      have N5:EG (p.dC D a).group.2 e2 4001∧bO (p.dC D a) (p.dC D a).group.2:=by rw[Fh];exact⟨Bu,(hG.trans Z).trans I⟩
      refine dM (ai (ae 1 aa ?_))
      refine fu 99 1050 rfl rfl ⟨trivial,fun _=>⟨rfl,rfl⟩,fun h=>absurd h (by decide),fun h=>absurd h (by decide),trivial,trivial,fun h=>absurd h (by decide),trivial⟩ ?_
      refine fu 99 1051 rfl rfl ⟨trivial,trivial,fun _=>⟨rfl,rfl⟩,fun h=>absurd h (by decide),trivial,trivial,fun h=>absurd h (by decide),trivial⟩ ?_
      refine fu 99 1052 rfl rfl ⟨trivial,trivial,trivial,fun _=>⟨rfl,rfl⟩,trivial,trivial,fun h=>absurd h (by decide),trivial⟩ ?_
      refine fu 99 1053 aa aa ⟨trivial,trivial,trivial,trivial,trivial,trivial,fun _=>⟨aa,aa⟩,trivial⟩ (ae 1 aa (af ?_))
      refine ax ?_
      have hc:(p.core D a).1=⟨(p.iN.keyword jc).1,(p.dC D a).group.2.ex,(p.ff.items D).1,((p.fo D).jR D a).1,((p.iX D a).dW D).1,(p.dC D a).group.1.1,(p.dC D a).group.1.2⟩:=rfl
      exact⟨_,PS.bq a q.dx.2,rfl,⟨rfl,trivial⟩,⟨⟨d,e2,ch,src,w,true,gs++[v]⟩,by simp only[Core.enc,dX,ez,fw];rfl,fun h0=>by
       have h5:=N5.2.er h0
       have h4:=AU.er h5
       have h3:=A.er h4
       have hz:q.dx.2.err=0:=by
        have h1:((p.dC D a).group).2.err=0:=h0
        rw[Fh] at h1;exact h1
       rw[hc,hd,←Fg h3,←PF h4,←hw h5,←N5.1.eq h0,Fh,PI hz,sM (I.er hz)]⟩,by show _=PS.bq a (p.dC D a).group.2;rw[Fh]⟩
     have qE:(q.dx.2.sign cE).1=true:=by simpa using IK
     have J:=(qp qE).1
     have pc:=ot I.ok qE
     obtain⟨k,rfl⟩:∃k',k=k'+1:=⟨k-1,by have:=pc.2;have:=I.ay;omega⟩
     rw[ou qE] at z
     have hgct:q.dx.2.ay.length=q.ay.length:=by rw[I.ay]
     refine aT ?_
     refine⟨k,fS k,l++[q.dx.1],(q.dx.2.sign cE).2,e2,gs++[v],z,?_,?_,?_,?_,(Z.trans I).trans (I.top.sign cE),(Bu.zero I.ok J).kn (bC.xW I.st cE) (ow ..)|>.dz (by omega),⟨rfl,rfl,rfl,trivial⟩,?_⟩
     ·rw[bJ,bJ,PH];rfl
     ·intro _;rw[PI J,sM (I.er J)]
     ·have:=I.aI;rw[bJ,eG];omega
     ·have:=I.aI;omega
     rw[dX];exact cG rfl ⟨rfl,rfl,rfl,rfl,rfl,rfl,trivial⟩
    have Bt:(p.dC D a).group=((false,[]),p.dC D a):=by unfold PS.group;rw[aj (by rw[sY];decide)]
    rw[PS.cK sY]
    have z:EG (p.dC D a).group.2 e1 4000∧bO (p.dC D a) (p.dC D a).group.2:=by rw[Bt];exact⟨Y.dz (by omega),.refl AU.top⟩
    refine aT (ai (ae 1 aa ?_))
    refine fu 99 1050 rfl rfl ⟨trivial,fun _=>⟨rfl,rfl⟩,fun h=>absurd h (by decide),fun h=>absurd h (by decide),trivial,trivial,trivial,trivial⟩ ?_
    refine fu 99 1051 rfl rfl ⟨trivial,trivial,fun _=>⟨rfl,rfl⟩,fun h=>absurd h (by decide),trivial,trivial,trivial,trivial⟩ ?_
    refine fu 99 1052 aa aa ⟨trivial,trivial,trivial,fun _=>⟨aa,aa⟩,trivial,trivial,trivial,trivial⟩ (ae 1 aa (af ?_))
    refine ax ?_
    have hc:(p.core D a).1=⟨(p.iN.keyword jc).1,(p.dC D a).group.2.ex,(p.ff.items D).1,((p.fo D).jR D a).1,((p.iX D a).dW D).1,(p.dC D a).group.1.1,(p.dC D a).group.1.2⟩:=rfl
    exact⟨_,PS.bq a (p.dC D a),rfl,⟨rfl,trivial⟩,⟨⟨d,e1,ch,src,w,false,[]⟩,rfl,fun h0=>by
     have h5:=z.2.er h0
     have h4:=AU.er h5
     have h3:=A.er h4
     rw[hc,hd,←Fg h3,←PF h4,←hw h5,←z.1.eq h0,Bt]⟩,by show _=PS.bq a (p.dC D a).group.2;rw[Bt]⟩
   refine ai (ae 1 aa (bH (fC F A.ok jO) aa aa aa aa (af (aJ aa (fun yS=>?_) (fun yS=>?_)))))
   ·refine ai (ae 3 aa (jt 3 1 aa aa (ew (PS.bq a ((p.iX D a).keyword jO).2++[(3,.one 87 120 [dB d,.undef,.ac 1051 (ch.map Item.enc).length 3,.ac 1052 (src.map Src.enc).length 4,dI (-1),dB false,dN]),(1050,.acc 116 88 8 (e1.map aL.enc)),(1051,.acc 144 32 3 (ch.map Item.enc)),(1052,.acc 146 48 4 (src.map Src.enc)),(2,.one 87 120 [dB false,dN,dN,dN,d0,dB false,dN])]) (cG aa ⟨aa,aa,aa,aa,aa,trivial⟩) ?_)))
    refine jn (tJ F Lq (A.top.kw jO).top (Y.go2 (A.top.kw jO) (mb ..)) (by omega)) rfl rfl rfl rfl (fun e2 g2=>?_)
    have pf:=g2.small ((A.top.kw jO).trans ((A.top.kw jO).top.expr D)).ok (by omega)
    refine ae 2 aa (af ?_)
    refine bG (ae 3 aa ?_)
    refine al (gi rfl rfl (by simp only[cF,aZ];omega) (by simp only[cF,aZ];omega) ?_)
    obtain⟨v,hv⟩:∃v:Int,(((e2.map aL.enc).length:Nat):Int) -Int.ofNat 1=v:=⟨_,rfl⟩
    rw[hv]
    refine ae 2 aa (af ?_)
    exact⟨_,e2,v,by unfold PS.dC PS.dW;rw[aq yS],fun h0=>by unfold PS.dW;rw[aq yS];exact hv.symm.trans (qM (A.top.kw jO).top g2 h0),(A.top.kw jO).trans ((A.top.kw jO).top.expr D),g2.dz (by omega),⟨rfl,rfl,rfl,trivial⟩,cG rfl ⟨rfl,rfl,rfl,rfl,rfl,trivial⟩⟩
   rw[PS.cK yS]
   refine aT ?_
   exact⟨_,e1, -1,by unfold PS.dC PS.dW;rw[aj (by rw[yS];decide)],fun h0=>by unfold PS.dW;rw[aj (by rw[yS];decide)],.refl A.top,Y.dz (by omega),⟨rfl,rfl,rfl,trivial⟩,cG rfl ⟨rfl,rfl,rfl,rfl,rfl,trivial⟩⟩
  refine bN ?_
  refine d7 (fun k VE B=>∃(l:List Src)(q:PS)(e1:List aL)(src:List Src),oD D k l q=(p.fo D).jR D a∧src.length=l.length∧(q.err=0→src=l)∧l.length≤q.aI+1∧(p.fo D).ay.length≤k+q.aI∧bO (p.fo D) q∧EG q e1 2000∧bu [(0,.vp 1000 0),(2,.vp 2 0),(3,.vp 3 0)] VE∧bu (PS.bq a q++[(3,.one 87 120 [dB d,.ac 1050 (e1.map aL.enc).length 8,.ac 1051 (ch.map Item.enc).length 3,.ac 1052 (src.map Src.enc).length 4,dI (-1),dB false,dN]),(1050,.acc 116 88 8 (e1.map aL.enc)),(1051,.acc 144 32 3 (ch.map Item.enc)),(1052,.acc 146 48 4 (src.map Src.enc)),(2,.one 87 120 [dB false,dN,dN,dN,d0,dB false,dN])]) B) ?_ (k:=(p.fo D).ay.length) ⟨[((p.fo D).source a).1],((p.fo D).source a).2,e1,[((p.fo D).source a).1],rfl,rfl,fun _=>rfl,mD (dh _),jP _ _,II.top.source a,(PE.go2 (II.top.source a) (F2 ..)).dz (by omega),⟨rfl,rfl,rfl,trivial⟩,cG rfl ⟨rfl,rfl,rfl,rfl,rfl,trivial⟩⟩
  clear PE Y
  rintro k VE B⟨l,q,e1,src,z,qA,Fi,jk,hk,A,Y,hV,K⟩
  refine ey (PS.bq a q++[(3,.one 87 120 [dB d,.ac 1050 (e1.map aL.enc).length 8,.ac 1051 (ch.map Item.enc).length 3,.ac 1052 (src.map Src.enc).length 4,dI (-1),dB false,dN]),(1050,.acc 116 88 8 (e1.map aL.enc)),(1051,.acc 144 32 3 (ch.map Item.enc)),(1052,.acc 146 48 4 (src.map Src.enc)),(2,.one 87 120 [dB false,dN,dN,dN,d0,dB false,dN])]) K ?_
  have K:bu (PS.bq a q++[(3,.one 87 120 [dB d,.ac 1050 (e1.map aL.enc).length 8,.ac 1051 (ch.map Item.enc).length 3,.ac 1052 (src.map Src.enc).length 4,dI (-1),dB false,dN]),(1050,.acc 116 88 8 (e1.map aL.enc)),(1051,.acc 144 32 3 (ch.map Item.enc)),(1052,.acc 146 48 4 (src.map Src.enc)),(2,.one 87 120 [dB false,dN,dN,dN,d0,dB false,dN])]) (PS.bq a q++[(3,.one 87 120 [dB d,.ac 1050 (e1.map aL.enc).length 8,.ac 1051 (ch.map Item.enc).length 3,.ac 1052 (src.map Src.enc).length 4,dI (-1),dB false,dN]),(1050,.acc 116 88 8 (e1.map aL.enc)),(1051,.acc 144 32 3 (ch.map Item.enc)),(1052,.acc 146 48 4 (src.map Src.enc)),(2,.one 87 120 [dB false,dN,dN,dN,d0,dB false,dN])]):=cG rfl ⟨rfl,rfl,rfl,rfl,rfl,trivial⟩
  have gh:q.ay.length=(p.fo D).ay.length:=by rw[A.ay]
  have fi:=A.ok.dY
  have yw:=A.ok.lt
  refine dy _ _ hV K (aM (ak 5 aa (aJ aa (fun qF=>?_) (fun qF=>?_))))
  ·have J:q.err=0:=by simpa using qF
   refine aT (bN (ai (ae 1 aa (bH (fC F A.ok nK) aa aa aa aa (ae 1 aa (af ?_))))))
   refine aM (ak 1 aa (aJ aa (fun wF=>?_) (fun wF=>?_)))
   ·have hj:q.join=some (true,((q.keyword nK).2.aU [j9])):=by unfold PS.join;rw[aq wF]
    obtain⟨sZ,nY,jY⟩:=A.top.join hj
    obtain⟨k,rfl⟩:∃k',k=k'+1:=⟨k-1,by omega⟩
    rw[yY hj] at z
    have gz:EG ((q.keyword nK).2.aU [j9]) e1 0:=((Y.zero A.ok J).kn (bC.Ga A.st nK) (mb ..)).kn (bC.aU (A.top.kw nK).st) pg
    refine bG (ae 1 aa (bH (iY F (A.top.kw nK).ok j9) aa aa aa aa ?_))
    rw[wF]
    generalize ((q.keyword nK).2.aU [j9])=G at hj sZ nY z gz⊢
    have s1:=sZ.top.source false
    have s2:=s1.trans (s1.top.dD [o9])
    have gs:=gz.go2 s2 (by rw[pg,F2])
    have s3:=s2.trans (s2.top.expr D)
    refine af (ai (ae 1 aa (bH (Gz F sZ.top false) aa aa aa aa (ae 2 aa (af ?_)))))
    refine ak 3 aa (ai (ae 1 aa (bH (iY F s1.ok o9) aa aa aa aa (af (ai (ae 3 aa (jt 3 1 aa aa (ew (PS.bq a ((G.source false).2.aU [o9])++[(3,.one 87 120 [dB d,.undef,.ac 1051 (ch.map Item.enc).length 3,.ac 1052 (src.map Src.enc).length 4,dI (-1),dB false,dN]),(1050,.acc 116 88 8 (e1.map aL.enc)),(1051,.acc 144 32 3 (ch.map Item.enc)),(1052,.acc 146 48 4 (src.map Src.enc)),(5,.one 146 48 [dB true,dS (G.source false).1.table,dS (G.source false).1.alias,dI (-1)]),(2,.one 87 120 [dB false,dN,dN,dN,d0,dB false,dN])]) (cG aa ⟨aa,aa,aa,aa,aa,aa,trivial⟩) ?_))))))))
    refine jn (tJ F Lq s2.top gs (by omega)) rfl rfl rfl rfl (fun e2 g2=>?_)
    have pf:=g2.small s3.ok (by omega)
    refine ae 2 aa (af ?_)
    refine ai (ae 3 aa ?_)
    refine al (gi rfl rfl (by simp only[cF,aZ];omega) (by simp only[cF,aZ];omega) ?_)
    obtain⟨v,hv⟩:∃v:Int,(((e2.map aL.enc).length:Nat):Int) -Int.ofNat 1=v:=⟨_,rfl⟩
    rw[hv]
    refine ae 2 aa (af ?_)
    refine bG (ae 4 aa ?_)
    refine al (eu (rows:=src.map Src.enc) (ys:=[(⟨true,(G.source false).1.table,(G.source false).1.alias,v⟩:Src).enc]) rfl rfl rfl (.bs (rows:=[(⟨true,(G.source false).1.table,(G.source false).1.alias,v⟩:Src).enc]) rfl) (bS rfl) (by rw[bJ,cF];simp only[dj,dJ];omega) (fun h=>by rw[h];rfl) (fun h=>by rw[h];rfl) ?_)
    refine ae 2 aa (af ?_)
    have gv:(G.gC D true).2.err=0→v=(G.gC D true).1.on:=fun h0=>hv.symm.trans (qM s2.top g2 h0)
    refine⟨k,fS k,l++[(G.gC D true).1],(G.gC D true).2,e2,src++[(⟨true,(G.source false).1.table,(G.source false).1.alias,v⟩:Src)],z,?_,?_,?_,?_,(A.trans sZ).trans s3,g2.dz (by omega),⟨rfl,rfl,rfl,trivial⟩,?_⟩
    ·rw[bJ,bJ,qA];rfl
    ·intro h0;rw[gv h0,Fi J];rfl
    ·have:G.aI≤(G.gC D true).2.aI:=s3.aI;rw[bJ,eG];omega
    ·have:G.aI≤(G.gC D true).2.aI:=s3.aI;show(p.fo D).ay.length≤k+(G.gC D true).2.aI;omega
    rw[dX];exact cG rfl ⟨rfl,rfl,rfl,rfl,rfl,trivial⟩
   rw[PS.cK wF]
   refine ai (ae 1 aa (bH (fC F A.ok j9) aa aa aa aa (ae 1 aa (af ?_))))
   refine aJ aa (fun qD=>?_) (fun qD=>?_)
   ·have vc:(q.keyword j9).1=false:=by simpa using qD
    have hj:q.join=none:=by unfold PS.join;rw[aj (by rw[wF];decide),aj (by rw[vc];decide)]
    rw[BE hj] at z
    rw[PS.cK vc]
    refine dM ?_
    exact⟨q,e1,src,by unfold PS.iX;rw[←z],fun h0=>by rw[←z];exact Fi h0,by omega,A,Y,⟨rfl,rfl,rfl,trivial⟩,cG rfl ⟨rfl,rfl,rfl,rfl,rfl,trivial⟩⟩
   have vc:(q.keyword j9).1=true:=by simpa using qD
   have hj:q.join=some (false,(q.keyword j9).2):=by unfold PS.join;rw[aj (by rw[wF];decide),aq vc]
   obtain⟨sZ,nY,jY⟩:=A.top.join hj
   obtain⟨k,rfl⟩:∃k',k=k'+1:=⟨k-1,by omega⟩
   rw[yY hj] at z
   have gz:EG (q.keyword j9).2 e1 0:=(Y.zero A.ok J).kn (bC.Ga A.st j9) (mb ..)
   rw[wF]
   generalize (q.keyword j9).2=G at hj sZ nY z gz⊢
   have s1:=sZ.top.source false
   have s2:=s1.trans (s1.top.dD [o9])
   have gs:=gz.go2 s2 (by rw[pg,F2])
   have s3:=s2.trans (s2.top.expr D)
   refine aT (ai (ae 1 aa (bH (Gz F sZ.top false) aa aa aa aa (ae 2 aa (af ?_)))))
   refine ak 3 aa (ai (ae 1 aa (bH (iY F s1.ok o9) aa aa aa aa (af (ai (ae 3 aa (jt 3 1 aa aa (ew (PS.bq a ((G.source false).2.aU [o9])++[(3,.one 87 120 [dB d,.undef,.ac 1051 (ch.map Item.enc).length 3,.ac 1052 (src.map Src.enc).length 4,dI (-1),dB false,dN]),(1050,.acc 116 88 8 (e1.map aL.enc)),(1051,.acc 144 32 3 (ch.map Item.enc)),(1052,.acc 146 48 4 (src.map Src.enc)),(5,.one 146 48 [dB false,dS (G.source false).1.table,dS (G.source false).1.alias,dI (-1)]),(2,.one 87 120 [dB false,dN,dN,dN,d0,dB false,dN])]) (cG aa ⟨aa,aa,aa,aa,aa,aa,trivial⟩) ?_))))))))
   refine jn (tJ F Lq s2.top gs (by omega)) rfl rfl rfl rfl (fun e2 g2=>?_)
   have pf:=g2.small s3.ok (by omega)
   refine ae 2 aa (af ?_)
   refine ai (ae 3 aa ?_)
   refine al (gi rfl rfl (by simp only[cF,aZ];omega) (by simp only[cF,aZ];omega) ?_)
   obtain⟨v,hv⟩:∃v:Int,(((e2.map aL.enc).length:Nat):Int) -Int.ofNat 1=v:=⟨_,rfl⟩
   rw[hv]
   refine ae 2 aa (af ?_)
   refine bG (ae 4 aa ?_)
   refine al (eu (rows:=src.map Src.enc) (ys:=[(⟨false,(G.source false).1.table,(G.source false).1.alias,v⟩:Src).enc]) rfl rfl rfl (.bs (rows:=[(⟨false,(G.source false).1.table,(G.source false).1.alias,v⟩:Src).enc]) rfl) (bS rfl) (by rw[bJ,cF];simp only[dj,dJ];omega) (fun h=>by rw[h];rfl) (fun h=>by rw[h];rfl) ?_)
   refine ae 2 aa (af ?_)
   have gv:(G.gC D false).2.err=0→v=(G.gC D false).1.on:=fun h0=>hv.symm.trans (qM s2.top g2 h0)
   refine⟨k,fS k,l++[(G.gC D false).1],(G.gC D false).2,e2,src++[(⟨false,(G.source false).1.table,(G.source false).1.alias,v⟩:Src)],z,?_,?_,?_,?_,(A.trans sZ).trans s3,g2.dz (by omega),⟨rfl,rfl,rfl,trivial⟩,?_⟩
   ·rw[bJ,bJ,qA];rfl
   ·intro h0;rw[gv h0,Fi J];rfl
   ·have:G.aI≤(G.gC D false).2.aI:=s3.aI;rw[bJ,eG];omega
   ·have:G.aI≤(G.gC D false).2.aI:=s3.aI;show(p.fo D).ay.length≤k+(G.gC D false).2.aI;omega
   rw[dX];exact cG rfl ⟨rfl,rfl,rfl,rfl,rfl,trivial⟩
  have J:¬q.err=0:=by simpa using qF
  have hj:q.join=none:=S7 J
  rw[BE hj] at z
  refine dM ?_
  exact⟨q,e1,src,by unfold PS.iX;rw[←z],fun h0=>by rw[←z];exact Fi h0,by omega,A,Y,⟨rfl,rfl,rfl,trivial⟩,cG rfl ⟨rfl,rfl,rfl,rfl,rfl,trivial⟩⟩
 refine ai (mW 3 1 1050 116 88 8 aa aa aa (mW 3 2 1051 144 32 3 aa aa aa (ae 1 aa (bH (mj F U.ok eM) aa aa aa aa (ae 1 aa (af ?_))))))
 refine aJ aa (fun O=>?_) (fun O=>?_)
 ·have O:(p.ff.sign eM).1=false:=by simpa using O
  rw[PS.ic O]
  refine ai (ae 1 aa ?_)
  refine N4 3 (N3 F Lq U.top d (e:=[]) (ch:=[]) Fc (by omega) (dh _)) rfl ⟨rfl,rfl,rfl,rfl,rfl,rfl,rfl,rfl,trivial⟩ rfl rfl rfl (fun e1 it1 IL=>?_)
  obtain⟨PJ,PK⟩:=IL
  refine af (bN ?_)
  refine d7 (fun k VE B=>∃(l:List Item)(q:PS)(e1:List aL)(ch:List Item),kv (fun p=>p.item D) k l q=(je (fun p=>p.item D) p.ff)∧ch.length=l.length∧(q.err=0→ch=l)∧l.length≤q.aI+1∧p.ff.ay.length≤k+q.aI∧bO p.ff q∧EG q e1 1000∧bu [(0,.vp 1000 0),(2,.vp 2 0),(3,.vp 3 0)] VE∧bu (PS.bq a q++[(3,.one 87 120 [dB d,.ac 1050 (e1.map aL.enc).length 8,.ac 1051 (ch.map Item.enc).length 3,dN,dI (-1),dB false,dN]),(1050,.acc 116 88 8 (e1.map aL.enc)),(1051,.acc 144 32 3 (ch.map Item.enc)),(2,.one 87 120 [dB false,dN,dN,dN,d0,dB false,dN])]) B) ?_ (k:=p.ff.ay.length) ⟨[(p.ff.item D).1],(p.ff.item D).2,e1,[it1],rfl,rfl,fun h0=>by rw[PK h0],mD (dh _),jP _ _,U.top.item D,PJ.dz (by omega),⟨rfl,rfl,rfl,trivial⟩,cG rfl ⟨rfl,rfl,rfl,rfl,trivial⟩⟩
  clear PJ PK
  rintro k VE B⟨l,q,e1,ch,z,Bk,PL,jk,hk,A,Y,hV,K⟩
  refine ey (PS.bq a q++[(3,.one 87 120 [dB d,.ac 1050 (e1.map aL.enc).length 8,.ac 1051 (ch.map Item.enc).length 3,dN,dI (-1),dB false,dN]),(1050,.acc 116 88 8 (e1.map aL.enc)),(1051,.acc 144 32 3 (ch.map Item.enc)),(2,.one 87 120 [dB false,dN,dN,dN,d0,dB false,dN])]) K ?_
  have K:bu (PS.bq a q++[(3,.one 87 120 [dB d,.ac 1050 (e1.map aL.enc).length 8,.ac 1051 (ch.map Item.enc).length 3,dN,dI (-1),dB false,dN]),(1050,.acc 116 88 8 (e1.map aL.enc)),(1051,.acc 144 32 3 (ch.map Item.enc)),(2,.one 87 120 [dB false,dN,dN,dN,d0,dB false,dN])]) (PS.bq a q++[(3,.one 87 120 [dB d,.ac 1050 (e1.map aL.enc).length 8,.ac 1051 (ch.map Item.enc).length 3,dN,dI (-1),dB false,dN]),(1050,.acc 116 88 8 (e1.map aL.enc)),(1051,.acc 144 32 3 (ch.map Item.enc)),(2,.one 87 120 [dB false,dN,dN,dN,d0,dB false,dN])]):=cG rfl ⟨rfl,rfl,rfl,rfl,trivial⟩
  have gh:q.ay.length=p.ff.ay.length:=by rw[A.ay]
  have fi:=A.ok.dY
  have yw:=A.ok.lt
  refine dy _ _ hV K (aM (ai (ae 1 aa (bH (mj F A.ok cE) aa aa aa aa (af (aJ aa (fun yT=>?_) (fun yT=>?_)))))))
  ·have h2:=A.top.sign cE
   have pc:=ot A.ok yT
   have J:=(qp yT).1
   obtain⟨k,rfl⟩:∃k',k=k'+1:=⟨k-1,by have:=pc.2;omega⟩
   rw[ou yT] at z
   have h3:=h2.trans (h2.top.item D)
   have gz:=(Y.zero A.ok J).kn (bC.xW A.st cE) (ow ..)
   refine aT (bN (bG (ae 1 aa ?_)))
   refine N4 3 (N3 F Lq h2.top d (e:=e1) (ch:=ch) gz (by omega) (by omega)) rfl ⟨rfl,rfl,rfl,rfl,rfl,rfl,rfl,rfl,trivial⟩ rfl rfl rfl (fun e2 it2 IL=>?_)
   obtain⟨Bu,gi2⟩:=IL
   refine af ?_
   refine⟨k,fS k,l++[((q.sign cE).2.item D).1],((q.sign cE).2.item D).2,e2,ch++[it2],z,?_,?_,?_,?_,A.trans h3,Bu.dz (by omega),⟨rfl,rfl,rfl,trivial⟩,cG rfl ⟨rfl,rfl,rfl,rfl,trivial⟩⟩
   ·rw[bJ,bJ,Bk];rfl
   ·intro h0;rw[gi2 h0,PL J]
   ·have:=h3.aI;have:=pc.1;have:=(h2.top.item D).aI;rw[bJ,eG];show l.length+1≤((q.sign cE).2.item D).2.aI+1;omega
   have:=(h2.top.item D).aI;have:=pc.1;show p.ff.ay.length≤k+((q.sign cE).2.item D).2.aI;omega
  rw[ov yT] at z
  rw[PS.ic yT]
  refine dM ?_
  exact⟨_,e1,ch,by unfold PS.items;rw[aj (by rw[O];decide)];rw[←z],fun h0=>by unfold PS.items;rw[aj (by rw[O];decide),←z];exact PL h0,U.trans A,Y,⟨rfl,rfl,rfl,trivial⟩,cG rfl ⟨rfl,rfl,rfl,rfl,trivial⟩⟩
 have O:(p.ff.sign eM).1=true:=by simpa using O
 refine aT ?_
 exact⟨_,[],[],by unfold PS.items;rw[aq O],fun _=>by unfold PS.items;rw[aq O],U.trans (U.top.sign _),(EG.go2 hz (U.trans (U.top.sign _)) (by rw[ow];unfold PS.ff;rw[mb];exact pg)).dz (by omega),⟨rfl,rfl,rfl,trivial⟩,cG rfl ⟨rfl,rfl,rfl,rfl,trivial⟩⟩
open Go
set_option maxRecDepth 10000
set_option maxHeartbeats 4000000 in
theorem GR{T:bf}(F:FT T){D:Rd}(Lq:ka T D){a:Bool}{p:PS}(hp:bd p):bV T 82 [.vp 1000 0] (PS.bq a p) fun r Bn=>(∃s:js,r=ep s.enc∧((p.cQ D a).2.err=0→s=(p.cQ D a).1))∧Bn=PS.bq a (p.cQ D a).2:=by
 refine cl F.f82 aa (ak 1 aa (ai (ae 1 aa (al (pQ (Ec F Lq hp) aa aa aa (fun r hr=>?_))))))
 obtain⟨c1,rfl,jb⟩:=hr
 refine ae 2 aa (rK 7 1 1101 3 8 1 aa aa aa (ae 2 aa (af ?_)))
 refine aM (bN ?_)
 refine d7 (fun k VE B=>∃(s:js)(q:PS)(cs:List Core)(os:List Int),pX D a k s q=p.cQ D a∧cs≠[]∧cs.length=s.fN.length∧os=s.ops∧(q.err=0→cs=s.fN)∧s.fN.length≤q.aI+1∧s.ops.length≤q.aI+1∧p.ay.length≤k+q.aI∧bO p q∧bu [(0,.vp 1000 0),(2,.vp 2 0),(3,.vp 3 0)] VE∧bu (PS.bq a q++[(3,.one 27 48 [.bs 6 (cs.map Core.enc).length 7,.ac 1101 (os.map (fun i=>[DC.i .i64 i])).length 1]),(6,.arr 87 120 7 (cs.map Core.enc).length (cs.map Core.enc)),(1101,.acc 3 8 1 (os.map (fun i=>[DC.i .i64 i]))),(2,.one 27 48 [dN,dN])]) B) ?_ (k:=p.ay.length) ⟨⟨[(p.core D a).1],[]⟩,(p.core D a).2,[c1],[],rfl,pK _ _,rfl,rfl,fun h0=>by rw[jb h0],mD (dh _),dh _,jP _ _,hp.core D a,⟨rfl,rfl,rfl,trivial⟩,cG rfl ⟨rfl,rfl,rfl,rfl,trivial⟩⟩
 clear jb
 rintro k VE B⟨s,q,cs,os,z,U,ry,J,Y,jk,sL,hk,O,hV,hB⟩
 refine ey (PS.bq a q++[(3,.one 27 48 [.bs 6 (cs.map Core.enc).length 7,.ac 1101 (os.map (fun i=>[DC.i .i64 i])).length 1]),(6,.arr 87 120 7 (cs.map Core.enc).length (cs.map Core.enc)),(1101,.acc 3 8 1 (os.map (fun i=>[DC.i .i64 i]))),(2,.one 27 48 [dN,dN])]) hB ?_
 have hB:bu (PS.bq a q++[(3,.one 27 48 [.bs 6 (cs.map Core.enc).length 7,.ac 1101 (os.map (fun i=>[DC.i .i64 i])).length 1]),(6,.arr 87 120 7 (cs.map Core.enc).length (cs.map Core.enc)),(1101,.acc 3 8 1 (os.map (fun i=>[DC.i .i64 i]))),(2,.one 27 48 [dN,dN])]) (PS.bq a q++[(3,.one 27 48 [.bs 6 (cs.map Core.enc).length 7,.ac 1101 (os.map (fun i=>[DC.i .i64 i])).length 1]),(6,.arr 87 120 7 (cs.map Core.enc).length (cs.map Core.enc)),(1101,.acc 3 8 1 (os.map (fun i=>[DC.i .i64 i]))),(2,.one 27 48 [dN,dN])]):=cG rfl ⟨rfl,rfl,rfl,rfl,trivial⟩
 have gh:q.ay.length=p.ay.length:=by rw[O.ay]
 have fi:=O.ok.dY
 have yw:=O.ok.lt
 have hol:os.length=s.ops.length:=by rw[J]
 refine dy _ _ hV hB (aM (ak 5 aa (aJ aa (fun wE=>?_) (fun wE=>?_))))
 ·have Z:q.err=0:=by simpa using wE
  refine aT (bN (aM (bN (ai (ae 1 aa (bH (fC F O.ok tG) aa aa aa aa (ae 1 aa (af ?_))))))))
  refine aJ aa (fun K=>?_) (fun K=>?_)
  ·have A:q.op=some (6,(q.keyword tG).2):=by unfold PS.op;rw[aq K]
   obtain⟨G,nY,jY⟩:=O.top.op A
   obtain⟨k,rfl⟩:∃k',k=k'+1:=⟨k-1,by omega⟩
   rw[vk A] at z
   generalize (q.keyword tG).2=q1 at A G nY z⊢
   have I:=G.top.dD [gK]
   have g2:=I.top.core D a
   have ga:=I.aI
   have gb:=g2.aI
   refine bG (ae 3 aa ?_)
   refine al (eu (rows:=(os.map (fun i=>[DC.i .i64 i]))) (ys:=[[.i .i64 6]]) rfl rfl rfl (.bs (rows:=[[.i .i64 6]]) rfl) (bS rfl) (by simp only[bJ,cF,dj,dJ];omega) (fun h=>by rw[h];rfl) (fun h=>by rw[h];rfl) ?_)
   refine ae 2 aa (af ?_)
   refine ai (ae 1 aa (bH (iY F G.ok gK) aa aa aa aa (af (iK (bm 3 aa (eJ aa (pQ (Ec F Lq I.top) aa aa aa (fun r hr=>?_))))))))
   obtain⟨c2,rfl,rz⟩:=hr
   refine bm 1 aa ?_
   refine eJ rfl (rT (rows:=cs.map Core.enc) (ys:=[c2.enc]) rfl rfl rfl (.bs (rows:=[c2.enc]) rfl) (bS rfl) (by simp only[bJ,cF,dj,dJ];omega) ?_)
   refine bm 2 aa (da ?_)
   refine⟨k,fS k,⟨s.fN++[((q1.aU [gK]).core D a).1],s.ops++[6]⟩,((q1.aU [gK]).core D a).2,cs++[c2],os++[6],z,mh U _,?_,?_,?_,?_,?_,?_,(O.trans G).trans (I.trans g2),⟨aa,aa,aa,trivial⟩,?_⟩
   ·rw[bJ,bJ,ry];rfl
   ·rw[J]
   ·intro h0;rw[rz h0,Y Z]
   ·rw[bJ,eG];omega
   ·rw[bJ,eG];omega
   ·omega
   simp only[dX,ez,fw]
   exact cG aa ⟨aa,aa,aa,aa,trivial⟩
  rw[PS.cK K]
  refine ai (ae 1 aa (bH (fC F O.ok tt) aa aa aa aa (ae 1 aa (af ?_))))
  refine aJ aa (fun rD=>?_) (fun rD=>?_)
  ·have A:q.op=some (7,(q.keyword tt).2):=by unfold PS.op;rw[aj (by rw[K];decide),aq rD]
   obtain⟨G,nY,jY⟩:=O.top.op A
   obtain⟨k,rfl⟩:∃k',k=k'+1:=⟨k-1,by omega⟩
   rw[vk A] at z
   generalize (q.keyword tt).2=q1 at A G nY z⊢
   have I:=G.top.dD [gK]
   have g2:=I.top.core D a
   have ga:=I.aI
   have gb:=g2.aI
   refine bG (ae 3 aa ?_)
   refine al (eu (rows:=(os.map (fun i=>[DC.i .i64 i]))) (ys:=[[.i .i64 7]]) rfl rfl rfl (.bs (rows:=[[.i .i64 7]]) rfl) (bS rfl) (by simp only[bJ,cF,dj,dJ];omega) (fun h=>by rw[h];rfl) (fun h=>by rw[h];rfl) ?_)
   refine ae 2 aa (af ?_)
   refine ai (ae 1 aa (bH (iY F G.ok gK) aa aa aa aa (af (iK (bm 3 aa (eJ aa (pQ (Ec F Lq I.top) aa aa aa (fun r hr=>?_))))))))
   obtain⟨c2,rfl,rz⟩:=hr
   refine bm 1 aa ?_
   refine eJ rfl (rT (rows:=cs.map Core.enc) (ys:=[c2.enc]) rfl rfl rfl (.bs (rows:=[c2.enc]) rfl) (bS rfl) (by simp only[bJ,cF,dj,dJ];omega) ?_)
   refine bm 2 aa (da ?_)
   refine⟨k,fS k,⟨s.fN++[((q1.aU [gK]).core D a).1],s.ops++[7]⟩,((q1.aU [gK]).core D a).2,cs++[c2],os++[7],z,mh U _,?_,?_,?_,?_,?_,?_,(O.trans G).trans (I.trans g2),⟨aa,aa,aa,trivial⟩,?_⟩
   ·rw[bJ,bJ,ry];rfl
   ·rw[J]
   ·intro h0;rw[rz h0,Y Z]
   ·rw[bJ,eG];omega
   ·rw[bJ,eG];omega
   ·omega
   simp only[dX,ez,fw]
   exact cG aa ⟨aa,aa,aa,aa,trivial⟩
  rw[PS.cK rD]
  refine ai (ae 1 aa (bH (fC F O.ok s9) aa aa aa aa (ae 1 aa (af ?_))))
  refine aJ aa (fun Fj=>?_) (fun Fj=>?_)
  ·have A:q.op=some (8,(q.keyword s9).2):=by unfold PS.op;rw[aj (by rw[K];decide),aj (by rw[rD];decide),aq Fj]
   obtain⟨G,nY,jY⟩:=O.top.op A
   obtain⟨k,rfl⟩:∃k',k=k'+1:=⟨k-1,by omega⟩
   rw[vk A] at z
   generalize (q.keyword s9).2=q1 at A G nY z⊢
   have I:=G.top.dD [gK]
   have g2:=I.top.core D a
   have ga:=I.aI
   have gb:=g2.aI
   refine bG (ae 3 aa ?_)
   refine al (eu (rows:=(os.map (fun i=>[DC.i .i64 i]))) (ys:=[[.i .i64 8]]) rfl rfl rfl (.bs (rows:=[[.i .i64 8]]) rfl) (bS rfl) (by simp only[bJ,cF,dj,dJ];omega) (fun h=>by rw[h];rfl) (fun h=>by rw[h];rfl) ?_)
   refine ae 2 aa (af ?_)
   refine ai (ae 1 aa (bH (iY F G.ok gK) aa aa aa aa (af (iK (bm 3 aa (eJ aa (pQ (Ec F Lq I.top) aa aa aa (fun r hr=>?_))))))))
   obtain⟨c2,rfl,rz⟩:=hr
   refine bm 1 aa ?_
   refine eJ rfl (rT (rows:=cs.map Core.enc) (ys:=[c2.enc]) rfl rfl rfl (.bs (rows:=[c2.enc]) rfl) (bS rfl) (by simp only[bJ,cF,dj,dJ];omega) ?_)
   refine bm 2 aa (da ?_)
   refine⟨k,fS k,⟨s.fN++[((q1.aU [gK]).core D a).1],s.ops++[8]⟩,((q1.aU [gK]).core D a).2,cs++[c2],os++[8],z,mh U _,?_,?_,?_,?_,?_,?_,(O.trans G).trans (I.trans g2),⟨aa,aa,aa,trivial⟩,?_⟩
   ·rw[bJ,bJ,ry];rfl
   ·rw[J]
   ·intro h0;rw[rz h0,Y Z]
   ·rw[bJ,eG];omega
   ·rw[bJ,eG];omega
   ·omega
   simp only[dX,ez,fw]
   exact cG aa ⟨aa,aa,aa,aa,trivial⟩
  have A:q.op=none:=by unfold PS.op;rw[aj (by rw[K];decide),aj (by rw[rD];decide),aj (by rw[Fj];decide)]
  rw[BV A] at z
  rw[PS.cK Fj]
  refine ai (ae 1 aa ?_)
  refine gB 13 6 rfl rfl ⟨fun _=>⟨rfl,rfl⟩,fun h=>absurd h (by decide),trivial⟩ ?_
  refine fu 13 1101 aa aa ⟨trivial,fun _=>⟨aa,aa⟩,trivial⟩ (ae 1 aa (af ?_))
  refine ax ?_
  rw[←z]
  subst J
  have he:js.enc ⟨cs,s.ops⟩=[.sl (cs.map Core.enc),.e8 (s.ops.map fun i=>[.i .i64 i])]:=by unfold js.enc;rw[DC.qN (rows:=cs.map Core.enc) (by simpa using U)]
  exact⟨_,PS.bq a _,rfl,⟨rfl,trivial⟩,⟨⟨cs,s.ops⟩,by rw[he];rfl,fun h0=>by rw[Y h0]⟩,rfl⟩
 have Z:¬q.err=0:=by simpa using wE
 have A:=Ve Z
 rw[BV A] at z
 refine dM (ai (ae 1 aa ?_))
 refine gB 47 6 rfl rfl ⟨fun _=>⟨rfl,rfl⟩,fun h=>absurd h (by decide),trivial⟩ ?_
 refine fu 47 1101 aa aa ⟨trivial,fun _=>⟨aa,aa⟩,trivial⟩ (ae 1 aa (af ?_))
 refine ax ?_
 rw[←z]
 subst J
 have he:js.enc ⟨cs,s.ops⟩=[.sl (cs.map Core.enc),.e8 (s.ops.map fun i=>[.i .i64 i])]:=by unfold js.enc;rw[DC.qN (rows:=cs.map Core.enc) (by simpa using U)]
 exact⟨_,PS.bq a _,rfl,⟨rfl,trivial⟩,⟨⟨cs,s.ops⟩,by rw[he];rfl,fun h0=>by rw[Y h0]⟩,rfl⟩
open Go
set_option maxRecDepth 10000
def AV(k:Int)(t:List UInt8)(v:Int×Int):Nat×BS:=(1001,.one 38 328 [dI k,d0,d0,d0,dN,dN,dS t,dS [],dN,dI v.1,dI v.2,dN,d0,dN,dN,dN,dN,dN,d0,d0,d0])
def Bv(k:Int)(t:List UInt8)(v:Int×Int)(n:Nat)(w:Int)(s:DC):Nat×BS:=(1001,.one 38 328 [dI k,d0,d0,d0,dN,dN,dS t,dS [],dN,dI v.1,dI v.2,.ac 1050 n 8,dI w,.d s,dN,dN,dN,dN,d0,d0,d0])
def AW(k:Int)(t:List UInt8)(v:Int×Int)(n m:Nat):Nat×BS:=(1001,.one 38 328 [dI k,d0,d0,d0,dN,dN,dS t,dS [],dN,dI v.1,dI v.2,.ac 1050 n 8,d0,.ac 1051 m 2,dN,dN,dN,dN,d0,d0,d0])
set_option maxHeartbeats 2000000 in
theorem Lh{T:bf}(F:FT T){D:Rd}(G:ka T D){a:Bool}{p:PS}(hp:bd p)(k:Int)(t:List UInt8):bV T 129 [.vp 1000 0,.vp 1001 0] (PS.bq a p++[AV k t (0,0)]) fun r Bn=>∃v,r= .tuple []∧Bn=PS.bq a ((p.aU [kO,om,jZ]).period D).2++[AV k t v]∧(((p.aU [kO,om,jZ]).period D).2.err=0→v=((p.aU [kO,om,jZ]).period D).1):=by
 refine cl F.YL aa ?_
 have z:=hp.dD [kO]
 have A:=z.top.dD [om]
 have I:=A.top.dD [jZ]
 refine ey (PS.bq a p++[(1001,.one 38 328 [dI k,d0,d0,d0,dN,dN,dS t,dS [],dN,dI (Prod.fst ((0,0):Int×Int)),dI (Prod.snd ((0,0):Int×Int)),dN,d0,dN,dN,dN,dN,dN,d0,d0,d0])]) (cG aa ⟨aa,trivial⟩) (ai (ae 1 aa (bH (iY F hp.ok kO) aa aa aa aa (af (ai (ae 1 aa (bH (iY F z.ok om) aa aa aa aa (af (ai ?_)))))))))
 refine ae 1 aa (bH (iY F A.ok jZ) aa aa aa aa (af (bG (ae 2 aa (al (pQ (LU F G I.st) aa aa aa (fun r J=>?_)))))))
 obtain⟨v,rfl,K⟩:=J
 refine ae 3 aa (af ?_)
 exact⟨_,PS.bq a _++[AV k t v],aa,cG aa ⟨aa,trivial⟩,v,aa,aa,K⟩
set_option maxHeartbeats 2000000 in
theorem Vf{T:bf}(F:FT T){D:Rd}(K:ka T D){a:Bool}{p:PS}(hp:bd p)(k:Int)(t:List UInt8)(v:Int×Int)(w:Int)(s:DC){e:List aL}{N:Nat}(he:EG p e N)(hN:N≤100000):bV T 130 [.vp 1000 0,.vp 1001 0] (PS.bq a p++[Bv k t v (e.map aL.enc).length w s,(1050,.acc 116 88 8 (e.map aL.enc))]) fun r Bn=>∃e1 x,r= .tuple []∧Bn=PS.bq a (p.dW D).2++[Bv k t v (e1.map aL.enc).length x s,(1050,.acc 116 88 8 (e1.map aL.enc))]∧EG (p.dW D).2 e1 (N+610)∧((p.dW D).2.err=0→x=(p.dW D).1):=by
 refine cl F.OM aa (ey (PS.bq a p++[(1001,.one 38 328 [dI k,d0,d0,d0,dN,dN,dS t,dS [],dN,dI v.1,dI v.2,.ac 1050 (e.map aL.enc).length 8,dI w,.d s,dN,dN,dN,dN,d0,d0,d0]),(1050,.acc 116 88 8 (e.map aL.enc))]) (cG aa ⟨aa,aa,trivial⟩) (ak 4 aa (ai (ae 1 aa (bH (fC F hp.ok jO) aa aa aa aa (af (aJ aa (fun z=>?_) (fun z=>?_))))))))
 ·have G:p.dW D=(p.keyword jO).2.expr D:=by unfold PS.dW;rw[aq z]
  have A:=hp.kw jO
  have O:=A.top.expr D
  refine ai (ae 6 aa (jt 1001 11 aa aa (ew (PS.bq a (p.keyword jO).2++[(1001,.one 38 328 [dI k,d0,d0,d0,dN,dN,dS t,dS [],dN,dI v.1,dI v.2,.undef,dI (-1),.d s,dN,dN,dN,dN,d0,d0,d0]),(1050,.acc 116 88 8 (e.map aL.enc))]) (cG aa ⟨aa,aa,trivial⟩) (jn (tJ F K A.top (he.go2 A (mb ..)) hN) aa aa aa aa (fun e1 I=>?_)))))
  have U:=I.small O.ok (by omega)
  refine ae 3 aa (af ?_)
  refine bG (ae 6 aa ?_)
  refine al (gi rfl rfl (by simp only[cF,aZ];omega) (by simp only[cF,aZ];omega) ?_)
  obtain⟨x,J⟩:∃x:Int,(((e1.map aL.enc).length:Nat):Int) -Int.ofNat 1=x:=⟨_,rfl⟩
  rw[J]
  refine ae 3 aa (af ?_)
  rw[G]
  exact⟨_,PS.bq a _++[Bv k t v (e1.map aL.enc).length x s,(1050,.acc 116 88 8 (e1.map aL.enc))],rfl,cG rfl ⟨rfl,rfl,trivial⟩,e1,x,rfl,rfl,I.dz (by omega),fun h0=>J.symm.trans (qM A.top I h0)⟩
 have G:p.dW D=(-1,p):=by unfold PS.dW;rw[aj (by rw[z];decide)]
 rw[PS.cK z]
 refine aT ?_
 rw[G]
 exact⟨_,PS.bq a _++[Bv k t v (e.map aL.enc).length (-1) s,(1050,.acc 116 88 8 (e.map aL.enc))],rfl,cG rfl ⟨rfl,rfl,trivial⟩,e, -1,rfl,rfl,he.dz (by omega),fun _=>rfl⟩
set_option maxHeartbeats 4000000 in
theorem OT{T:bf}(F:FT T){D:Rd}(J:ka T D){a:Bool}{p:PS}(hp:bd p)(k:Int)(t:List UInt8)(v:Int×Int){ss:List (List UInt8×Int)}(K:ss.length≤100000){e:List aL}{N:Nat}(he:EG p e N)(hN:N≤100000):bV T 131 [.vp 1000 0,.vp 1001 0] (PS.bq a p++[AW k t v (e.map aL.enc).length (ss.map eK).length,(1050,.acc 116 88 8 (e.map aL.enc)),(1051,.acc 75 24 2 (ss.map eK))]) fun r Bn=>∃e1 x,r= .tuple []∧Bn=PS.bq a (p.set D).2++[AW k t v (e1.map aL.enc).length ((ss++[x]).map eK).length,(1050,.acc 116 88 8 (e1.map aL.enc)),(1051,.acc 75 24 2 ((ss++[x]).map eK))]∧EG (p.set D).2 e1 (N+610)∧((p.set D).2.err=0→x=(p.set D).1):=by
 refine cl F.YM aa ?_
 have A:=hp.name
 have z:=A.trans (A.top.gP mT)
 have O:=z.trans (z.top.expr D)
 refine ey (PS.bq a p++[(1001,.one 38 328 [dI k,d0,d0,d0,dN,dN,dS t,dS [],dN,dI v.1,dI v.2,.ac 1050 (e.map aL.enc).length 8,d0,.ac 1051 (ss.map eK).length 2,dN,dN,dN,dN,d0,d0,d0]),(1050,.acc 116 88 8 (e.map aL.enc)),(1051,.acc 75 24 2 (ss.map eK))]) (cG aa ⟨aa,aa,aa,trivial⟩) (ai (ae 1 aa (bH (kM F hp.ok) aa aa aa aa (ae 3 aa (af ?_)))))
 refine ai (ae 1 aa (bH (oh F A.ok mT) aa aa aa aa (af (ai (ae 6 aa (jt 1001 11 aa aa (ew (PS.bq a (p.name.2.bw mT)++[(1001,.one 38 328 [dI k,d0,d0,d0,dN,dN,dS t,dS [],dN,dI v.1,dI v.2,.undef,d0,.ac 1051 (ss.map eK).length 2,dN,dN,dN,dN,d0,d0,d0]),(1050,.acc 116 88 8 (e.map aL.enc)),(1051,.acc 75 24 2 (ss.map eK)),(4,.one 75 24 [dS p.name.1,d0])]) (cG aa ⟨aa,aa,aa,aa,trivial⟩) ?_)))))))
 refine jn (tJ F J z.top (he.go2 z (by rw[rG];exact qg ..)) hN) rfl rfl rfl rfl (fun e1 G=>?_)
 have U:=G.small O.ok (by omega)
 refine ae 3 aa (af ?_)
 refine ai (ae 5 aa ?_)
 refine al (gi rfl rfl (by simp only[cF,aZ];omega) (by simp only[cF,aZ];omega) ?_)
 obtain⟨x,I⟩:∃x:Int,(((e1.map aL.enc).length:Nat):Int) -Int.ofNat 1=x:=⟨_,rfl⟩
 rw[I]
 refine ae 2 aa (af ?_)
 refine iK (bm 7 aa ?_)
 refine eJ rfl (eu (rows:=ss.map eK) (ys:=[(eK (p.name.1,x))]) rfl rfl rfl (.bs (rows:=[(eK (p.name.1,x))]) rfl) (bS rfl) (by rw[bJ,cF];simp only[dj,dJ];omega) (fun h=>by rw[h];rfl) (fun h=>by rw[h];rfl) ?_)
 refine bm 3 aa (da ?_)
 exact⟨_,PS.bq a (p.set D).2++[AW k t v (e1.map aL.enc).length ((ss.map eK)++[(eK (p.name.1,x))]).length,(1050,.acc 116 88 8 (e1.map aL.enc)),(1051,.acc 75 24 2 ((ss.map eK)++[(eK (p.name.1,x))]))],rfl,cG rfl ⟨rfl,rfl,rfl,trivial⟩,e1,(p.name.1,x),rfl,by rw[dX];rfl,G.dz (by omega),fun h0=>by rw[←I,qM z.top G h0];rfl⟩
theorem OU{T:bf}(F:FT T){a:Bool}{p:PS}(hp:bd p):bV T 81 [.vp 1000 0] (PS.bq a p) fun r Bn=>r= .tuple []∧Bn=PS.bq a p.fin:=by
 refine cl F.f81 aa ?_
 have G:(p.ay.map cL.enc)[p.aI]?=some p.tok.enc:=by rw[iO,hp.ok.get];rfl
 refine eU (bm 6 aa (vx (g:=aG) aa (fun z=>?_) (fun z=>?_)))
 ·have h0:p.err=0:=by simpa using z
  refine dZ aa (z) (bM aa ?_)
  refine dZ aa (z) (pj aa ?_)
  refine dZ aa (z) (dq aa ?_)
  refine kq aa (z) aa (cW aa aa aa ?_)
  refine dZ aa (z) (bM aa ?_)
  refine dZ aa (z) (pj aa ?_)
  refine dZ aa (z) (dq aa ?_)
  refine kq aa (z) aa (cW aa aa aa ?_)
  refine dZ aa (z) (lS (row:=p.tok.enc) aa aa G aa ?_)
  refine dZ aa (z) (tl aa ?_)
  refine kq aa (z) aa (mA aa aa ?_)
  refine dZ aa (z) (iu aa aa ?_)
  refine dE (cS aa (z) aa ?_)
  refine da (aJ aa (fun A=>?_) (fun A=>?_))
  ·have hk:¬p.tok.kind=6:=by simpa using A
   have I:p.fin=p.fail 5:=by unfold PS.fin;rw[aq ⟨h0,hk⟩]
   refine bG (ae 1 aa ?_)
   refine bH (lV F hp.ok (by decide)) rfl rfl rfl rfl ?_
   refine af ?_
   rw[I]
   exact⟨_,PS.bq a _,aa,⟨aa,trivial⟩,aa,aa⟩
  have hk:p.tok.kind=6:=by simpa using A
  have I:p.fin=p:=by unfold PS.fin;rw[aj (fun k=>k.2 hk)]
  refine aT ?_
  rw[I]
  exact⟨_,PS.bq a _,aa,⟨aa,trivial⟩,aa,aa⟩
 have h0:¬p.err=0:=by simpa using z
 have I:p.fin=p:=by unfold PS.fin;rw[aj (fun k=>h0 k.1)]
 refine cN aa (z) (cN aa (z) (cN aa (z) (iJ aa (z) (cN aa (z) (cN aa (z) (cN aa (z) (iJ aa (z) (cN aa (z) (cN aa (z) ?_)))))))))
 refine iJ aa (z) (cN aa (z) (dE (cI aa (z) aa ?_)))
 refine da (eI aa aa (aT ?_))
 rw[I]
 exact⟨_,PS.bq a _,aa,⟨aa,trivial⟩,aa,aa⟩
end Go.Ev.Pp
