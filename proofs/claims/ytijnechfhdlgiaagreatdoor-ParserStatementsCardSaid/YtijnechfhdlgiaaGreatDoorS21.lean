/- Part 21 of rules for walks through the code of a program, and of such walks; what each part proves is said by its theorems. -/
import Derived.Test.YtijnechfhdlgiaaGreatDoorS20
set_option linter.unusedVariables false
set_option linter.unusedSimpArgs false
noncomputable section
set_option maxRecDepth 100000
set_option maxHeartbeats 4000000
namespace Go.Ev.Pp
open Go
theorem Wq{T:bd}(F:FT T){a:Bool}{p:PS}(hp:bk p):cg T 156 [.vp 1000 0] (PS.bq a (p.bc [dA])) fun r Bn=>r=eU p.create.1.enc∧Bn=PS.bq a p.create.2:=by
 refine cL F.abL aa ?_
 have hu:=(hp.d6 [dA]).top
 have h1:=hu.name.trans (hu.name.top.ij cE)
 have pf:∀p,bk p→b8 p (PS.column p).2:=fun _ h=>h.column
 refine an 1 aa (an 3 aa (ai (ae 1 aa (bV (lI F hu.ok) aa aa aa aa (ak 2 aa (ai (ae 1 aa (bV (pv F hu.name.ok cE) aa aa aa aa (nH 3 14 1101 96 32 3 aa aa aa ?_)))))))))
 refine nH 3 16 1102 98 64 3 aa aa aa (nH 3 17 1103 100 32 2 aa aa aa (aX (eO (bD 3 aa (Am (G6 F h1.top) aa aa aa aa aa (bD 1 aa ?_))))))
 refine dy rfl (eD (rows:=[]) (ys:=[di ((p.bc [dA]).name.2.bJ cE).column.1]) rfl rfl rfl (.bs (rows:=[di ((p.bc [dA]).name.2.bJ cE).column.1]) rfl) (b0 rfl) (by simp only[bE,cV,dL];omega) (fun h=>rfl) (fun h=>rfl) ?_)
 refine du 2 aa (aL (bM (d7 (fun k VE B=>∃(l:List _)(q:PS),lg PS.column k l q=(jG PS.column ((p.bc [dA]).name.2.bJ cE))∧l≠[]∧l.length≤q.aO+1∧((p.bc [dA]).name.2.bJ cE).aF.length≤k+q.aO∧b8 ((p.bc [dA]).name.2.bJ cE) q∧bn [(0,.vp 1000 0),(2,.vp 2 0),(3,.vp 3 0)] VE∧bn (PS.bq a q++[(3,.one 50 328 [dI 5,d0,d0,d0,dN,dN,dS (p.bc [dA]).name.1,dS [],dN,d0,d0,dN,d0,dN,.ac 1101 (l.map di).length 3,dN,.ac 1102 (([]:List Fk).map Fk.enc).length 3,.ac 1103 (([]:List (Int×List (List UInt8))).map eu).length 2,d0,d0,d0]),(1101,.acc 96 32 3 (l.map di)),(1102,.acc 98 64 3 (([]:List Fk).map Fk.enc)),(1103,.acc 100 32 2 (([]:List (Int×List (List UInt8))).map eu)),(2,.one 50 328 zS)]) B) ?_ (k:=((p.bc [dA]).name.2.bJ cE).aF.length) ⟨[(PS.column ((p.bc [dA]).name.2.bJ cE)).1],(PS.column ((p.bc [dA]).name.2.bJ cE)).2,aa,qz _ _,nm (dp _),ku _ _,pf _ h1.top,⟨aa,aa,aa,trivial⟩,cU aa ⟨aa,aa,aa,aa,aa,trivial⟩⟩)))
 rintro k VE B⟨l,q,Z,l8,jM,hk,hq,hV,U⟩
 refine eZ (PS.bq a q++[(3,.one 50 328 [dI 5,d0,d0,d0,dN,dN,dS (p.bc [dA]).name.1,dS [],dN,d0,d0,dN,d0,dN,.ac 1101 (l.map di).length 3,dN,.ac 1102 (([]:List Fk).map Fk.enc).length 3,.ac 1103 (([]:List (Int×List (List UInt8))).map eu).length 2,d0,d0,d0]),(1101,.acc 96 32 3 (l.map di)),(1102,.acc 98 64 3 (([]:List Fk).map Fk.enc)),(1103,.acc 100 32 2 (([]:List (Int×List (List UInt8))).map eu)),(2,.one 50 328 zS)]) U ?_
 have U:bn (PS.bq a q++[(3,.one 50 328 [dI 5,d0,d0,d0,dN,dN,dS (p.bc [dA]).name.1,dS [],dN,d0,d0,dN,d0,dN,.ac 1101 (l.map di).length 3,dN,.ac 1102 (([]:List Fk).map Fk.enc).length 3,.ac 1103 (([]:List (Int×List (List UInt8))).map eu).length 2,d0,d0,d0]),(1101,.acc 96 32 3 (l.map di)),(1102,.acc 98 64 3 (([]:List Fk).map Fk.enc)),(1103,.acc 100 32 2 (([]:List (Int×List (List UInt8))).map eu)),(2,.one 50 328 zS)]) (PS.bq a q++[(3,.one 50 328 [dI 5,d0,d0,d0,dN,dN,dS (p.bc [dA]).name.1,dS [],dN,d0,d0,dN,d0,dN,.ac 1101 (l.map di).length 3,dN,.ac 1102 (([]:List Fk).map Fk.enc).length 3,.ac 1103 (([]:List (Int×List (List UInt8))).map eu).length 2,d0,d0,d0]),(1101,.acc 96 32 3 (l.map di)),(1102,.acc 98 64 3 (([]:List Fk).map Fk.enc)),(1103,.acc 100 32 2 (([]:List (Int×List (List UInt8))).map eu)),(2,.one 50 328 zS)]):=cU rfl ⟨rfl,rfl,rfl,rfl,rfl,trivial⟩
 have gM:q.aF.length=((p.bc [dA]).name.2.bJ cE).aF.length:=by rw[hq.aF]
 refine db _ _ hV U (aL (ai (ae 1 aa (bV (m7 F hq.ok cT) aa aa aa aa (aX (aK aa (fun rL=>?_) (fun rL=>?_)))))))
 ·have h2:=hq.top.sign cT
  have p6:=pB hq.ok rL
  have fZ:=hq.ok.eG
  obtain⟨k,rfl⟩:∃k',k=k'+1:=⟨k-1,by have:=p6.2;omega⟩
  rw[pC rL] at Z
  have h3:=h2.trans (pf _ h2.top)
  refine aQ (bM (im (bD 3 aa (Am (G6 F h2.top) aa aa aa aa aa (bD 1 aa ?_)))))
  refine dy rfl (eD (rows:=l.map di) (ys:=[di (PS.column (q.sign cT).2).1]) rfl rfl rfl (.bs (rows:=[di (PS.column (q.sign cT).2).1]) rfl) (b0 rfl) (by simp only[bE,ca,cV,dL];omega) (fun h=>by rw[h];rfl) (fun h=>by rw[h];rfl) ?_)
  refine du 2 aa (⟨k,gG k,l++[(PS.column (q.sign cT).2).1],(PS.column (q.sign cT).2).2,Z,mX l8 _,?_,?_,hq.trans h3,?_,?_⟩)
  ·have:=h3.aO;have:=p6.1;have:=(pf _ h2.top).aO;rw[bE,dY];show l.length+1≤(PS.column (q.sign cT).2).2.aO+1;omega
  ·have:=(pf _ h2.top).aO;have:=p6.1;show((p.bc [dA]).name.2.bJ cE).aF.length≤k+(PS.column (q.sign cT).2).2.aO;omega
  ·try simp only[dx,e7,gj]
   exact⟨aa,aa,aa,trivial⟩
  try simp only[dx,e7,gj]
  exact cU aa ⟨aa,aa,aa,aa,aa,trivial⟩
 rw[pD rL] at Z
 rw[PS.iS rL]
 refine dJ (ai (ae 1 aa (bV (pv F hq.ok ee) aa aa aa aa ?_)))
 have jC:p.uh=(l,q):=Z.symm
 have sO:q.bJ ee=p.iT:=by unfold PS.iT;rw[jC]
 have RI:b8 p p.iT:=hp.iT
 rw[sO]
 refine aX (ri (fun VE B=>∃(O:List (List UInt8))(q2:PS),p.iT.key=(O,q2)∧bn [(0,.vp 1000 0),(2,.vp 2 0),(3,.vp 3 0)] VE∧bn (PS.bq a q2++[(3,.one 50 328 [dI 5,d0,d0,d0,dN,dN,dS (p.bc [dA]).name.1,dS [],dN,d0,d0,dN,d0,dN,.ac 1101 (l.map di).length 3,.d (gC O),.ac 1102 (([]:List Fk).map Fk.enc).length 3,.ac 1103 (([]:List (Int×List (List UInt8))).map eu).length 2,d0,d0,d0]),(1101,.acc 96 32 3 (l.map di)),(1102,.acc 98 64 3 (([]:List Fk).map Fk.enc)),(1103,.acc 100 32 2 (([]:List (Int×List (List UInt8))).map eu)),(2,.one 50 328 zS)]) B) ?_ ?_)
 ·rintro VE B⟨O,q2,Gj,hV,U⟩
  refine eZ (PS.bq a q2++[(3,.one 50 328 [dI 5,d0,d0,d0,dN,dN,dS (p.bc [dA]).name.1,dS [],dN,d0,d0,dN,d0,dN,.ac 1101 (l.map di).length 3,.d (gC O),.ac 1102 (([]:List Fk).map Fk.enc).length 3,.ac 1103 (([]:List (Int×List (List UInt8))).map eu).length 2,d0,d0,d0]),(1101,.acc 96 32 3 (l.map di)),(1102,.acc 98 64 3 (([]:List Fk).map Fk.enc)),(1103,.acc 100 32 2 (([]:List (Int×List (List UInt8))).map eu)),(2,.one 50 328 zS)]) U ?_
  have U:bn (PS.bq a q2++[(3,.one 50 328 [dI 5,d0,d0,d0,dN,dN,dS (p.bc [dA]).name.1,dS [],dN,d0,d0,dN,d0,dN,.ac 1101 (l.map di).length 3,.d (gC O),.ac 1102 (([]:List Fk).map Fk.enc).length 3,.ac 1103 (([]:List (Int×List (List UInt8))).map eu).length 2,d0,d0,d0]),(1101,.acc 96 32 3 (l.map di)),(1102,.acc 98 64 3 (([]:List Fk).map Fk.enc)),(1103,.acc 100 32 2 (([]:List (Int×List (List UInt8))).map eu)),(2,.one 50 328 zS)]) (PS.bq a q2++[(3,.one 50 328 [dI 5,d0,d0,d0,dN,dN,dS (p.bc [dA]).name.1,dS [],dN,d0,d0,dN,d0,dN,.ac 1101 (l.map di).length 3,.d (gC O),.ac 1102 (([]:List Fk).map Fk.enc).length 3,.ac 1103 (([]:List (Int×List (List UInt8))).map eu).length 2,d0,d0,d0]),(1101,.acc 96 32 3 (l.map di)),(1102,.acc 98 64 3 (([]:List Fk).map Fk.enc)),(1103,.acc 100 32 2 (([]:List (Int×List (List UInt8))).map eu)),(2,.one 50 328 zS)]):=cU rfl ⟨rfl,rfl,rfl,rfl,rfl,trivial⟩
  have gq2:b8 p q2:=by have:=hp.zY;rw[Gj] at this;exact this
  refine db _ _ hV U (aL (bM ?_))
  refine d7 (fun k VE B=>∃(lf:List Fk)(qf:PS),pW k lf qf=p.pX∧lf.length≤qf.aO+1∧p.aF.length≤k+qf.aO∧b8 p qf∧bn [(0,.vp 1000 0),(2,.vp 2 0),(3,.vp 3 0)] VE∧bn (PS.bq a qf++[(3,.one 50 328 [dI 5,d0,d0,d0,dN,dN,dS (p.bc [dA]).name.1,dS [],dN,d0,d0,dN,d0,dN,.ac 1101 (l.map di).length 3,.d (gC O),.ac 1102 (lf.map Fk.enc).length 3,.ac 1103 (([]:List (Int×List (List UInt8))).map eu).length 2,d0,d0,d0]),(1101,.acc 96 32 3 (l.map di)),(1102,.acc 98 64 3 (lf.map Fk.enc)),(1103,.acc 100 32 2 (([]:List (Int×List (List UInt8))).map eu)),(2,.one 50 328 zS)]) B) ?_ (k:=p.aF.length) ⟨[],q2,by unfold PS.pX;rw[Gj],dp _,ku _ _,gq2,⟨rfl,rfl,rfl,trivial⟩,cU rfl ⟨rfl,rfl,rfl,rfl,rfl,trivial⟩⟩
  rintro k VE B⟨lf,qf,A,jM,hk,Y,hV,U⟩
  refine eZ (PS.bq a qf++[(3,.one 50 328 [dI 5,d0,d0,d0,dN,dN,dS (p.bc [dA]).name.1,dS [],dN,d0,d0,dN,d0,dN,.ac 1101 (l.map di).length 3,.d (gC O),.ac 1102 (lf.map Fk.enc).length 3,.ac 1103 (([]:List (Int×List (List UInt8))).map eu).length 2,d0,d0,d0]),(1101,.acc 96 32 3 (l.map di)),(1102,.acc 98 64 3 (lf.map Fk.enc)),(1103,.acc 100 32 2 (([]:List (Int×List (List UInt8))).map eu)),(2,.one 50 328 zS)]) U ?_
  have U:bn (PS.bq a qf++[(3,.one 50 328 [dI 5,d0,d0,d0,dN,dN,dS (p.bc [dA]).name.1,dS [],dN,d0,d0,dN,d0,dN,.ac 1101 (l.map di).length 3,.d (gC O),.ac 1102 (lf.map Fk.enc).length 3,.ac 1103 (([]:List (Int×List (List UInt8))).map eu).length 2,d0,d0,d0]),(1101,.acc 96 32 3 (l.map di)),(1102,.acc 98 64 3 (lf.map Fk.enc)),(1103,.acc 100 32 2 (([]:List (Int×List (List UInt8))).map eu)),(2,.one 50 328 zS)]) (PS.bq a qf++[(3,.one 50 328 [dI 5,d0,d0,d0,dN,dN,dS (p.bc [dA]).name.1,dS [],dN,d0,d0,dN,d0,dN,.ac 1101 (l.map di).length 3,.d (gC O),.ac 1102 (lf.map Fk.enc).length 3,.ac 1103 (([]:List (Int×List (List UInt8))).map eu).length 2,d0,d0,d0]),(1101,.acc 96 32 3 (l.map di)),(1102,.acc 98 64 3 (lf.map Fk.enc)),(1103,.acc 100 32 2 (([]:List (Int×List (List UInt8))).map eu)),(2,.one 50 328 zS)]):=cU rfl ⟨rfl,rfl,rfl,rfl,rfl,trivial⟩
  have gM:qf.aF.length=p.aF.length:=by rw[Y.aF]
  have fZ:=Y.ok.eG
  have Ao:=Y.ok.lt
  refine db _ _ hV U (aL (ai (ae 1 aa (bV (gn F Y.ok my) aa aa aa aa (aX (aK aa (fun uF=>?_) (fun uF=>?_)))))))
  ·have nF:=AY uF
   obtain⟨k,rfl⟩:∃k',k=k'+1:=⟨k-1,ah⟩
   rw[Is uF] at A
   have I:=Y.top.kw my
   generalize (qf.keyword my).2=r at nF A I⊢
   have g1:=I.top.names
   have g2:=g1.top.d6 [AK]
   have g3:=g2.top.name
   refine aQ (bM (ai (ae 1 aa (bV (BP F I.top) aa aa aa aa (ak 3 aa (ai (ae 1 aa (bV (jx F g1.ok AK) aa aa aa aa (aX ?_)))))))))
   refine ai (ae 1 aa (bV (lI F g2.ok) aa aa aa aa (ak 2 aa (ai (ae 1 aa (bV (BP F g3.top) aa aa aa aa (ak 2 aa (bC (ae 4 aa ?_)))))))))
   refine aj (eD (rows:=lf.map Fk.enc) (ys:=[r.fk.1.enc]) rfl rfl rfl (.bs (rows:=[r.fk.1.enc]) rfl) (b0 rfl) (by rw[bE,ca];simp only[cV,dL];omega) (fun h=>by rw[h];rfl) (fun h=>by rw[h];rfl) ?_)
   refine ak 2 aa (⟨k,gG k,lf++[r.fk.1],r.fk.2,A,?_,?_,Y.trans (I.trans I.top.fk),⟨aa,aa,aa,trivial⟩,?_⟩)
   ·have:=I.top.fk.aO;rw[bE,dY];omega
   ·have:=I.top.fk.aO;omega
   simp only[dx,e7,gj];exact cU rfl ⟨rfl,rfl,rfl,rfl,rfl,trivial⟩
  rw[Iu uF] at A
  rw[PS.da uF]
  refine dJ (aL (bM ?_))
  refine d7 (fun k VE B=>∃(K:List (Int×List (List UInt8)))(G:PS),oO k K G=p.vX∧K.length≤G.aO+1∧p.aF.length≤k+G.aO∧b8 p G∧bn [(0,.vp 1000 0),(2,.vp 2 0),(3,.vp 3 0)] VE∧bn (PS.bq a G++[(3,.one 50 328 [dI 5,d0,d0,d0,dN,dN,dS (p.bc [dA]).name.1,dS [],dN,d0,d0,dN,d0,dN,.ac 1101 (l.map di).length 3,.d (gC O),.ac 1102 (lf.map Fk.enc).length 3,.ac 1103 (K.map eu).length 2,d0,d0,d0]),(1101,.acc 96 32 3 (l.map di)),(1102,.acc 98 64 3 (lf.map Fk.enc)),(1103,.acc 100 32 2 (K.map eu)),(2,.one 50 328 zS)]) B) ?_ (k:=p.aF.length) ⟨[],qf,by unfold PS.vX;rw[←A],dp _,ku _ _,Y,⟨rfl,rfl,rfl,trivial⟩,cU rfl ⟨rfl,rfl,rfl,rfl,rfl,trivial⟩⟩
  clear jM hk
  rintro k VE B⟨K,G,z,jM,hk,J,hV,U⟩
  refine eZ (PS.bq a G++[(3,.one 50 328 [dI 5,d0,d0,d0,dN,dN,dS (p.bc [dA]).name.1,dS [],dN,d0,d0,dN,d0,dN,.ac 1101 (l.map di).length 3,.d (gC O),.ac 1102 (lf.map Fk.enc).length 3,.ac 1103 (K.map eu).length 2,d0,d0,d0]),(1101,.acc 96 32 3 (l.map di)),(1102,.acc 98 64 3 (lf.map Fk.enc)),(1103,.acc 100 32 2 (K.map eu)),(2,.one 50 328 zS)]) U ?_
  have U:bn (PS.bq a G++[(3,.one 50 328 [dI 5,d0,d0,d0,dN,dN,dS (p.bc [dA]).name.1,dS [],dN,d0,d0,dN,d0,dN,.ac 1101 (l.map di).length 3,.d (gC O),.ac 1102 (lf.map Fk.enc).length 3,.ac 1103 (K.map eu).length 2,d0,d0,d0]),(1101,.acc 96 32 3 (l.map di)),(1102,.acc 98 64 3 (lf.map Fk.enc)),(1103,.acc 100 32 2 (K.map eu)),(2,.one 50 328 zS)]) (PS.bq a G++[(3,.one 50 328 [dI 5,d0,d0,d0,dN,dN,dS (p.bc [dA]).name.1,dS [],dN,d0,d0,dN,d0,dN,.ac 1101 (l.map di).length 3,.d (gC O),.ac 1102 (lf.map Fk.enc).length 3,.ac 1103 (K.map eu).length 2,d0,d0,d0]),(1101,.acc 96 32 3 (l.map di)),(1102,.acc 98 64 3 (lf.map Fk.enc)),(1103,.acc 100 32 2 (K.map eu)),(2,.one 50 328 zS)]):=cU rfl ⟨rfl,rfl,rfl,rfl,rfl,trivial⟩
  have hqt4:G.aF.length=p.aF.length:=by rw[J.aF]
  have hfew4:=J.ok.eG
  have hlt4:=J.ok.lt
  refine db _ _ hV U (aL (an 5 aa (aK aa (fun xP=>?_) (fun xP=>?_))))
  ·have GQ:G.err=0:=by simpa using xP
   refine aQ (bM (an 1 aa (aL (ai (ae 1 aa (bV (gn F J.ok qw) aa aa aa aa (aX (aK aa (fun AM=>?_) (fun AM=>?_)))))))))
   ·have hj:G.ik=some (1,(G.keyword qw).2):=by unfold PS.ik;rw[az AM]
    have nF:=AY AM
    obtain⟨k,rfl⟩:∃k',k=k'+1:=⟨k-1,ah⟩
    rw[wA hj] at z
    have I:=J.top.kw qw
    generalize (G.keyword qw).2=r at nF z I hj⊢
    refine bC (ak 1 aa (im (bD 4 aa (Am (BP F I.top) aa aa aa aa aa (bD 2 aa ?_)))))
    refine dy rfl (eD (rows:=K.map eu) (ys:=[eu (1,r.names.1)]) rfl rfl rfl (.bs (rows:=[eu (1,r.names.1)]) rfl) (b0 rfl) (by rw[bE,ca];simp only[cV,dL];omega) (fun h=>by rw[h];rfl) (fun h=>by rw[h];rfl) ?_)
    refine du 2 aa (⟨k,gG k,K++[(1,r.names.1)],r.names.2,z,?_,?_,J.trans (I.trans I.top.names),⟨aa,aa,aa,trivial⟩,?_⟩)
    ·have:=I.top.names.aO;rw[bE,dY];omega
    ·have:=I.top.names.aO;omega
    simp only[dx,e7,gj];exact cU rfl ⟨rfl,rfl,rfl,rfl,rfl,trivial⟩
   rw[PS.da AM]
   refine ai (ae 1 aa (bV (gn F J.ok qb) aa aa aa aa (aX (aK aa (fun xQ=>?_) (fun xQ=>?_)))))
   ·have hj:G.ik=some (2,(G.keyword qb).2):=by unfold PS.ik;rw[al (by rw[AM];decide),az xQ]
    have nF:=AY xQ
    obtain⟨k,rfl⟩:∃k',k=k'+1:=⟨k-1,ah⟩
    rw[wA hj] at z
    have I:=J.top.kw qb
    generalize (G.keyword qb).2=r at nF z I hj⊢
    refine bC (ak 1 aa (im (bD 4 aa (Am (BP F I.top) aa aa aa aa aa (bD 2 aa ?_)))))
    refine dy rfl (eD (rows:=K.map eu) (ys:=[eu (2,r.names.1)]) rfl rfl rfl (.bs (rows:=[eu (2,r.names.1)]) rfl) (b0 rfl) (by rw[bE,ca];simp only[cV,dL];omega) (fun h=>by rw[h];rfl) (fun h=>by rw[h];rfl) ?_)
    refine du 2 aa (⟨k,gG k,K++[(2,r.names.1)],r.names.2,z,?_,?_,J.trans (I.trans I.top.names),⟨aa,aa,aa,trivial⟩,?_⟩)
    ·have:=I.top.names.aO;rw[bE,dY];omega
    ·have:=I.top.names.aO;omega
    simp only[dx,e7,gj];exact cU rfl ⟨rfl,rfl,rfl,rfl,rfl,trivial⟩
   have hj:G.ik=none:=by unfold PS.ik;rw[al (by rw[AM];decide),al (by rw[xQ];decide)]
   rw[AX hj] at z
   rw[PS.da xQ]
   refine dJ (ai (ae 1 aa (fN 72 1101 aa aa fJ (fN 72 1102 aa aa fJ (fN 72 1103 aa aa fJ (ak 1 aa (ay ?_)))))))
   have hm:p.create=({kind:=5,table:=(p.bc [dA]).name.1,jK:=l,key:=O,mO:=lf,cons:=K},G):=by unfold PS.create;rw[jC,Gj,←A,←z]
   rw[hm]
   exact⟨_,PS.bq a _,aa,⟨aa,trivial⟩,aa,aa⟩
  have GQ:¬G.err=0:=by simpa using xP
  have hj:G.ik=none:=by unfold PS.ik;simp only[show∀s,G.keyword s=(false,G) from fun s=>sY GQ 1 s];rfl
  rw[AX hj] at z
  refine dJ (ai (ae 1 aa (fN 72 1101 aa aa fJ (fN 72 1102 aa aa fJ (fN 72 1103 aa aa fJ (ak 1 aa (ay ?_)))))))
  have hm:p.create=({kind:=5,table:=(p.bc [dA]).name.1,jK:=l,key:=O,mO:=lf,cons:=K},G):=by unfold PS.create;rw[jC,Gj,←A,←z]
  rw[hm]
  exact⟨_,PS.bq a _,aa,⟨aa,trivial⟩,aa,aa⟩
 refine ai (ae 1 aa (bV (gn F RI.ok sH) aa aa aa aa (aX (aK aa (fun GR=>?_) (fun GR=>?_)))))
 ·refine bC (ae 1 aa (bV (BP F (RI.top.kw sH).top) aa aa aa aa (ak 2 aa ?_)))
  exact⟨_,_,by unfold PS.key;rw[az GR],⟨rfl,rfl,rfl,trivial⟩,cU rfl ⟨rfl,rfl,rfl,rfl,rfl,trivial⟩⟩
 rw[PS.da GR]
 refine aQ ?_
 exact⟨[],p.iT,by unfold PS.key;rw[al (by rw[GR];decide)],⟨rfl,rfl,rfl,trivial⟩,cU rfl ⟨rfl,rfl,rfl,rfl,rfl,trivial⟩⟩
def sz:IC→IC
 |.seq _ (.seq (.block _ x) _)=>x
 |_=>.skip
def Xz:IC→IC
 |.seq _ (.seq _ x)=>x
 |_=>.skip
def r6:IC→IC
 |.seq _ (.cond _ a _)=>a
 |_=>.skip
def gr:IC→IC
 |.seq _ (.cond _ _ b)=>b
 |_=>.skip
def kW(m:Stmt×PS):VV→bw→Prop:=fun r Bn=>∃st a',r=eU (Stmt.enc st)∧Bn=PS.bq a' m.2∧(m.2.err=0→st=m.1)
def RJ(b:Nat):List (Nat×Nat):=[(1000,1000),(1001,b)]
def sgW(b:Nat):List (Nat×Nat):=[(1000,1000),(1001,b),(1050,1050)]
def Ki(b:Nat):List (Nat×Nat):=[(1000,1000),(1001,b),(1050,1050),(1051,1051)]
theorem Mc{q:PS}{s:List UInt8}(h:(q.sign s).1=true):q.err=0:=by
 refine vi fun h0=>?_
 rw[Vk h0 s] at h;cases h
theorem Ws{T:bd}(F:FT T){D:Rd}(U:kM T D){a:Bool}{p:PS}(hp:bk p){R:Ex→cj→bw→Prop}(hR:∀VE B,kQ iM.res (kW (p.insert D)) .ret VE B→R .ret VE B):VC T (r6 (sz iM.body)) [(0,.vp 1000 0),(2,.vp 2 0)] (PS.bq a p++[(2,.one 50 328 zS)]) R:=by
 refine ai (ae 1 aa (bV (jx F hp.ok mi) aa aa aa aa (aX (ai (ae 1 aa (bV (lI F (hp.d6 [mi]).ok) aa aa aa aa (ak 3 aa (ai (ae 1 aa ?_)))))))))
 refine bV (jx F hp.lM.ok ma) aa aa aa aa (aX (ai (ae 1 aa (bV (pv F (hp.lM.top.d6 [ma]).ok cE) aa aa aa aa (nH 3 8 1101 92 32 3 aa aa aa (aX (eO (bD 3 aa (dy aa (qM (Mb F U hp.tQ.st) aa aa aa (fun r K=>?_)))))))))))
 obtain⟨v,rfl,hv⟩:=K
 refine bD 1 aa ?_
 refine dy rfl (eD (rows:=[]) (ys:=[v.enc]) rfl rfl rfl (.bs (rows:=[v.enc]) rfl) (b0 rfl) (by simp only[bE,ca,cV,dL];omega) (fun h=>by rw[h];rfl) (fun h=>by rw[h];rfl) ?_)
 refine du 2 aa (aL (bM ?_))
 refine d7 (fun k VE B=>∃(l vs:List iA)(q:PS),lg (fun p=>PS.literal p D) k l q=p.ug D∧vs.length=l.length∧(q.err=0→vs=l)∧l.length≤q.aO+1∧p.aF.length≤k+q.aO∧b8 p q∧bn [(0,.vp 1000 0),(2,.vp 2 0),(3,.vp 3 0)] VE∧bn (PS.bq a q++[(3,.one 50 328 [dI 2,d0,d0,d0,dN,dN,dS (p.bc [mi]).name.1,dS [],.ac 1101 (vs.map iA.enc).length 3,d0,d0,dN,d0,dN,dN,dN,dN,dN,d0,d0,d0]),(1101,.acc 92 32 3 (vs.map iA.enc)),(2,.one 50 328 zS)]) B) ?_ (k:=p.aF.length) ⟨[(((p.lM.bc [ma]).bJ cE).literal D).1],[v],(((p.lM.bc [ma]).bJ cE).literal D).2,by unfold PS.ug jG;rw[hp.tQ.aF],rfl,fun h0=>by rw[hv h0],nm (dp _),ku _ _,hp.tQ.trans (hp.tQ.top.literal D),⟨rfl,rfl,rfl,trivial⟩,cU rfl ⟨rfl,rfl,rfl,trivial⟩⟩
 clear hv
 rintro k VE B⟨l,vs,q,z,Y,O,jM,hk,G,hV,Z⟩
 refine eZ (PS.bq a q++[(3,.one 50 328 [dI 2,d0,d0,d0,dN,dN,dS (p.bc [mi]).name.1,dS [],.ac 1101 (vs.map iA.enc).length 3,d0,d0,dN,d0,dN,dN,dN,dN,dN,d0,d0,d0]),(1101,.acc 92 32 3 (vs.map iA.enc)),(2,.one 50 328 zS)]) Z ?_
 have Z:bn (PS.bq a q++[(3,.one 50 328 [dI 2,d0,d0,d0,dN,dN,dS (p.bc [mi]).name.1,dS [],.ac 1101 (vs.map iA.enc).length 3,d0,d0,dN,d0,dN,dN,dN,dN,dN,d0,d0,d0]),(1101,.acc 92 32 3 (vs.map iA.enc)),(2,.one 50 328 zS)]) (PS.bq a q++[(3,.one 50 328 [dI 2,d0,d0,d0,dN,dN,dS (p.bc [mi]).name.1,dS [],.ac 1101 (vs.map iA.enc).length 3,d0,d0,dN,d0,dN,dN,dN,dN,dN,d0,d0,d0]),(1101,.acc 92 32 3 (vs.map iA.enc)),(2,.one 50 328 zS)]):=cU rfl ⟨rfl,rfl,rfl,trivial⟩
 have gM:q.aF.length=p.aF.length:=by rw[G.aF]
 have fZ:=G.ok.eG
 have Ao:=G.ok.lt
 refine db _ _ hV Z (aL (ai (ae 1 aa (bV (m7 F G.ok cT) aa aa aa aa (aX (aK aa (fun A=>?_) (fun A=>?_)))))))
 ·have GQ:q.err=0:=Mc A
  have h2:=G.top.sign cT
  have I:=pB G.ok A
  obtain⟨k,rfl⟩:∃k',k=k'+1:=⟨k-1,by have:=I.2;omega⟩
  rw[pC A] at z
  generalize (q.sign cT).2=q1 at h2 I z⊢
  have J:=h2.top.literal D
  have ga:=J.aO
  have gl:=I.1
  refine aQ (bM (im (bD 3 aa (dy aa (qM (Mb F U h2.top.st) aa aa aa (fun r K=>?_))))))
  obtain⟨v2,rfl,hv2⟩:=K
  refine bD 1 aa ?_
  refine dy rfl (eD (rows:=vs.map iA.enc) (ys:=[v2.enc]) rfl rfl rfl (.bs (rows:=[v2.enc]) rfl) (b0 rfl) (by simp only[bE,ca,cV,dL];omega) (fun h=>by rw[h];rfl) (fun h=>by rw[h];rfl) ?_)
  refine du 2 aa (⟨k,gG k,l++[(q1.literal D).1],vs++[v2],(q1.literal D).2,z,?_,?_,?_,?_,G.trans (h2.trans J),⟨aa,aa,aa,trivial⟩,?_⟩)
  ·rw[bE,bE,Y];rfl
  ·intro h0;rw[hv2 h0,O GQ]
  ·rw[bE,dY];omega
  ·omega
  simp only[dx,e7,gj];exact cU rfl ⟨rfl,rfl,rfl,trivial⟩
 rw[pD A] at z
 rw[PS.iS A]
 have g1:=G.top.ij ee
 have J:=g1.top.d6 [lL]
 have g3:=J.top.period D
 refine dJ (ai (ae 1 aa (bV (pv F G.ok ee) aa aa aa aa (aX (ai (ae 1 aa (bV (jx F g1.ok lL) aa aa aa aa (aX (ai ?_)))))))))
 refine ae 1 aa (aj (qM (Nz F U J.st) aa aa aa (fun r K=>?_)))
 obtain⟨w,rfl,hw⟩:=K
 refine ak 2 aa (ai (ae 1 aa (fN 47 1101 aa aa fJ (ak 1 aa (ay ?_)))))
 have hm:p.insert D=({kind:=2,table:=(p.bc [mi]).name.1,row:=l,valid:=(((q.bJ ee).bc [lL]).period D).1},(((q.bJ ee).bc [lL]).period D).2):=by unfold PS.insert PS.qS;rw[←z]
 rw[hm] at hR
 exact hR _ _ ⟨_,PS.bq a _,rfl,⟨rfl,trivial⟩,{kind:=2,table:=(p.bc [mi]).name.1,row:=vs,valid:=w},a,rfl,rfl,fun h0=>by rw[hw h0,O (g1.er (J.er (g3.er h0)))]⟩
def CP(k:Int)(t:List UInt8)(v:Int×Int)(n:Nat)(w:Int)(ss:List (List DC)):Nat×BS:=(1001,.one 50 328 [dI k,d0,d0,d0,dN,dN,dS t,dS [],dN,dI v.1,dI v.2,.ac 1050 n 8,dI w,.ac 1051 ss.length 2,dN,dN,dN,dN,d0,d0,d0])
theorem Wt{T:bd}(F:FT T){D:Rd}(K:kM T D){a:Bool}{p:PS}(hp:bk p)(k:Int)(t:List UInt8)(v:Int×Int)(w:Int)(ss:List (List DC)){e:List aT}{N:Nat}(he:EG p e N)(hN:N≤100000):cg T 154 [.vp 1000 0,.vp 1001 0] (PS.bq a p++[CP k t v (e.map aT.enc).length w ss,(1050,.acc 142 88 8 (e.map aT.enc)),(1051,.acc 94 24 2 ss)]) fun r Bn=>∃e1 x,r= .tuple []∧Bn=PS.bq a (p.eF D).2++[CP k t v (e1.map aT.enc).length x ss,(1050,.acc 142 88 8 (e1.map aT.enc)),(1051,.acc 94 24 2 ss)]∧EG (p.eF D).2 e1 (N+610)∧((p.eF D).2.err=0→x=(p.eF D).1):=by
 refine cL F.QI aa (eZ (PS.bq a p++[(1001,.one 50 328 [dI k,d0,d0,d0,dN,dN,dS t,dS [],dN,dI v.1,dI v.2,.ac 1050 (e.map aT.enc).length 8,dI w,.ac 1051 ss.length 2,dN,dN,dN,dN,d0,d0,d0]),(1050,.acc 142 88 8 (e.map aT.enc)),(1051,.acc 94 24 2 ss)]) (cU aa ⟨aa,aa,aa,trivial⟩) (an 4 aa (ai (ae 1 aa (bV (gn F hp.ok kt) aa aa aa aa (aX (aK aa (fun z=>?_) (fun z=>?_))))))))
 ·have G:p.eF D=(p.keyword kt).2.expr D:=by unfold PS.eF;rw[az z]
  have A:=hp.kw kt
  have O:=A.top.expr D
  refine ai (ae 6 aa (jX 1001 11 aa aa (eX (PS.bq a (p.keyword kt).2++[(1001,.one 50 328 [dI k,d0,d0,d0,dN,dN,dS t,dS [],dN,dI v.1,dI v.2,.undef,dI (-1),.ac 1051 ss.length 2,dN,dN,dN,dN,d0,d0,d0]),(1050,.acc 142 88 8 (e.map aT.enc)),(1051,.acc 94 24 2 ss)]) (cU aa ⟨aa,aa,aa,trivial⟩) (jQ (vh F K A.top (he.go2 A (mQ ..)) hN) aa aa aa aa (fun e1 I=>?_)))))
  have U:=I.small O.ok ah
  refine ak 3 aa (bC (ae 6 aa ?_))
  refine aj (f3 rfl rfl (by simp only[ca,bN];omega) (by simp only[ca,bN];omega) ?_)
  obtain⟨x,J⟩:∃x:Int,(((e1.map aT.enc).length:Nat):Int) -Int.ofNat 1=x:=⟨_,rfl⟩
  rw[J]
  refine ak 3 aa ?_
  rw[G]
  exact⟨_,PS.bq a _++[CP k t v (e1.map aT.enc).length x ss,(1050,.acc 142 88 8 (e1.map aT.enc)),(1051,.acc 94 24 2 ss)],aa,cU aa ⟨aa,aa,aa,trivial⟩,e1,x,aa,aa,I.dW ah,fun h0=>J.symm.trans (rS A.top I h0)⟩
 have G:p.eF D=(-1,p):=by unfold PS.eF;rw[al (by rw[z];decide)]
 rw[PS.da z]
 refine aQ ?_
 rw[G]
 exact⟨_,PS.bq a _++[CP k t v (e.map aT.enc).length (-1) ss,(1050,.acc 142 88 8 (e.map aT.enc)),(1051,.acc 94 24 2 ss)],aa,cU aa ⟨aa,aa,aa,trivial⟩,e, -1,aa,aa,he.dW ah,fun _=>aa⟩
theorem Wu{T:bd}(F:FT T){D:Rd}(K:kM T D){a:Bool}{p:PS}(hp:bk p)(O:p.ex=[]){R:Ex→cj→bw→Prop}(U:∀VE B,kQ iM.res (kW (p.remove D)) .ret VE B→R .ret VE B):VC T (r6 (gr (sz iM.body))) [(0,.vp 1000 0),(2,.vp 2 0)] (PS.bq a p++[(2,.one 50 328 zS)]) R:=by
 have g0:b8 p (p.bc [iO]).name.2:=(hp.d6 [iO]).trans (hp.d6 [iO]).top.name
 have A:=hp.n7 D
 have Y:=A.top.eF D
 have z:(((p.bc [iO]).name.2.bc [lL,pw,kD]).period D).2=p.n7 D:=rfl
 have Z:EG (p.n7 D) [] 0:=EG.go2 ⟨fun _=>O.symm,dp _⟩ A (by rw[←z,show∀q:PS,(q.period D).2.ex=q.ex from fun q=>rf ..,qa,show∀q:PS,q.name.2.ex=q.ex from fun q=>rf ..,qa])
 refine ai ?_
 refine ae 1 aa ?_
 refine bV (jx F hp.ok iO) aa aa aa aa ?_
 refine aX ?_
 refine ai ?_
 refine ae 1 aa ?_
 refine bV (lI F (hp.d6 [iO]).ok) aa aa aa aa ?_
 refine ak 3 aa ?_
 refine ai ?_
 refine ae 1 aa ?_
 refine td (Bi:=PS.bq a (p.bc [iO]).name.2++[CN 3 (p.bc [iO]).name.1 (0,0)]) 1050 (RJ 4) 2000 aa aa aa aa aa aa aa ⟨aa,aa,aa,aa,trivial⟩ (MY F K g0.top 3 (p.bc [iO]).name.1) (fun r Bn G=>?_)
 obtain⟨v,rfl,rfl,hv⟩:=G
 refine eX (PS.bq a (p.n7 D)++[(4,.one 50 328 [dI 3,d0,d0,d0,dN,dN,dS (p.bc [iO]).name.1,dS [],dN,dI v.1,dI v.2,dN,d0,dN,dN,dN,dN,dN,d0,d0,d0]),(2,.one 50 328 zS)]) (cU (by rw[←z];rfl) ⟨rfl,rfl,trivial⟩) ?_
 refine nH 4 11 1050 142 88 8 aa aa aa ?_
 refine aX ?_
 refine ai ?_
 refine ae 1 aa ?_
 refine td (Bi:=PS.bq a (p.n7 D)++[Dp 3 (p.bc [iO]).name.1 v (([]:List aT).map aT.enc).length 0 .nil,(1050,.acc 142 88 8 (([]:List aT).map aT.enc))]) 1050 (sgW 4) 2000 aa aa aa aa aa aa aa ⟨aa,aa,aa,aa,aa,aa,trivial⟩ (Xy F K A.top 3 (p.bc [iO]).name.1 v 0 .nil Z ah) (fun r Bn G=>?_)
 obtain⟨e1,x,rfl,rfl,I,J⟩:=G
 refine eX (PS.bq a ((p.n7 D).eF D).2++[(4,.one 50 328 [dI 3,d0,d0,d0,dN,dN,dS (p.bc [iO]).name.1,dS [],dN,dI v.1,dI v.2,.ac 1050 (e1.map aT.enc).length 8,dI x,dN,dN,dN,dN,dN,d0,d0,d0]),(1050,.acc 142 88 8 (e1.map aT.enc)),(2,.one 50 328 zS)]) (cU aa ⟨aa,aa,aa,trivial⟩) ?_
 refine aX ?_
 refine ai ?_
 refine ae 1 aa ?_
 refine fN 60 1050 aa aa fJ ?_
 refine ak 1 aa ?_
 refine ay ?_
 exact U _ _ ⟨_,PS.bq a _,rfl,⟨rfl,trivial⟩,{kind:=3,table:=(p.bc [iO]).name.1,valid:=v,wh:=x,exprs:=e1},a,rfl,rfl,fun h0=>by rw[hv (by rw[z];exact Y.er h0),J h0,I.eq h0];rfl⟩
theorem Wv{T:bd}(F:FT T){a:Bool}{p:PS}(hp:bk p){R:Ex→cj→bw→Prop}(z:∀VE B,kQ iM.res (kW (p.create)) .ret VE B→R .ret VE B):VC T (r6 (gr (gr (gr (sz iM.body))))) [(0,.vp 1000 0),(2,.vp 2 0)] (PS.bq a p++[(2,.one 50 328 zS)]) R:=by
 exact ai (ae 1 aa (bV (jx F hp.ok dA) aa aa aa aa (aX (ai (ae 1 aa (bV (Wq F hp) aa aa aa aa (ak 1 aa (ay (z _ _ ⟨_,PS.bq a _,aa,⟨aa,trivial⟩,p.create.1,a,aa,aa,fun _=>aa⟩)))))))))
theorem XA{T:bd}(F:FT T){a:Bool}{p:PS}(hp:bk p){R:Ex→cj→bw→Prop}(G:∀VE B,kQ iM.res (kW (p.alter)) .ret VE B→R .ret VE B):VC T (r6 (gr (gr (gr (gr (sz iM.body)))))) [(0,.vp 1000 0),(2,.vp 2 0)] (PS.bq a p++[(2,.one 50 328 zS)]) R:=by
 refine ai (ae 1 aa (bV (jx F hp.ok dA) aa aa aa aa (aX (ai (ae 1 aa (bV (lI F (hp.d6 [dA]).ok) aa aa aa aa (ak 3 aa (aL (bM ?_)))))))))
 refine ai (ae 1 aa (bV (gn F hp.gP.ok o0) aa aa aa aa (ak 1 aa (aK aa (fun A=>?_) (fun A=>?_)))))
 ·have J:=hp.gP.top.kw o0
  have I:p.alter=({kind:=6,table:=(p.bc [dA]).name.1,jK:=[(p.gP.keyword o0).2.column.1]},(p.gP.keyword o0).2.column.2):=by unfold PS.alter;rw[az A]
  refine ai (nH 6 14 1101 96 32 3 aa aa aa (ak 2 aa (im (bD 3 aa (Am (G6 F J.top) aa aa aa aa aa (bD 1 aa ?_))))))
  refine dy rfl (eD (rows:=[]) (ys:=[di (p.gP.keyword o0).2.column.1]) rfl rfl rfl (.bs (rows:=[di (p.gP.keyword o0).2.column.1]) rfl) (b0 rfl) (by simp only[bE,ca,cV,dL];omega) (fun h=>by rw[h];rfl) (fun h=>by rw[h];rfl) ?_)
  refine du 2 aa (ai (ae 1 aa (fN 115 1101 aa aa fJ (ak 1 aa (ay ?_)))))
  rw[I] at G
  exact G _ _ ⟨_,PS.bq a _,aa,⟨aa,trivial⟩,{kind:=6,table:=(p.bc [dA]).name.1,jK:=[(p.gP.keyword o0).2.column.1]},a,aa,aa,fun _=>aa⟩
 rw[PS.da A]
 refine ai (ae 1 aa (bV (gn F hp.gP.ok qI) aa aa aa aa (ak 1 aa (aK aa (fun z=>?_) (fun z=>?_)))))
 ·have J:=hp.gP.top.kw qI
  have I:p.alter=({kind:=7,table:=(p.bc [dA]).name.1,name:=(p.gP.keyword qI).2.name.1},(p.gP.keyword qI).2.name.2):=by unfold PS.alter;rw[al (by rw[A];decide),az z]
  refine an 2 aa (bC (ae 1 aa (bV (lI F J.ok) aa aa aa aa (ak 2 aa (an 2 aa (ay ?_))))))
  rw[I] at G
  exact G _ _ ⟨_,PS.bq a _,aa,⟨aa,trivial⟩,{kind:=7,table:=(p.bc [dA]).name.1,name:=(p.gP.keyword qI).2.name.1},a,aa,aa,fun _=>aa⟩
 rw[PS.da z]
 have I:p.alter=(({}:Stmt),p.gP.fail 5):=by unfold PS.alter;rw[al (by rw[A];decide),al (by rw[z];decide)]
 refine bC (ae 1 aa (bV (mD F hp.gP.ok aq) aa aa aa aa (aX (an 2 aa (ay ?_)))))
 rw[I] at G
 exact G _ _ ⟨_,PS.bq a _,aa,⟨aa,trivial⟩,{table:=(p.bc [dA]).name.1},a,aa,aa,fun k=>absurd k (NH aq)⟩
theorem Yt{T:bd}(F:FT T){D:Rd}(J:kM T D){a:Bool}{p:PS}(hp:bk p)(O:a=false){R:Ex→cj→bw→Prop}(U:∀VE B,kQ iM.res (kW (p.rH D)) .ret VE B→R .ret VE B):VC T (r6 (gr (gr (gr (gr (gr (sz iM.body))))))) [(0,.vp 1000 0),(2,.vp 2 0)] (PS.bq a p++[(2,.one 50 328 zS)]) R:=by
 subst O
 have K:=hp.dj D false
 have A:=K.top.d6 [kj]
 have G:=A.top.d6 [kA]
 have z:=G.top.day D
 refine ai (ae 1 aa (aj (qM (Iv F J hp) aa aa aa (fun r I=>?_))))
 obtain⟨s,rfl,Y⟩:=I
 refine ak 3 aa (ai (ae 1 aa (bV (jx F K.ok kj) aa aa aa aa (aX (ai (ae 1 aa (bV (jx F A.ok kA) aa aa aa aa (aX (ai ?_)))))))))
 refine ae 1 aa (aj (qM (QO F J G.st) aa aa aa (fun r I=>?_)))
 obtain⟨v,rfl,Z⟩:=I
 refine ak 2 aa (ai (ae 1 aa (bV (HL F z.top) aa aa aa aa (ak 2 aa (an 2 aa (ay ?_))))))
 exact U _ _ ⟨_,PS.bq _ _,rfl,⟨rfl,trivial⟩,{kind:=8,dj:=s,day:=v,aO:=((p.sv D).day D).2.iL.1},_,rfl,rfl,fun h0=>by rw[Y (A.er (G.er (z.er (z.top.iL.er h0)))),Z (z.top.iL.er h0)];rfl⟩
theorem Ww{T:bd}(F:FT T){a:Bool}{p:PS}(hp:bk p){R:Ex→cj→bw→Prop}(z:∀VE B,kQ iM.res (kW (({kind:=9},p))) .ret VE B→R .ret VE B):VC T (r6 (gr (gr (gr (gr (gr (gr (sz iM.body)))))))) [(0,.vp 1000 0),(2,.vp 2 0)] (PS.bq a p++[(2,.one 50 328 zS)]) R:=by
 exact an 2 aa (ay (z _ _ ⟨_,PS.bq a _,aa,⟨aa,trivial⟩,{kind:=9},a,aa,aa,fun _=>aa⟩))
theorem Yu{T:bd}(F:FT T){a:Bool}{p:PS}(hp:bk p){R:Ex→cj→bw→Prop}(A:∀VE B,kQ iM.res (kW (p.hold)) .ret VE B→R .ret VE B):VC T (r6 (gr (gr (gr (gr (gr (gr (gr (sz iM.body))))))))) [(0,.vp 1000 0),(2,.vp 2 0)] (PS.bq a p++[(2,.one 50 328 zS)]) R:=by
 refine ai (ae 1 aa (bV (yv F hp.st (-1)) aa aa aa aa (ak 3 aa (ai (ae 1 aa (bV (jx F (hp.number (-1)).ok iO) aa aa aa aa (aX (ai (ae 1 aa ?_)))))))))
 refine bV (yv F hp.mC.st (-1)) aa aa aa aa (ak 3 aa (ai (ae 1 aa (bV (jx F (hp.mC.top.number (-1)).ok Ka) aa aa aa aa (aX (aL (ai (ae 1 aa (bV (gn F hp.m6.ok yL) aa aa aa aa ?_)))))))))
 refine aX (aK aa (fun z=>?_) (fun z=>?_))
 ·have G:p.qJ=(1099511627776,(p.m6.keyword yL).2):=by unfold PS.qJ;rw[az z]
  refine bC (ak 3 aa (an 2 aa (ay ?_)))
  unfold PS.hold at A
  rw[G] at A
  exact A _ _ ⟨_,PS.bq a _,aa,⟨aa,trivial⟩,{kind:=10,n:=(p.number (-1)).1,xB:=((p.mC.number (-1)).1,_)},a,aa,aa,fun _=>aa⟩
 have G:p.qJ=p.m6.number (p.mC.number (-1)).1:=by unfold PS.qJ;rw[al (by rw[z];decide)]
 rw[PS.da z]
 refine bC (ae 4 aa (bV (yv F hp.m6.st (p.mC.number (-1)).1) aa aa aa aa (ak 3 aa (an 2 aa (ay ?_)))))
 unfold PS.hold at A
 rw[G] at A
 exact A _ _ ⟨_,PS.bq a _,aa,⟨aa,trivial⟩,{kind:=10,n:=(p.number (-1)).1,xB:=((p.mC.number (-1)).1,_)},a,aa,aa,fun _=>aa⟩
theorem Vl{T:bd}(F:FT T){a:Bool}{p:PS}(hp:bk p){R:Ex→cj→bw→Prop}(z:∀VE B,kQ iM.res (kW (({kind:=11,n:=(p.number (-1)).1},(p.number (-1)).2))) .ret VE B→R .ret VE B):VC T (r6 (gr (gr (gr (gr (gr (gr (gr (gr (sz iM.body)))))))))) [(0,.vp 1000 0),(2,.vp 2 0)] (PS.bq a p++[(2,.one 50 328 zS)]) R:=by
 exact ai (ae 1 aa (bV (yv F hp.st (-1)) aa aa aa aa (ak 2 aa (ay (z _ _ ⟨_,PS.bq a _,aa,⟨aa,trivial⟩,{kind:=11,n:=(p.number (-1)).1},a,aa,aa,fun _=>aa⟩)))))
theorem Wx{T:bd}(F:FT T){a:Bool}{p:PS}(hp:bk p){R:Ex→cj→bw→Prop}(z:∀VE B,kQ iM.res (kW (({kind:=12,n:=((p.bc [pJ]).number (-1)).1},((p.bc [pJ]).number (-1)).2))) .ret VE B→R .ret VE B):VC T (r6 (gr (gr (gr (gr (gr (gr (gr (gr (gr (sz iM.body))))))))))) [(0,.vp 1000 0),(2,.vp 2 0)] (PS.bq a p++[(2,.one 50 328 zS)]) R:=by
 exact ai (ae 1 aa (bV (jx F hp.ok pJ) aa aa aa aa (aX (ai (ae 1 aa (bV (yv F (hp.d6 [pJ]).st (-1)) aa aa aa aa (ak 2 aa (ay (z _ _ ⟨_,PS.bq a _,aa,⟨aa,trivial⟩,{kind:=12,n:=((p.bc [pJ]).number (-1)).1},a,aa,aa,fun _=>aa⟩)))))))))
theorem Wy{T:bd}(F:FT T){D:Rd}(Lq:kM T D){a:Bool}{p:PS}(hp:bk p)(hx:p.ex=[]){R:Ex→cj→bw→Prop}(hR:∀VE B,kQ iM.res (kW (p.update D)) .ret VE B→R .ret VE B):VC T (r6 (gr (gr (sz iM.body)))) [(0,.vp 1000 0),(2,.vp 2 0)] (PS.bq a p++[(2,.one 50 328 zS)]) R:=by
 have g1:=hp.hD.trans (hp.hD.top.period D)
 have Y:b8 p ((p.hD.period D).2.bc [lv]):=hp.zX D
 have hE0:EG ((p.hD.period D).2.bc [lv]) [] 0:=EG.go2 ⟨fun _=>hx.symm,dp _⟩ Y (by rw[qa,show∀q:PS,(q.period D).2.ex=q.ex from fun q=>rf ..,show p.hD=p.name.2.bc [lL,pw,kD] from rfl,qa,show∀q:PS,q.name.2.ex=q.ex from fun q=>rf ..])
 refine ai (ae 1 aa (bV (lI F hp.ok) aa aa aa aa (ak 3 aa (ai (ae 1 aa (td (Bi:=PS.bq a p.name.2++[CN 4 p.name.1 (0,0)]) 1050 (RJ 5) 2000 aa aa aa aa aa aa aa ⟨aa,aa,aa,aa,trivial⟩ (MY F Lq hp.name.top 4 p.name.1) (fun r Bn K=>?_)))))))
 obtain⟨v,rfl,rfl,hv⟩:=K
 refine eX (PS.bq a (p.hD.period D).2++[(5,.one 50 328 [dI 4,d0,d0,d0,dN,dN,dS p.name.1,dS [],dN,dI v.1,dI v.2,dN,d0,dN,dN,dN,dN,dN,d0,d0,d0]),(2,.one 50 328 zS)]) (cU aa ⟨aa,aa,trivial⟩) (aX (ai (ae 1 aa (bV (jx F g1.ok lv) aa aa aa aa (nH 5 11 1050 142 88 8 aa aa aa (nH 5 13 1051 94 24 2 aa aa aa (aX (ai (ae 1 aa ?_)))))))))
 refine td (Bi:=PS.bq a ((p.hD.period D).2.bc [lv])++[CO 4 p.name.1 v (([]:List aT).map aT.enc).length (([]:List (List UInt8×Int)).map fm).length,(1050,.acc 142 88 8 (([]:List aT).map aT.enc)),(1051,.acc 94 24 2 (([]:List (List UInt8×Int)).map fm))]) 1050 (Ki 5) 2000 aa aa aa aa aa aa aa ⟨aa,aa,aa,aa,aa,aa,aa,aa,trivial⟩ (QP F Lq Y.top 4 p.name.1 v (ss:=[]) (dp _) hE0 ah) (fun r Bn K=>?_)
 obtain⟨e1,x1,rfl,rfl,I,J⟩:=K
 refine eX (PS.bq a (((p.hD.period D).2.bc [lv]).set D).2++[(5,.one 50 328 [dI 4,d0,d0,d0,dN,dN,dS p.name.1,dS [],dN,dI v.1,dI v.2,.ac 1050 (e1.map aT.enc).length 8,d0,.ac 1051 ([x1].map fm).length 2,dN,dN,dN,dN,d0,d0,d0]),(1050,.acc 142 88 8 (e1.map aT.enc)),(1051,.acc 94 24 2 ([x1].map fm)),(2,.one 50 328 zS)]) (cU aa ⟨aa,aa,aa,aa,trivial⟩) (aX (aL (bM ?_)))
 refine d7 (fun k VE B=>∃(l ss:List (List UInt8×Int))(e:List aT)(q:PS),lg (fun p=>PS.set p D) k l q=p.pV D∧ss.length=l.length∧(q.err=0→ss=l)∧(q.err=0→v=(p.hD.period D).1)∧l.length≤q.aO+1∧p.aF.length≤k+q.aO∧b8 p q∧EG q e 700∧bn [(0,.vp 1000 0),(2,.vp 2 0),(5,.vp 5 0)] VE∧bn (PS.bq a q++[(5,.one 50 328 [dI 4,d0,d0,d0,dN,dN,dS p.name.1,dS [],dN,dI v.1,dI v.2,.ac 1050 (e.map aT.enc).length 8,d0,.ac 1051 (ss.map fm).length 2,dN,dN,dN,dN,d0,d0,d0]),(1050,.acc 142 88 8 (e.map aT.enc)),(1051,.acc 94 24 2 (ss.map fm)),(2,.one 50 328 zS)]) B) ?_ (k:=p.aF.length) ⟨[(((p.hD.period D).2.bc [lv]).set D).1],[x1],e1,(((p.hD.period D).2.bc [lv]).set D).2,by unfold PS.pV jG;rw[Y.aF],rfl,fun h0=>by rw[J h0],fun h0=>hv ((g1.top.d6 [lv]).er ((Y.top.set D).er h0)),nm (dp _),ku _ _,Y.trans (Y.top.set D),I.dW ah,⟨rfl,rfl,rfl,trivial⟩,cU rfl ⟨rfl,rfl,rfl,rfl,trivial⟩⟩
 clear J I
 rintro k VE B⟨l,ss,e,q,z,JT,Z,RK,jM,hk,G,hE,hV,hB⟩
 refine eZ (PS.bq a q++[(5,.one 50 328 [dI 4,d0,d0,d0,dN,dN,dS p.name.1,dS [],dN,dI v.1,dI v.2,.ac 1050 (e.map aT.enc).length 8,d0,.ac 1051 (ss.map fm).length 2,dN,dN,dN,dN,d0,d0,d0]),(1050,.acc 142 88 8 (e.map aT.enc)),(1051,.acc 94 24 2 (ss.map fm)),(2,.one 50 328 zS)]) hB ?_
 have hB:bn (PS.bq a q++[(5,.one 50 328 [dI 4,d0,d0,d0,dN,dN,dS p.name.1,dS [],dN,dI v.1,dI v.2,.ac 1050 (e.map aT.enc).length 8,d0,.ac 1051 (ss.map fm).length 2,dN,dN,dN,dN,d0,d0,d0]),(1050,.acc 142 88 8 (e.map aT.enc)),(1051,.acc 94 24 2 (ss.map fm)),(2,.one 50 328 zS)]) (PS.bq a q++[(5,.one 50 328 [dI 4,d0,d0,d0,dN,dN,dS p.name.1,dS [],dN,dI v.1,dI v.2,.ac 1050 (e.map aT.enc).length 8,d0,.ac 1051 (ss.map fm).length 2,dN,dN,dN,dN,d0,d0,d0]),(1050,.acc 142 88 8 (e.map aT.enc)),(1051,.acc 94 24 2 (ss.map fm)),(2,.one 50 328 zS)]):=cU rfl ⟨rfl,rfl,rfl,rfl,trivial⟩
 have gM:q.aF.length=p.aF.length:=by rw[G.aF]
 have fZ:=G.ok.eG
 have Ao:=G.ok.lt
 refine db _ _ hV hB (aL (ai (ae 1 aa (bV (m7 F G.ok cT) aa aa aa aa (aX (aK aa (fun A=>?_) (fun A=>?_)))))))
 ·have O:q.err=0:=Mc A
  have h2:=G.top.sign cT
  have U:=pB G.ok A
  obtain⟨k,rfl⟩:∃k',k=k'+1:=⟨k-1,by have:=U.2;omega⟩
  rw[pC A] at z
  have hz:EG (q.sign cT).2 e 0:=(hE.zero G.ok O).go2 h2 (pE ..)
  generalize (q.sign cT).2=q1 at h2 U z hz⊢
  have g2:=h2.top.set D
  have ga:=g2.aO
  have gl:=U.1
  refine aQ (bM (bC (ae 1 aa (td (Bi:=PS.bq a q1++[CO 4 p.name.1 v (e.map aT.enc).length (ss.map fm).length,(1050,.acc 142 88 8 (e.map aT.enc)),(1051,.acc 94 24 2 (ss.map fm))]) 1050 (Ki 5) 2000 aa aa aa aa aa aa aa ⟨aa,aa,aa,aa,aa,aa,aa,aa,trivial⟩ (QP F Lq h2.top 4 p.name.1 v (ss:=ss) ah hz ah) (fun r Bn K=>?_)))))
  obtain⟨e2,x2,rfl,rfl,hE2,xI⟩:=K
  refine eX (PS.bq a (q1.set D).2++[(5,.one 50 328 [dI 4,d0,d0,d0,dN,dN,dS p.name.1,dS [],dN,dI v.1,dI v.2,.ac 1050 (e2.map aT.enc).length 8,d0,.ac 1051 ((ss++[x2]).map fm).length 2,dN,dN,dN,dN,d0,d0,d0]),(1050,.acc 142 88 8 (e2.map aT.enc)),(1051,.acc 94 24 2 ((ss++[x2]).map fm)),(2,.one 50 328 zS)]) (cU aa ⟨aa,aa,aa,aa,trivial⟩) (aX (⟨k,gG k,l++[(q1.set D).1],ss++[x2],e2,(q1.set D).2,z,?_,?_,fun _=>RK O,?_,?_,G.trans (h2.trans g2),hE2.dW ah,⟨aa,aa,aa,trivial⟩,?_⟩))
  ·rw[bE,bE,JT];rfl
  ·intro h0;rw[xI h0,Z O]
  ·rw[bE,dY];omega
  ·omega
  exact cU aa ⟨aa,aa,aa,aa,trivial⟩
 rw[pD A] at z
 rw[PS.iS A]
 have gw:=G.top.eF D
 refine dJ (ai (ae 1 aa (td (Bi:=PS.bq a q++[CP 4 p.name.1 v (e.map aT.enc).length 0 (ss.map fm),(1050,.acc 142 88 8 (e.map aT.enc)),(1051,.acc 94 24 2 (ss.map fm))]) 1050 (Ki 5) 2000 aa aa aa aa aa aa aa ⟨aa,aa,aa,aa,aa,aa,aa,aa,trivial⟩ (Wt F Lq G.top 4 p.name.1 v 0 (ss.map fm) hE ah) (fun r Bn K=>?_))))
 obtain⟨e1,x,rfl,rfl,I,J⟩:=K
 refine eX (PS.bq a (q.eF D).2++[(5,.one 50 328 [dI 4,d0,d0,d0,dN,dN,dS p.name.1,dS [],dN,dI v.1,dI v.2,.ac 1050 (e1.map aT.enc).length 8,dI x,.ac 1051 (ss.map fm).length 2,dN,dN,dN,dN,d0,d0,d0]),(1050,.acc 142 88 8 (e1.map aT.enc)),(1051,.acc 94 24 2 (ss.map fm)),(2,.one 50 328 zS)]) (cU aa ⟨aa,aa,aa,aa,trivial⟩) (aX (ai (ae 1 aa (fN 79 1050 aa aa fJ (fN 79 1051 aa aa fJ (ak 1 aa (ay ?_)))))))
 have hm:p.update D=({kind:=4,table:=p.name.1,valid:=(p.hD.period D).1,nC:=l,wh:=(q.eF D).1,exprs:=(q.eF D).2.ex},(q.eF D).2):=by unfold PS.update;rw[←z]
 rw[hm] at hR
 exact hR _ _ ⟨_,PS.bq a _,rfl,⟨rfl,trivial⟩,{kind:=4,table:=p.name.1,valid:=v,nC:=ss,wh:=x,exprs:=e1},a,rfl,rfl,fun h0=>by rw[J h0,I.eq h0,Z (gw.er h0),RK (gw.er h0)]⟩
def XC:List (List UInt8):=[po,pn,pr,pj]
def z1(i:Nat):List UInt8:=(XC[i]?).getD []
def PS.m8(p:PS):Nat→Int×PS
 |0=>(Int.ofNat 1,p)
 |i+1=>if(p.m8 i).1=1 then(if((p.m8 i).2.keyword (z1 i)).1=true then(Int.ofNat 2+(i:Nat),((p.m8 i).2.keyword (z1 i)).2) else p.m8 i) else p.m8 i
variable{p q:PS}
theorem Bw{i:Nat}{g:Int}(h:p.m8 i=(g,q))(z:g=1)(hk:(q.keyword (z1 i)).1=true):p.m8 (i+1)=(Int.ofNat 2+(i:Nat),(q.keyword (z1 i)).2):=by
 unfold PS.m8;rw[h,az z,az hk]
theorem Bx{i:Nat}{g:Int}(h:p.m8 i=(g,q))(z:g=1)(hk:(q.keyword (z1 i)).1=false):p.m8 (i+1)=(g,q):=by
 unfold PS.m8;rw[h,az z,al (by rw[hk];decide)]
theorem wW{i:Nat}{g:Int}(h:p.m8 i=(g,q))(z:¬g=1):p.m8 (i+1)=(g,q):=by
 unfold PS.m8;rw[h,al z]
theorem XD(p:PS):p.m8 4=p.mode:=by
 have h0:p.m8 0=(1,p):=rfl
 unfold PS.mode
 cases I:(p.keyword po).1
 ·have G:=Bx h0 rfl I
  cases h2:(p.keyword pn).1
  ·have A:=Bx G rfl h2
   cases J:(p.keyword pr).1
   ·have z:=Bx A rfl J
    cases K:(p.keyword pj).1
    ·rw[Bx z rfl K];simp
    rw[Bw z rfl K];simp;rfl
   have z:=Bw A rfl J
   rw[wW z aq];simp;rfl
  have A:=Bw G rfl h2
  have z:=wW A aq
  rw[wW z aq];simp;rfl
 have G:=Bw h0 rfl I
 have A:=wW G aq
 have z:=wW A aq
 rw[wW z aq];simp;rfl
theorem Wz{T:bd}(F:FT T){D:Rd}(Lq:kM T D){a:Bool}{p:PS}(hp:bk p){R:Ex→cj→bw→Prop}(K:∀VE B,kQ iM.res (kW (p.query D)) .ret VE B→R .ret VE B):VC T (Xz iM.body) [(0,.vp 1000 0),(2,.vp 2 0)] (PS.bq a p++[(2,.one 50 328 zS)]) R:=by
 refine an 3 aa (an 3 aa (aL (an 1 aa (bM (d7 (fun k VE B=>∃(i:Nat)(g:Int)(q:PS),i≤4∧k=4-i∧p.m8 i=(g,q)∧b8 p q∧bn [(0,.vp 1000 0),(2,.vp 2 0),(9,.vp 9 0),(10,.vp 10 0),(11,dI (i:Nat))] VE∧bn (PS.bq a q++[(9,.one 50 328 [dI 1,dI g,dI (-1),d0,dN,dN,dS [],dS [],dN,d0,d0,dN,d0,dN,dN,dN,dN,dN,d0,d0,d0]),(10,.one 200 64 [VV.d (cl po),dS pn,dS pr,dS pj]),(2,.one 50 328 zS)]) B) ?_ (k:=4) ⟨0,Int.ofNat 1,p,aq,aa,aa,.refl hp,⟨aa,aa,aa,aa,aa,trivial⟩,cU aa ⟨aa,aa,aa,trivial⟩⟩)))))
 rintro k VE B⟨i,g,q,hi,rfl,U,O,hV,hB⟩
 refine eZ (PS.bq a q++[(9,.one 50 328 [dI 1,dI g,dI (-1),d0,dN,dN,dS [],dS [],dN,d0,d0,dN,d0,dN,dN,dN,dN,dN,d0,d0,d0]),(10,.one 200 64 [VV.d (cl po),dS pn,dS pr,dS pj]),(2,.one 50 328 zS)]) hB ?_
 have hB:bn (PS.bq a q++[(9,.one 50 328 [dI 1,dI g,dI (-1),d0,dN,dN,dS [],dS [],dN,d0,d0,dN,d0,dN,dN,dN,dN,dN,d0,d0,d0]),(10,.one 200 64 [VV.d (cl po),dS pn,dS pr,dS pj]),(2,.one 50 328 zS)]) (PS.bq a q++[(9,.one 50 328 [dI 1,dI g,dI (-1),d0,dN,dN,dS [],dS [],dN,d0,d0,dN,d0,dN,dN,dN,dN,dN,d0,d0,d0]),(10,.one 200 64 [VV.d (cl po),dS pn,dS pr,dS pj]),(2,.one 50 328 zS)]):=cU rfl ⟨rfl,rfl,rfl,trivial⟩
 refine db _ _ hV hB (aL (an 2 aa (aK aa (fun I=>?_) (fun I=>?_))))
 ·have hi4:i<4:=by simp at I;omega
  obtain⟨s,Y,hk⟩:∃s,z1 i=s∧[VV.d (cl po),.d (cl pn),.d (cl pr),.d (cl pj)][0+i*1]?=some (.d (cl s)):=by
   rcases(by omega:i=0∨i=1∨i=2∨i=3) with rfl|rfl|rfl|rfl<;>exact⟨_,rfl,rfl⟩
  refine aQ (aL (bM (ai (ae 4 aa (dc (g:=qG) aa (fun z=>?_) (fun z=>?_))))))
  ·have hg:g=1:=by simpa using z
   refine aw aa (z) (bY aa ?_)
   refine aw aa (z) (bY aa ?_)
   refine aw aa (z) (eg aa aa hi4 ?_)
   refine aw aa (z) (df aa aa hk ?_)
   refine aw aa (z) (xk (gn F O.ok s) aa aa aa aa ?_)
   refine aj (c8 aa (z) aa ?_)
   refine aX (aK aa (fun A=>?_) (fun A=>?_))
   ·have Z:=Bw U hg (by rw[Y];exact A)
    rw[Y] at Z
    have J:=O.trans (O.top.kw s)
    refine bC (ae 1 aa (aj (uX aa aa ?_)))
    rw[wrap_i64 (by simp only[bN];omega) (by simp only[bN];omega)]
    refine ak 2 aa (bC (ae 1 aa (aj (cM aa aa ah ?_))))
    exact ak 1 aa (⟨4-(i+1),ah,i+1,_,_,ah,aa,Z,J,⟨aa,aa,aa,aa,aa,trivial⟩,cU aa ⟨aa,aa,aa,trivial⟩⟩)
   have Z:=Bx U hg (by rw[Y];exact A)
   have J:=O
   rw[PS.da A]
   refine aQ (bC (ae 1 aa (aj (cM aa aa ah ?_))))
   exact ak 1 aa (⟨4-(i+1),ah,i+1,_,_,ah,aa,Z,J,⟨aa,aa,aa,aa,aa,trivial⟩,cU aa ⟨aa,aa,aa,trivial⟩⟩)
  have hg:¬g=1:=by simpa using z
  have Z:=wW U hg
  have J:=O
  refine aY aa (z) (aY aa (z) (aY aa (z) (aY aa (z) (aY aa (z) (aj (cS aa (z) aa ?_))))))
  refine aX (ef aa aa (aQ (bC (ae 1 aa (aj (cM aa aa ah ?_))))))
  exact ak 1 aa (⟨4-(i+1),ah,i+1,_,_,ah,aa,Z,J,⟨aa,aa,aa,aa,aa,trivial⟩,cU aa ⟨aa,aa,aa,trivial⟩⟩)
 have h4:i=4:=by simp at I;omega
 subst h4
 rw[XD] at U
 have g1:=O.top.dj D true
 refine dJ (an 4 aa (ai (ae 1 aa (aj (qM (Iv (a:=true) F Lq O.top) aa aa aa (fun r hr=>?_))))))
 obtain⟨s,rfl,Y⟩:=hr
 refine ak 2 aa (aL (ai (ae 1 aa (bV (gn F g1.ok kj) aa aa aa aa (aX (aK aa (fun G=>?_) (fun G=>?_)))))))
 ·have hd:(q.dj D true).2.g7 D=(((q.dj D true).2.keyword kj).2.bc [kA]).day D:=az G
  have g2:=g1.top.kw kj
  have g3:=g2.top.d6 [kA]
  have g4:=g3.top.day D
  have g5:=g4.top.iL
  refine ai (ae 1 aa (bV (jx F g2.ok kA) aa aa aa aa (aX (bC (ae 1 aa (aj (qM (QO F Lq g3.st) aa aa aa (fun r hr=>?_))))))))
  obtain⟨v,rfl,hv⟩:=hr
  refine ak 2 aa (ai (ae 1 aa (bV (HL F g4.top) aa aa aa aa (ak 2 aa (an 2 aa (ay ?_))))))
  unfold PS.query at K
  rw[U] at K
  rw[show(((g,q):Int×PS)).2=q from rfl,hd] at K
  exact K _ _ ⟨_,PS.bq _ _,rfl,⟨rfl,trivial⟩,{kind:=1,mode:=g,day:=v,aO:=_,dj:=s},_,rfl,rfl,fun h0=>by rw[Y (g2.er (g3.er (g4.er (g5.er h0)))),hv (g5.er h0)]⟩
 have hd:(q.dj D true).2.g7 D=(-1,(q.dj D true).2):=al (by rw[G];decide)
 rw[PS.da G]
 have g5:=g1.top.iL
 refine aQ (ai (ae 1 aa (bV (HL F g1.top) aa aa aa aa (ak 2 aa (an 2 aa (ay ?_))))))
 unfold PS.query at K
 rw[U] at K
 rw[show(((g,q):Int×PS)).2=q from rfl,hd] at K
 exact K _ _ ⟨_,PS.bq _ _,rfl,⟨rfl,trivial⟩,{kind:=1,mode:=g,day:= -1,aO:=_,dj:=s},_,rfl,rfl,fun h0=>by rw[Y (g5.er h0)]⟩
theorem TB{T:bd}(F:FT T){D:Rd}(Lq:kM T D){p:PS}(hp:bk p)(hx:p.ex=[]):cg T 99 [.vp 1000 0] (PS.bq false p) (kW (p.dm D)):=by
 refine cL F.f99 aa ?_
 refine an 1 aa ?_
 refine aL ?_
 refine bM ?_
 refine ai ?_
 refine ae 1 aa ?_
 refine bV (gn F hp.ok tm) aa aa aa aa ?_
 refine ak 1 aa ?_
 refine aK aa (fun z=>?_) (fun z=>?_)
 ·have K:p.dm D=(p.keyword tm).2.insert D:=by unfold PS.dm;rw[az z]
  refine db [(0,.vp 1000 0),(2,.vp 2 0)] (PS.bq false (p.keyword tm).2++[(2,.one 50 328 zS)]) ⟨aa,aa,trivial⟩ (cU aa ⟨aa,trivial⟩) ?_
  refine Ws F Lq (hp.kw tm).top ?_
  intro VE B k
  show kQ iM.res (kW (p.dm D)) .ret VE B
  rw[K]
  exact k
 rw[PS.da z]
 refine ai ?_
 refine ae 1 aa ?_
 refine bV (gn F hp.ok tn) aa aa aa aa ?_
 refine ak 1 aa ?_
 refine aK aa (fun G=>?_) (fun G=>?_)
 ·have K:p.dm D=(p.keyword tn).2.remove D:=by unfold PS.dm;rw[al (by rw[z];decide),az G]
  refine db [(0,.vp 1000 0),(2,.vp 2 0)] (PS.bq false (p.keyword tn).2++[(2,.one 50 328 zS)]) ⟨aa,aa,trivial⟩ (cU aa ⟨aa,trivial⟩) ?_
  refine Wu F Lq (hp.kw tn).top ((mQ ..).trans hx) ?_
  intro VE B k
  show kQ iM.res (kW (p.dm D)) .ret VE B
  rw[K]
  exact k
 rw[PS.da G]
 refine ai ?_
 refine ae 1 aa ?_
 refine bV (gn F hp.ok tp) aa aa aa aa ?_
 refine ak 1 aa ?_
 refine aK aa (fun I=>?_) (fun I=>?_)
 ·have K:p.dm D=(p.keyword tp).2.update D:=by unfold PS.dm;rw[al (by rw[z];decide),al (by rw[G];decide),az I]
  refine db [(0,.vp 1000 0),(2,.vp 2 0)] (PS.bq false (p.keyword tp).2++[(2,.one 50 328 zS)]) ⟨aa,aa,trivial⟩ (cU aa ⟨aa,trivial⟩) ?_
  refine Wy F Lq (hp.kw tp).top ((mQ ..).trans hx) ?_
  intro VE B k
  show kQ iM.res (kW (p.dm D)) .ret VE B
  rw[K]
  exact k
 rw[PS.da I]
 refine ai ?_
 refine ae 1 aa ?_
 refine bV (gn F hp.ok tq) aa aa aa aa ?_
 refine ak 1 aa ?_
 refine aK aa (fun O=>?_) (fun O=>?_)
 ·have K:p.dm D=(p.keyword tq).2.create:=by unfold PS.dm;rw[al (by rw[z];decide),al (by rw[G];decide),al (by rw[I];decide),az O]
  refine db [(0,.vp 1000 0),(2,.vp 2 0)] (PS.bq false (p.keyword tq).2++[(2,.one 50 328 zS)]) ⟨aa,aa,trivial⟩ (cU aa ⟨aa,trivial⟩) ?_
  refine Wv F (hp.kw tq).top ?_
  intro VE B k
  show kQ iM.res (kW (p.dm D)) .ret VE B
  rw[K]
  exact k
 rw[PS.da O]
 refine ai ?_
 refine ae 1 aa ?_
 refine bV (gn F hp.ok tD) aa aa aa aa ?_
 refine ak 1 aa ?_
 refine aK aa (fun Y=>?_) (fun Y=>?_)
 ·have K:p.dm D=(p.keyword tD).2.alter:=by unfold PS.dm;rw[al (by rw[z];decide),al (by rw[G];decide),al (by rw[I];decide),al (by rw[O];decide),az Y]
  refine db [(0,.vp 1000 0),(2,.vp 2 0)] (PS.bq false (p.keyword tD).2++[(2,.one 50 328 zS)]) ⟨aa,aa,trivial⟩ (cU aa ⟨aa,trivial⟩) ?_
  refine XA F (hp.kw tD).top ?_
  intro VE B k
  show kQ iM.res (kW (p.dm D)) .ret VE B
  rw[K]
  exact k
 rw[PS.da Y]
 refine ai ?_
 refine ae 1 aa ?_
 refine bV (gn F hp.ok tN) aa aa aa aa ?_
 refine ak 1 aa ?_
 refine aK aa (fun A=>?_) (fun A=>?_)
 ·have K:p.dm D=(p.keyword tN).2.rH D:=by unfold PS.dm;rw[al (by rw[z];decide),al (by rw[G];decide),al (by rw[I];decide),al (by rw[O];decide),al (by rw[Y];decide),az A]
  refine db [(0,.vp 1000 0),(2,.vp 2 0)] (PS.bq false (p.keyword tN).2++[(2,.one 50 328 zS)]) ⟨aa,aa,trivial⟩ (cU aa ⟨aa,trivial⟩) ?_
  refine Yt F Lq (hp.kw tN).top aa ?_
  intro VE B k
  show kQ iM.res (kW (p.dm D)) .ret VE B
  rw[K]
  exact k
 rw[PS.da A]
 refine ai ?_
 refine ae 1 aa ?_
 refine bV (gn F hp.ok ts) aa aa aa aa ?_
 refine ak 1 aa ?_
 refine aK aa (fun J=>?_) (fun J=>?_)
 ·have K:p.dm D=({kind:=9},(p.keyword ts).2):=by unfold PS.dm;rw[al (by rw[z];decide),al (by rw[G];decide),al (by rw[I];decide),al (by rw[O];decide),al (by rw[Y];decide),al (by rw[A];decide),az J]
  refine db [(0,.vp 1000 0),(2,.vp 2 0)] (PS.bq false (p.keyword ts).2++[(2,.one 50 328 zS)]) ⟨aa,aa,trivial⟩ (cU aa ⟨aa,trivial⟩) ?_
  refine Ww F (hp.kw ts).top ?_
  intro VE B k
  show kQ iM.res (kW (p.dm D)) .ret VE B
  rw[K]
  exact k
 rw[PS.da J]
 refine ai ?_
 refine ae 1 aa ?_
 refine bV (gn F hp.ok tO) aa aa aa aa ?_
 refine ak 1 aa ?_
 refine aK aa (fun U=>?_) (fun U=>?_)
 ·have K:p.dm D=(p.keyword tO).2.hold:=by unfold PS.dm;rw[al (by rw[z];decide),al (by rw[G];decide),al (by rw[I];decide),al (by rw[O];decide),al (by rw[Y];decide),al (by rw[A];decide),al (by rw[J];decide),az U]
  refine db [(0,.vp 1000 0),(2,.vp 2 0)] (PS.bq false (p.keyword tO).2++[(2,.one 50 328 zS)]) ⟨aa,aa,trivial⟩ (cU aa ⟨aa,trivial⟩) ?_
  refine Yu F (hp.kw tO).top ?_
  intro VE B k
  show kQ iM.res (kW (p.dm D)) .ret VE B
  rw[K]
  exact k
 rw[PS.da U]
 refine ai ?_
 refine ae 1 aa ?_
 refine bV (gn F hp.ok qh) aa aa aa aa ?_
 refine ak 1 aa ?_
 refine aK aa (fun Z=>?_) (fun Z=>?_)
 ·have K:p.dm D=({kind:=11,n:=((p.keyword qh).2.number (-1)).1},((p.keyword qh).2.number (-1)).2):=by unfold PS.dm;rw[al (by rw[z];decide),al (by rw[G];decide),al (by rw[I];decide),al (by rw[O];decide),al (by rw[Y];decide),al (by rw[A];decide),al (by rw[J];decide),al (by rw[U];decide),az Z]
  refine db [(0,.vp 1000 0),(2,.vp 2 0)] (PS.bq false (p.keyword qh).2++[(2,.one 50 328 zS)]) ⟨aa,aa,trivial⟩ (cU aa ⟨aa,trivial⟩) ?_
  refine Vl F (hp.kw qh).top ?_
  intro VE B k
  show kQ iM.res (kW (p.dm D)) .ret VE B
  rw[K]
  exact k
 rw[PS.da Z]
 refine ai ?_
 refine ae 1 aa ?_
 refine bV (gn F hp.ok qo) aa aa aa aa ?_
 refine ak 1 aa ?_
 refine aK aa (fun Gk=>?_) (fun Gk=>?_)
 ·have K:p.dm D=({kind:=12,n:=(((p.keyword qo).2.bc [pJ]).number (-1)).1},(((p.keyword qo).2.bc [pJ]).number (-1)).2):=by unfold PS.dm;rw[al (by rw[z];decide),al (by rw[G];decide),al (by rw[I];decide),al (by rw[O];decide),al (by rw[Y];decide),al (by rw[A];decide),al (by rw[J];decide),al (by rw[U];decide),al (by rw[Z];decide),az Gk]
  refine db [(0,.vp 1000 0),(2,.vp 2 0)] (PS.bq false (p.keyword qo).2++[(2,.one 50 328 zS)]) ⟨aa,aa,trivial⟩ (cU aa ⟨aa,trivial⟩) ?_
  refine Wx F (hp.kw qo).top ?_
  intro VE B k
  show kQ iM.res (kW (p.dm D)) .ret VE B
  rw[K]
  exact k
 rw[PS.da Gk]
 refine aQ ?_
 have K:p.dm D=p.query D:=by unfold PS.dm;rw[al (by rw[z];decide),al (by rw[G];decide),al (by rw[I];decide),al (by rw[O];decide),al (by rw[Y];decide),al (by rw[A];decide),al (by rw[J];decide),al (by rw[U];decide),al (by rw[Z];decide),al (by rw[Gk];decide)]
 refine db [(0,.vp 1000 0),(2,.vp 2 0)] (PS.bq false p++[(2,.one 50 328 zS)]) ⟨aa,aa,trivial⟩ (cU aa ⟨aa,trivial⟩) ?_
 refine Wz F Lq hp ?_
 intro VE B k
 show kQ iM.res (kW (p.dm D)) .ret VE B
 rw[K]
 exact k
theorem kp{T:bd}{VE:cj}{B:bw}{Q:cj→bw→Prop}{fl:List FL}{d:Key}{l:List Nat}{n:Nat}{w:Bool}{a:aI}{row:List DC}{o:Nat}{r:List bA}(Z:a.vv VE=some (.rp row o))(hk:ox [] l fl=true)(h:VI T (.load n w a) VE B [] fun v B'=>VQ T r ((d.n,v)::VE) B' (.rd []::fl) Q):VQ T (⟨some d,none,some l,.load n w a⟩::r) VE B fl Q:=by
 intro H0 X0 E H β J b9 I
 obtain⟨N,v0,H',e,K,v,B',β',U,O,hv,hq⟩:=Bq h J
 obtain⟨x,Y,A⟩:=J.ch Z
 simp only[aP] at A
 obtain⟨f,g,Q1,l1,rfl,_,_,hX,ew⟩:=A
 have z:H'=H.mark:=L8 Y (e N N (bR _) (bR _))
 have G:H.mark.ws=[]∧H.mark.next=H.next:=by cases H;exact⟨rfl,rfl⟩
 have k:vV H.next B β (.rd []) ⟨(bP.load n w a).reads E,H'.ws,H.next,H'.next⟩:=by
  refine⟨by rw[z];exact G.1,by show H.next=H'.next;rw[z];exact G.2.symm,[f],?_,fun f' I=>?_⟩
  ·show some (ju (a.ev E))=_
   rw[Y];rfl
  rcases List.mem_singleton.1 I with rfl
  exact⟨ew,fun b s K h2 h3=>absurd (.inr ⟨b,s,K,h2,h3⟩) hX⟩
 obtain⟨N2,E2,H2,e2,hp⟩:=hq H0 X0 _ _ β' (O.set hv) (⟨(bP.load n w a).reads E,H'.ws,H.next,H'.next⟩::b9) ((I.cons k).step U)
 refine⟨max N N2,E2,H2,fun lf n a1 a2=>?_,hp.of U J.bj⟩
 show bA.nT (T.call lf n) ⟨some d,none,some l,_⟩ E H b9 (mz (T.call lf n) r)=_
 rw[AV,AW (e lf n ah ah) (yf I K hk)]
 exact e2 lf n ah ah
theorem SA{T:bd}(F:FT T){D:Rd}(Lq:kM T D){aF:List cu}(hg:sw aF):Sound T 41 [.d (.sl (aF.map cu.enc))] fun r=>r= .tuple [eU (md D aF).1.enc,dI (md D aF).2.1,dI (md D aF).2.2]:=by
 refine dG F.f41 aa ?_
 have A:b8 (start aF) ((start aF).dm D).2:=hg.top.dm D
 have G:=A.trans A.top.fin
 have htk:(j9 D aF).aF=aF:=G.aF
 refine an 3 aa (an 4 aa (ai (ae 1 aa (aj (kn (cm:=[.vp 1000 0]) (Bi:=PS.bq false (start aF)) [(1000,9)] 2000 aa aa aa aa aa aa aa ⟨aa,aa,trivial⟩ (TB F Lq hg.top aa) (fun r Bn gx=>?_))))))
 obtain⟨st,a,rfl,rfl,I⟩:=gx
 refine ak 2 aa (ai (ae 1 aa (aj (kn (cm:=[.vp 1000 0]) (Bi:=PS.bq _ ((start aF).dm D).2) [(1000,9)] 2000 aa aa aa aa aa aa aa ⟨aa,aa,trivial⟩ (QQ F A.top) (fun r Bn gx=>?_)))))
 obtain⟨rfl,rfl⟩:=gx
 refine aX (aL (an 5 aa (aK aa (fun z=>?_) (fun z=>?_))))
 ·have he:¬(j9 D aF).err=0:=by unfold j9;simpa using z
  have O:PS.ea (j9 D aF)=(j9 D aF).aO:=al he
  have U:(j9 D aF).pos=(j9 D aF).tok.pos:=G.pk (fun k=>absurd rfl k) he
  have Y:md D aF=({},(j9 D aF).pos,(j9 D aF).err):=by unfold md;rw[az (by unfold j9;simpa using z)]
  have J:(aF.map cu.enc)[PS.ea (j9 D aF)]?=some (j9 D aF).tok.enc:=by
   rw[O,iJ]
   have K:=G.ok.get
   rw[G.aF] at K
   show Option.map cu.enc aF[(j9 D aF).aO]?=_
   rw[show aF[(j9 D aF).aO]?=_ from K];rfl
  refine eO (bD 6 aa (bG (lF (row:=(j9 D aF).tok.enc) aa aa J aa ?_)))
  refine bD 1 aa (kp aa aa (km aa aa ?_))
  refine du 7 aa (ay ?_)
  rw[Y,U];exact⟨_,rfl,fJ,rfl⟩
 have he:(j9 D aF).err=0:=by unfold j9;simpa using z
 have Y:md D aF=(((start aF).dm D).1,0,0):=by unfold md;rw[al (by unfold j9;simpa using z)]
 have Z:=I (A.top.fin.er he)
 refine aQ (an 4 aa (ay ?_))
 rw[Y,←Z];exact⟨_,rfl,fJ,rfl⟩
theorem So{T:bd}(F:FT T){D:Rd}(Lq:kM T D){aF:List cu}(hg:sw aF):Sound T 42 [.d (.sl (aF.map cu.enc))] fun r=>r= .tuple [eU (mb D aF).1.enc,dI (mb D aF).2.1,dI (mb D aF).2.2]:=by
 refine dG F.f42 aa ?_
 have A:b8 (start aF) ((start aF).dj D false).2:=hg.top.dj D false
 have G:=A.trans A.top.fin
 have htk:(kb D aF).aF=aF:=G.aF
 refine an 3 aa (an 4 aa (ai (ae 1 aa (aj (kn (cm:=[.vp 1000 0]) (Bi:=PS.bq false (start aF)) [(1000,9)] 2000 aa aa aa aa aa aa aa ⟨aa,aa,trivial⟩ (Iv F Lq hg.top) (fun r Bn gx=>?_))))))
 obtain⟨⟨st,rfl,I⟩,rfl⟩:=gx
 refine ak 2 aa (ai (ae 1 aa (aj (kn (cm:=[.vp 1000 0]) (Bi:=PS.bq _ ((start aF).dj D false).2) [(1000,9)] 2000 aa aa aa aa aa aa aa ⟨aa,aa,trivial⟩ (QQ F A.top) (fun r Bn gx=>?_)))))
 obtain⟨rfl,rfl⟩:=gx
 refine aX (aL (an 5 aa (aK aa (fun z=>?_) (fun z=>?_))))
 ·have he:¬(kb D aF).err=0:=by unfold kb;simpa using z
  have O:PS.ea (kb D aF)=(kb D aF).aO:=al he
  have U:(kb D aF).pos=(kb D aF).tok.pos:=G.pk (fun k=>absurd rfl k) he
  have Y:mb D aF=(⟨[],[]⟩,(kb D aF).pos,(kb D aF).err):=by unfold mb;rw[az (by unfold kb;simpa using z)]
  have J:(aF.map cu.enc)[PS.ea (kb D aF)]?=some (kb D aF).tok.enc:=by
   rw[O,iJ]
   have K:=G.ok.get
   rw[G.aF] at K
   show Option.map cu.enc aF[(kb D aF).aO]?=_
   rw[show aF[(kb D aF).aO]?=_ from K];rfl
  refine eO (bD 6 aa (bG (lF (row:=(kb D aF).tok.enc) aa aa J aa ?_)))
  refine bD 1 aa (kp aa aa (km aa aa ?_))
  refine du 7 aa (ay ?_)
  rw[Y,U];exact⟨_,rfl,fJ,rfl⟩
 have he:(kb D aF).err=0:=by unfold kb;simpa using z
 have Y:mb D aF=(((start aF).dj D false).1,0,0):=by unfold mb;rw[al (by unfold kb;simpa using z)]
 have Z:=I (A.top.fin.er he)
 refine aQ (an 4 aa (ay ?_))
 rw[Y,←Z];exact⟨_,rfl,fJ,rfl⟩
end Go.Ev.Pp
