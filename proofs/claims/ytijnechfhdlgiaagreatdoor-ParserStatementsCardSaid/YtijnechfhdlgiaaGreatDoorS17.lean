/- Part 17 of rules for walks through the code of a program, and of such walks; what each part proves is said by its theorems. -/
import Derived.Test.YtijnechfhdlgiaaGreatDoorS11
import Derived.Test.YtijnechfhdlgiaaGreatDoorS16
set_option linter.unusedVariables false
set_option linter.unusedSimpArgs false
noncomputable section
set_option maxRecDepth 100000
set_option maxHeartbeats 4000000
namespace Go.Ev.Pp
open Go
theorem Wj{T:bd}(F:FT T){p:PS}(hp:bk p):cg T 125 [.vp 1000 0] (PS.bi p) fun r Bn=>r=eU p.create.1.enc∧Bn=PS.bi p.create.2:=by
 refine cL F.abo aa ?_
 have pf:∀x:PS,bk x→b8 x (PS.column x).2:=fun _ h=>h.column
 refine an 1 aa (ai (ae 2 aa (gD 6 6 aa aa (fun _=>⟨aa,aa⟩) (bo (bc F hp.ok [dA] aq) aa aa aa aa aa (aX (ai (ae 1 aa (bo (name F (hp.d6 [dA]).st) aa aa aa aa aa (ae 1 aa ?_)))))))))
 refine s7 10 14 1114 96 32 3 aa aa aa (s7 10 16 1116 98 64 3 aa aa aa (s7 10 17 1117 100 32 2 aa aa aa (ak 2 aa (ai (ae 1 aa (bo (bJ F (hp.d6 [dA]).top.name.ok cE) aa aa aa aa aa (aX (eO (bD 3 aa ?_)))))))))
 refine nB (H7 F hp.Ci.top) aa aa aa aa aa aa (bD 1 aa (dy aa (eD (rows:=[]) (ys:=[di ((p.bc [dA]).name.2.bJ cE).column.1]) aa aa aa (.bs (rows:=[di ((p.bc [dA]).name.2.bJ cE).column.1]) aa) (b0 aa) (b0 aa) (fun _=>aa) (fun _=>aa) ?_)))
 refine du 2 aa (aL (bM (d7 (fun k VE B=>∃(l:List _)(q:PS),lg PS.column k l q=(jG PS.column ((p.bc [dA]).name.2.bJ cE))∧l≠[]∧l.length≤q.aO+1∧((p.bc [dA]).name.2.bJ cE).aF.length≤k+q.aO∧b8 ((p.bc [dA]).name.2.bJ cE) q∧bn [(0,.vp 1000 0),(2,.vp 2 0),(3,.vp 3 0)] VE∧bn (PS.bi q++[(3,.one 50 328 [dI 5,d0,d0,d0,dN,dN,dS (p.bc [dA]).name.1,dS [],dN,d0,d0,dN,d0,dN,.ac 1114 (l.map di).length 3,dN,.ac 1116 0 3,.ac 1117 0 2,d0,d0,d0]),(1114,.acc 96 32 3 (l.map di)),(1116,.acc 98 64 3 []),(1117,.acc 100 32 2 []),(2,.one 50 328 zS)]) B) ?_ (k:=((p.bc [dA]).name.2.bJ cE).aF.length) ⟨[(PS.column ((p.bc [dA]).name.2.bJ cE)).1],(PS.column ((p.bc [dA]).name.2.bJ cE)).2,aa,qz _ _,nm (dp _),ku _ _,pf _ hp.Ci.top,⟨aa,aa,aa,trivial⟩,dK aa aa ⟨aa,aa,aa,aa,aa,trivial⟩⟩)))
 rintro k VE B⟨l,q,z,l8,jM,hk,A,hV,Z⟩
 refine eZ (PS.bi q++[(3,.one 50 328 [dI 5,d0,d0,d0,dN,dN,dS (p.bc [dA]).name.1,dS [],dN,d0,d0,dN,d0,dN,.ac 1114 (l.map di).length 3,dN,.ac 1116 0 3,.ac 1117 0 2,d0,d0,d0]),(1114,.acc 96 32 3 (l.map di)),(1116,.acc 98 64 3 []),(1117,.acc 100 32 2 []),(2,.one 50 328 zS)]) Z ?_
 have Z:bn (PS.bi q++[(3,.one 50 328 [dI 5,d0,d0,d0,dN,dN,dS (p.bc [dA]).name.1,dS [],dN,d0,d0,dN,d0,dN,.ac 1114 (l.map di).length 3,dN,.ac 1116 0 3,.ac 1117 0 2,d0,d0,d0]),(1114,.acc 96 32 3 (l.map di)),(1116,.acc 98 64 3 []),(1117,.acc 100 32 2 []),(2,.one 50 328 zS)]) (PS.bi q++[(3,.one 50 328 [dI 5,d0,d0,d0,dN,dN,dS (p.bc [dA]).name.1,dS [],dN,d0,d0,dN,d0,dN,.ac 1114 (l.map di).length 3,dN,.ac 1116 0 3,.ac 1117 0 2,d0,d0,d0]),(1114,.acc 96 32 3 (l.map di)),(1116,.acc 98 64 3 []),(1117,.acc 100 32 2 []),(2,.one 50 328 zS)]):=dK rfl rfl ⟨rfl,rfl,rfl,rfl,rfl,trivial⟩
 have gM:q.aF.length=((p.bc [dA]).name.2.bJ cE).aF.length:=by rw[A.aF]
 refine db _ _ hV Z (aL (ai (ae 1 aa (bo (sign F A.ok cT) aa aa aa aa aa (aX (aK aa (fun xN=>?_) (fun xN=>?_)))))))
 ·have h2:=A.top.sign cT
  have p6:=pB A.ok xN
  have fZ:=A.ok.eG
  obtain⟨k,rfl⟩:∃k',k=k'+1:=⟨k-1,by have:=p6.2;omega⟩
  rw[pC xN] at z
  have h3:=h2.trans (pf _ h2.top)
  refine aQ (bM (im (bD 3 aa (nB (H7 F h2.top) aa aa aa aa aa aa (bD 1 aa ?_)))))
  refine dy rfl (eD (rows:=l.map di) (ys:=[di ((PS.column (q.sign cT).2).1)]) rfl rfl rfl (.bs (rows:=[di ((PS.column (q.sign cT).2).1)]) rfl) (b0 rfl) (by simp only[bE,ca,cV,dL];omega) (fun h=>by rw[h];rfl) (fun h=>by rw[h];rfl) ?_)
  refine du 2 aa (⟨k,gG k,l++[(PS.column (q.sign cT).2).1],(PS.column (q.sign cT).2).2,z,mX l8 _,?_,?_,A.trans h3,?_,?_⟩)
  ·have:=h3.aO;have:=p6.1;have:=(pf _ h2.top).aO;rw[bE,dY];show l.length+1≤(PS.column (q.sign cT).2).2.aO+1;omega
  ·have:=(pf _ h2.top).aO;have:=p6.1;show((p.bc [dA]).name.2.bJ cE).aF.length≤k+(PS.column (q.sign cT).2).2.aO;omega
  ·try simp only[dx,e7,gj]
   exact⟨aa,aa,aa,trivial⟩
  try simp only[dx,e7,gj]
  exact dK aa aa ⟨aa,aa,aa,aa,aa,trivial⟩
 rw[pD xN] at z
 rw[PS.iS xN]
 have hI:p.uh=(l,q):=by unfold PS.uh;rw[←z]
 have Rx:p.iT=q.bJ ee:=by unfold PS.iT;rw[hI]
 obtain⟨I,wb⟩:∃I,l=I:=⟨_,rfl⟩
 rw[wb] at hI⊢
 refine dJ (ai (ae 1 aa (bo (bJ F A.ok ee) aa aa aa aa aa (aX (aL (ai ?_))))))
 rw[←Rx]
 clear hV Z z l8 jM hk gM Rx wb
 refine ae 1 aa (bo (keyword F hp.iT.ok sH) aa aa aa aa aa (aX (aK aa (fun p7=>?_) (fun p7=>?_))))
 ·have j1:=hp.iT.top.kw sH
  obtain⟨K,Ay⟩:∃K,(p.iT.keyword sH).2.names.1=K:=⟨_,rfl⟩
  have hK:p.iT.key=(K,(p.iT.keyword sH).2.names.2):=by unfold PS.key;rw[az p7,←Ay]
  have hz:p.iT.key.2=(p.iT.keyword sH).2.names.2:=by rw[hK]
  refine bC (ae 1 aa (bo (tE F j1.top) aa aa aa aa aa (ak 2 aa (aL ?_))))
  (refine eZ (PS.bi p.iT.key.2++[(3,.one 50 328 [dI 5,d0,d0,d0,dN,dN,dS (p.bc [dA]).name.1,dS [],dN,d0,d0,dN,d0,dN,.ac 1114 (I.map di).length 3,.d (gC K),.ac 1116 (([]:List Fk).map Fk.enc).length 3,.ac 1117 0 2,d0,d0,d0]),(1114,.acc 96 32 3 (I.map di)),(1116,.acc 98 64 3 (([]:List Fk).map Fk.enc)),(1117,.acc 100 32 2 []),(2,.one 50 328 zS)]) ?_ ?_; · exact dK (by rw[hz];rfl) (by rw[hz];rfl) ⟨by rw[←Ay];rfl,rfl,rfl,rfl,rfl,trivial⟩)
  refine bM (d7 (fun k VE B=>∃(l:List Fk)(q:PS),pW k l q=p.pX∧l.length≤q.aO+1∧p.aF.length≤k+q.aO∧b8 p q∧bn [(0,.vp 1000 0),(2,.vp 2 0),(3,.vp 3 0)] VE∧bn (PS.bi q++[(3,.one 50 328 [dI 5,d0,d0,d0,dN,dN,dS (p.bc [dA]).name.1,dS [],dN,d0,d0,dN,d0,dN,.ac 1114 (I.map di).length 3,.d (gC K),.ac 1116 (l.map Fk.enc).length 3,.ac 1117 0 2,d0,d0,d0]),(1114,.acc 96 32 3 (I.map di)),(1116,.acc 98 64 3 (l.map Fk.enc)),(1117,.acc 100 32 2 []),(2,.one 50 328 zS)]) B) ?_ (k:=p.aF.length) ⟨[],p.iT.key.2,aa,dp _,ku _ _,hp.zY,⟨aa,aa,aa,trivial⟩,dK aa aa ⟨aa,aa,aa,aa,aa,trivial⟩⟩)
  clear A
  rintro k VE B⟨l,q,z,jM,hk,A,hV,Z⟩
  refine eZ (PS.bi q++[(3,.one 50 328 [dI 5,d0,d0,d0,dN,dN,dS (p.bc [dA]).name.1,dS [],dN,d0,d0,dN,d0,dN,.ac 1114 (I.map di).length 3,.d (gC K),.ac 1116 (l.map Fk.enc).length 3,.ac 1117 0 2,d0,d0,d0]),(1114,.acc 96 32 3 (I.map di)),(1116,.acc 98 64 3 (l.map Fk.enc)),(1117,.acc 100 32 2 []),(2,.one 50 328 zS)]) Z ?_
  have Z:bn (PS.bi q++[(3,.one 50 328 [dI 5,d0,d0,d0,dN,dN,dS (p.bc [dA]).name.1,dS [],dN,d0,d0,dN,d0,dN,.ac 1114 (I.map di).length 3,.d (gC K),.ac 1116 (l.map Fk.enc).length 3,.ac 1117 0 2,d0,d0,d0]),(1114,.acc 96 32 3 (I.map di)),(1116,.acc 98 64 3 (l.map Fk.enc)),(1117,.acc 100 32 2 []),(2,.one 50 328 zS)]) (PS.bi q++[(3,.one 50 328 [dI 5,d0,d0,d0,dN,dN,dS (p.bc [dA]).name.1,dS [],dN,d0,d0,dN,d0,dN,.ac 1114 (I.map di).length 3,.d (gC K),.ac 1116 (l.map Fk.enc).length 3,.ac 1117 0 2,d0,d0,d0]),(1114,.acc 96 32 3 (I.map di)),(1116,.acc 98 64 3 (l.map Fk.enc)),(1117,.acc 100 32 2 []),(2,.one 50 328 zS)]):=dK rfl rfl ⟨rfl,rfl,rfl,rfl,rfl,trivial⟩
  have gM:q.aF.length=p.aF.length:=by rw[A.aF]
  have fZ:=A.ok.eG
  refine db _ _ hV Z (aL (ai (ae 1 aa (bo (keyword F A.ok my) aa aa aa aa aa (aX (aK aa (fun O=>?_) (fun O=>?_)))))))
  ·have U:=nV A.ok O
   obtain⟨k,rfl⟩:∃k',k=k'+1:=⟨k-1,ah⟩
   rw[Is O] at z
   have G:=A.top.kw my
   have kC:=U.1
   generalize (q.keyword my).2=J at z G kC⊢
   have j1:=G.top.names
   have j2:=G.top.uA
   have j3:=j2.top.name
   refine aQ (bM (ai (ae 1 aa (bo (tE F G.top) aa aa aa aa aa (ak 3 aa (ai (ae 2 aa (gD 42 42 aa aa (fun _=>⟨aa,aa⟩) (bo (bc F j1.ok [AK] aq) aa aa aa aa aa ?_)))))))))
   refine aX (ai (ae 1 aa (bo (name F j2.st) aa aa aa aa aa (ak 2 aa (ai (ae 1 aa (bo (tE F j3.top) aa aa aa aa aa (ak 2 aa (bC ?_)))))))))
   refine ae 4 aa ?_
   refine aj (eD (rows:=l.map Fk.enc) (ys:=[J.fk.1.enc]) rfl rfl rfl (.bs (rows:=[J.fk.1.enc]) rfl) (b0 rfl) (by simp only[bE,ca,cV,dL];omega) (fun h=>by rw[h];rfl) (fun h=>by rw[h];rfl) ?_)
   refine ak 2 aa (⟨k,gG k,l++[J.fk.1],J.fk.2,z,?_,?_,(A.trans G).trans G.top.fk,⟨aa,aa,aa,trivial⟩,?_⟩)
   ·have:=G.top.fk.aO;rw[bE,dY];omega
   ·have:=G.top.fk.aO;omega
   simp only[dx,e7,gj]
   exact dK aa aa ⟨aa,aa,aa,aa,aa,trivial⟩
  rw[Iu O] at z
  rw[PS.da O]
  obtain⟨lf,Df⟩:∃lf,l=lf:=⟨_,rfl⟩
  rw[Df] at z⊢
  clear hV Z jM hk gM Df
  refine dJ (bM ?_)
  refine d7 (fun k VE B=>∃(l:List (Int×List (List UInt8)))(q:PS),oO k l q=p.vX∧l.length≤q.aO+1∧p.aF.length≤k+q.aO∧b8 p q∧bn [(0,.vp 1000 0),(2,.vp 2 0),(3,.vp 3 0)] VE∧bn (PS.bi q++[(3,.one 50 328 [dI 5,d0,d0,d0,dN,dN,dS (p.bc [dA]).name.1,dS [],dN,d0,d0,dN,d0,dN,.ac 1114 (I.map di).length 3,.d (gC K),.ac 1116 (lf.map Fk.enc).length 3,.ac 1117 (l.map eu).length 2,d0,d0,d0]),(1114,.acc 96 32 3 (I.map di)),(1116,.acc 98 64 3 (lf.map Fk.enc)),(1117,.acc 100 32 2 (l.map eu)),(2,.one 50 328 zS)]) B) ?_ (k:=p.aF.length) ⟨[],q,by unfold PS.vX;rw[←z],dp _,ku _ _,A,⟨rfl,rfl,rfl,trivial⟩,dK rfl rfl ⟨rfl,rfl,rfl,rfl,rfl,trivial⟩⟩
  have hR:p.pX.1=lf:=by rw[←z]
  clear z A fZ
  rintro k VE B⟨l,q,z,jM,hk,A,hV,Z⟩
  refine eZ (PS.bi q++[(3,.one 50 328 [dI 5,d0,d0,d0,dN,dN,dS (p.bc [dA]).name.1,dS [],dN,d0,d0,dN,d0,dN,.ac 1114 (I.map di).length 3,.d (gC K),.ac 1116 (lf.map Fk.enc).length 3,.ac 1117 (l.map eu).length 2,d0,d0,d0]),(1114,.acc 96 32 3 (I.map di)),(1116,.acc 98 64 3 (lf.map Fk.enc)),(1117,.acc 100 32 2 (l.map eu)),(2,.one 50 328 zS)]) Z ?_
  have Z:bn (PS.bi q++[(3,.one 50 328 [dI 5,d0,d0,d0,dN,dN,dS (p.bc [dA]).name.1,dS [],dN,d0,d0,dN,d0,dN,.ac 1114 (I.map di).length 3,.d (gC K),.ac 1116 (lf.map Fk.enc).length 3,.ac 1117 (l.map eu).length 2,d0,d0,d0]),(1114,.acc 96 32 3 (I.map di)),(1116,.acc 98 64 3 (lf.map Fk.enc)),(1117,.acc 100 32 2 (l.map eu)),(2,.one 50 328 zS)]) (PS.bi q++[(3,.one 50 328 [dI 5,d0,d0,d0,dN,dN,dS (p.bc [dA]).name.1,dS [],dN,d0,d0,dN,d0,dN,.ac 1114 (I.map di).length 3,.d (gC K),.ac 1116 (lf.map Fk.enc).length 3,.ac 1117 (l.map eu).length 2,d0,d0,d0]),(1114,.acc 96 32 3 (I.map di)),(1116,.acc 98 64 3 (lf.map Fk.enc)),(1117,.acc 100 32 2 (l.map eu)),(2,.one 50 328 zS)]):=dK rfl rfl ⟨rfl,rfl,rfl,rfl,rfl,trivial⟩
  have gM:q.aF.length=p.aF.length:=by rw[A.aF]
  have fZ:=A.ok.eG
  refine db _ _ hV Z (bM (bM (ai (ae 1 aa (bo (keyword F A.ok qw) aa aa aa aa aa (ak 1 aa (aK aa (fun Y=>?_) (fun Y=>?_))))))))
  ·have hj:q.ik=some (1,(q.keyword qw).2):=by unfold PS.ik;rw[az Y]
   obtain⟨G,U,kC⟩:=A.top.ik hj
   obtain⟨k,rfl⟩:∃k',k=k'+1:=⟨k-1,ah⟩
   rw[wA hj] at z
   generalize (q.keyword qw).2=J at hj G U z⊢
   refine im (bD 3 aa (nB (tE F G.top) aa aa aa aa aa aa (bD 2 aa ?_)))
   refine dy rfl (eD (rows:=l.map eu) (ys:=[eu (1,J.names.1)]) rfl rfl rfl (.bs (rows:=[eu (1,J.names.1)]) rfl) (b0 rfl) (by simp only[bE,ca,cV,dL];omega) (fun h=>by rw[h];rfl) (fun h=>by rw[h];rfl) ?_)
   refine du 2 aa (⟨k,gG k,l++[(1,J.names.1)],J.names.2,z,?_,?_,(A.trans G).trans G.top.names,⟨aa,aa,aa,trivial⟩,?_⟩)
   ·have:=G.top.names.aO;rw[bE,dY];omega
   ·have:=G.top.names.aO;omega
   simp only[dx,e7,gj]
   exact dK aa aa ⟨aa,aa,aa,aa,aa,trivial⟩
  rw[PS.da Y]
  refine ai (ae 1 aa (bo (keyword F A.ok qb) aa aa aa aa aa (ak 1 aa (aK aa (fun uB=>?_) (fun uB=>?_)))))
  ·have hj:q.ik=some (2,(q.keyword qb).2):=by unfold PS.ik;rw[al (by rw[Y];decide),az uB]
   obtain⟨G,U,kC⟩:=A.top.ik hj
   obtain⟨k,rfl⟩:∃k',k=k'+1:=⟨k-1,ah⟩
   rw[wA hj] at z
   generalize (q.keyword qb).2=J at hj G U z⊢
   refine im (bD 3 aa (nB (tE F G.top) aa aa aa aa aa aa (bD 2 aa ?_)))
   refine dy rfl (eD (rows:=l.map eu) (ys:=[eu (2,J.names.1)]) rfl rfl rfl (.bs (rows:=[eu (2,J.names.1)]) rfl) (b0 rfl) (by simp only[bE,ca,cV,dL];omega) (fun h=>by rw[h];rfl) (fun h=>by rw[h];rfl) ?_)
   refine du 2 aa (⟨k,gG k,l++[(2,J.names.1)],J.names.2,z,?_,?_,(A.trans G).trans G.top.names,⟨aa,aa,aa,trivial⟩,?_⟩)
   ·have:=G.top.names.aO;rw[bE,dY];omega
   ·have:=G.top.names.aO;omega
   simp only[dx,e7,gj]
   exact dK aa aa ⟨aa,aa,aa,aa,aa,trivial⟩
  have hj:q.ik=none:=by unfold PS.ik;rw[al (by rw[Y];decide),al (by rw[uB];decide)]
  rw[AX hj] at z
  rw[PS.da uB]
  have hm:p.create=({kind:=5,table:=(p.bc [dA]).name.1,jK:=I,key:=K,mO:=lf,cons:=l},q):=by unfold PS.create;rw[hI,hK,hR,←z]
  refine ai (ae 1 aa (fN 56 1114 aa aa fJ (fN 56 1116 aa aa fJ (fN 56 1117 aa aa fJ (ak 1 aa (ay ?_))))))
  rw[hm]
  exact⟨_,PS.bi _,aa,cX aa aa,aa,aa⟩
 rw[PS.da p7]
 obtain⟨K,Ay⟩:∃K:List (List UInt8),[]=K:=⟨_,rfl⟩
 have hK:p.iT.key=(K,p.iT):=by unfold PS.key;rw[al (by rw[p7];decide),←Ay]
 have hz:p.iT.key.2=p.iT:=by rw[hK]
 refine aQ (aL ?_)
 (refine eZ (PS.bi p.iT.key.2++[(3,.one 50 328 [dI 5,d0,d0,d0,dN,dN,dS (p.bc [dA]).name.1,dS [],dN,d0,d0,dN,d0,dN,.ac 1114 (I.map di).length 3,.d (gC K),.ac 1116 (([]:List Fk).map Fk.enc).length 3,.ac 1117 0 2,d0,d0,d0]),(1114,.acc 96 32 3 (I.map di)),(1116,.acc 98 64 3 (([]:List Fk).map Fk.enc)),(1117,.acc 100 32 2 []),(2,.one 50 328 zS)]) ?_ ?_; · exact dK (by rw[hz];rfl) (by rw[hz];rfl) ⟨by rw[←Ay];rfl,rfl,rfl,rfl,rfl,trivial⟩)
 refine bM (d7 (fun k VE B=>∃(l:List Fk)(q:PS),pW k l q=p.pX∧l.length≤q.aO+1∧p.aF.length≤k+q.aO∧b8 p q∧bn [(0,.vp 1000 0),(2,.vp 2 0),(3,.vp 3 0)] VE∧bn (PS.bi q++[(3,.one 50 328 [dI 5,d0,d0,d0,dN,dN,dS (p.bc [dA]).name.1,dS [],dN,d0,d0,dN,d0,dN,.ac 1114 (I.map di).length 3,.d (gC K),.ac 1116 (l.map Fk.enc).length 3,.ac 1117 0 2,d0,d0,d0]),(1114,.acc 96 32 3 (I.map di)),(1116,.acc 98 64 3 (l.map Fk.enc)),(1117,.acc 100 32 2 []),(2,.one 50 328 zS)]) B) ?_ (k:=p.aF.length) ⟨[],p.iT.key.2,aa,dp _,ku _ _,hp.zY,⟨aa,aa,aa,trivial⟩,dK aa aa ⟨aa,aa,aa,aa,aa,trivial⟩⟩)
 clear A
 rintro k VE B⟨l,q,z,jM,hk,A,hV,Z⟩
 refine eZ (PS.bi q++[(3,.one 50 328 [dI 5,d0,d0,d0,dN,dN,dS (p.bc [dA]).name.1,dS [],dN,d0,d0,dN,d0,dN,.ac 1114 (I.map di).length 3,.d (gC K),.ac 1116 (l.map Fk.enc).length 3,.ac 1117 0 2,d0,d0,d0]),(1114,.acc 96 32 3 (I.map di)),(1116,.acc 98 64 3 (l.map Fk.enc)),(1117,.acc 100 32 2 []),(2,.one 50 328 zS)]) Z ?_
 have Z:bn (PS.bi q++[(3,.one 50 328 [dI 5,d0,d0,d0,dN,dN,dS (p.bc [dA]).name.1,dS [],dN,d0,d0,dN,d0,dN,.ac 1114 (I.map di).length 3,.d (gC K),.ac 1116 (l.map Fk.enc).length 3,.ac 1117 0 2,d0,d0,d0]),(1114,.acc 96 32 3 (I.map di)),(1116,.acc 98 64 3 (l.map Fk.enc)),(1117,.acc 100 32 2 []),(2,.one 50 328 zS)]) (PS.bi q++[(3,.one 50 328 [dI 5,d0,d0,d0,dN,dN,dS (p.bc [dA]).name.1,dS [],dN,d0,d0,dN,d0,dN,.ac 1114 (I.map di).length 3,.d (gC K),.ac 1116 (l.map Fk.enc).length 3,.ac 1117 0 2,d0,d0,d0]),(1114,.acc 96 32 3 (I.map di)),(1116,.acc 98 64 3 (l.map Fk.enc)),(1117,.acc 100 32 2 []),(2,.one 50 328 zS)]):=dK rfl rfl ⟨rfl,rfl,rfl,rfl,rfl,trivial⟩
 have gM:q.aF.length=p.aF.length:=by rw[A.aF]
 have fZ:=A.ok.eG
 refine db _ _ hV Z (aL (ai (ae 1 aa (bo (keyword F A.ok my) aa aa aa aa aa (aX (aK aa (fun O=>?_) (fun O=>?_)))))))
 ·have U:=nV A.ok O
  obtain⟨k,rfl⟩:∃k',k=k'+1:=⟨k-1,ah⟩
  rw[Is O] at z
  have G:=A.top.kw my
  have kC:=U.1
  generalize (q.keyword my).2=J at z G kC⊢
  have j1:=G.top.names
  have j2:=G.top.uA
  have j3:=j2.top.name
  refine aQ (bM (ai (ae 1 aa (bo (tE F G.top) aa aa aa aa aa (ak 3 aa (ai (ae 2 aa (gD 42 42 aa aa (fun _=>⟨aa,aa⟩) (bo (bc F j1.ok [AK] aq) aa aa aa aa aa ?_)))))))))
  refine aX (ai (ae 1 aa (bo (name F j2.st) aa aa aa aa aa (ak 2 aa (ai (ae 1 aa (bo (tE F j3.top) aa aa aa aa aa (ak 2 aa (bC ?_)))))))))
  refine ae 4 aa ?_
  refine aj (eD (rows:=l.map Fk.enc) (ys:=[J.fk.1.enc]) rfl rfl rfl (.bs (rows:=[J.fk.1.enc]) rfl) (b0 rfl) (by simp only[bE,ca,cV,dL];omega) (fun h=>by rw[h];rfl) (fun h=>by rw[h];rfl) ?_)
  refine ak 2 aa (⟨k,gG k,l++[J.fk.1],J.fk.2,z,?_,?_,(A.trans G).trans G.top.fk,⟨aa,aa,aa,trivial⟩,?_⟩)
  ·have:=G.top.fk.aO;rw[bE,dY];omega
  ·have:=G.top.fk.aO;omega
  simp only[dx,e7,gj]
  exact dK aa aa ⟨aa,aa,aa,aa,aa,trivial⟩
 rw[Iu O] at z
 rw[PS.da O]
 obtain⟨lf,Df⟩:∃lf,l=lf:=⟨_,rfl⟩
 rw[Df] at z⊢
 clear hV Z jM hk gM Df
 refine dJ (bM ?_)
 refine d7 (fun k VE B=>∃(l:List (Int×List (List UInt8)))(q:PS),oO k l q=p.vX∧l.length≤q.aO+1∧p.aF.length≤k+q.aO∧b8 p q∧bn [(0,.vp 1000 0),(2,.vp 2 0),(3,.vp 3 0)] VE∧bn (PS.bi q++[(3,.one 50 328 [dI 5,d0,d0,d0,dN,dN,dS (p.bc [dA]).name.1,dS [],dN,d0,d0,dN,d0,dN,.ac 1114 (I.map di).length 3,.d (gC K),.ac 1116 (lf.map Fk.enc).length 3,.ac 1117 (l.map eu).length 2,d0,d0,d0]),(1114,.acc 96 32 3 (I.map di)),(1116,.acc 98 64 3 (lf.map Fk.enc)),(1117,.acc 100 32 2 (l.map eu)),(2,.one 50 328 zS)]) B) ?_ (k:=p.aF.length) ⟨[],q,by unfold PS.vX;rw[←z],dp _,ku _ _,A,⟨rfl,rfl,rfl,trivial⟩,dK rfl rfl ⟨rfl,rfl,rfl,rfl,rfl,trivial⟩⟩
 have hR:p.pX.1=lf:=by rw[←z]
 clear z A fZ
 rintro k VE B⟨l,q,z,jM,hk,A,hV,Z⟩
 refine eZ (PS.bi q++[(3,.one 50 328 [dI 5,d0,d0,d0,dN,dN,dS (p.bc [dA]).name.1,dS [],dN,d0,d0,dN,d0,dN,.ac 1114 (I.map di).length 3,.d (gC K),.ac 1116 (lf.map Fk.enc).length 3,.ac 1117 (l.map eu).length 2,d0,d0,d0]),(1114,.acc 96 32 3 (I.map di)),(1116,.acc 98 64 3 (lf.map Fk.enc)),(1117,.acc 100 32 2 (l.map eu)),(2,.one 50 328 zS)]) Z ?_
 have Z:bn (PS.bi q++[(3,.one 50 328 [dI 5,d0,d0,d0,dN,dN,dS (p.bc [dA]).name.1,dS [],dN,d0,d0,dN,d0,dN,.ac 1114 (I.map di).length 3,.d (gC K),.ac 1116 (lf.map Fk.enc).length 3,.ac 1117 (l.map eu).length 2,d0,d0,d0]),(1114,.acc 96 32 3 (I.map di)),(1116,.acc 98 64 3 (lf.map Fk.enc)),(1117,.acc 100 32 2 (l.map eu)),(2,.one 50 328 zS)]) (PS.bi q++[(3,.one 50 328 [dI 5,d0,d0,d0,dN,dN,dS (p.bc [dA]).name.1,dS [],dN,d0,d0,dN,d0,dN,.ac 1114 (I.map di).length 3,.d (gC K),.ac 1116 (lf.map Fk.enc).length 3,.ac 1117 (l.map eu).length 2,d0,d0,d0]),(1114,.acc 96 32 3 (I.map di)),(1116,.acc 98 64 3 (lf.map Fk.enc)),(1117,.acc 100 32 2 (l.map eu)),(2,.one 50 328 zS)]):=dK rfl rfl ⟨rfl,rfl,rfl,rfl,rfl,trivial⟩
 have gM:q.aF.length=p.aF.length:=by rw[A.aF]
 have fZ:=A.ok.eG
 refine db _ _ hV Z (bM (bM (ai (ae 1 aa (bo (keyword F A.ok qw) aa aa aa aa aa (ak 1 aa (aK aa (fun Y=>?_) (fun Y=>?_))))))))
 ·have hj:q.ik=some (1,(q.keyword qw).2):=by unfold PS.ik;rw[az Y]
  obtain⟨G,U,kC⟩:=A.top.ik hj
  obtain⟨k,rfl⟩:∃k',k=k'+1:=⟨k-1,ah⟩
  rw[wA hj] at z
  generalize (q.keyword qw).2=J at hj G U z⊢
  refine im (bD 3 aa (nB (tE F G.top) aa aa aa aa aa aa (bD 2 aa ?_)))
  refine dy rfl (eD (rows:=l.map eu) (ys:=[eu (1,J.names.1)]) rfl rfl rfl (.bs (rows:=[eu (1,J.names.1)]) rfl) (b0 rfl) (by simp only[bE,ca,cV,dL];omega) (fun h=>by rw[h];rfl) (fun h=>by rw[h];rfl) ?_)
  refine du 2 aa (⟨k,gG k,l++[(1,J.names.1)],J.names.2,z,?_,?_,(A.trans G).trans G.top.names,⟨aa,aa,aa,trivial⟩,?_⟩)
  ·have:=G.top.names.aO;rw[bE,dY];omega
  ·have:=G.top.names.aO;omega
  simp only[dx,e7,gj]
  exact dK aa aa ⟨aa,aa,aa,aa,aa,trivial⟩
 rw[PS.da Y]
 refine ai (ae 1 aa (bo (keyword F A.ok qb) aa aa aa aa aa (ak 1 aa (aK aa (fun uB=>?_) (fun uB=>?_)))))
 ·have hj:q.ik=some (2,(q.keyword qb).2):=by unfold PS.ik;rw[al (by rw[Y];decide),az uB]
  obtain⟨G,U,kC⟩:=A.top.ik hj
  obtain⟨k,rfl⟩:∃k',k=k'+1:=⟨k-1,ah⟩
  rw[wA hj] at z
  generalize (q.keyword qb).2=J at hj G U z⊢
  refine im (bD 3 aa (nB (tE F G.top) aa aa aa aa aa aa (bD 2 aa ?_)))
  refine dy rfl (eD (rows:=l.map eu) (ys:=[eu (2,J.names.1)]) rfl rfl rfl (.bs (rows:=[eu (2,J.names.1)]) rfl) (b0 rfl) (by simp only[bE,ca,cV,dL];omega) (fun h=>by rw[h];rfl) (fun h=>by rw[h];rfl) ?_)
  refine du 2 aa (⟨k,gG k,l++[(2,J.names.1)],J.names.2,z,?_,?_,(A.trans G).trans G.top.names,⟨aa,aa,aa,trivial⟩,?_⟩)
  ·have:=G.top.names.aO;rw[bE,dY];omega
  ·have:=G.top.names.aO;omega
  simp only[dx,e7,gj]
  exact dK aa aa ⟨aa,aa,aa,aa,aa,trivial⟩
 have hj:q.ik=none:=by unfold PS.ik;rw[al (by rw[Y];decide),al (by rw[uB];decide)]
 rw[AX hj] at z
 rw[PS.da uB]
 have hm:p.create=({kind:=5,table:=(p.bc [dA]).name.1,jK:=I,key:=K,mO:=lf,cons:=l},q):=by unfold PS.create;rw[hI,hK,hR,←z]
 refine ai (ae 1 aa (fN 56 1114 aa aa fJ (fN 56 1116 aa aa fJ (fN 56 1117 aa aa fJ (ak 1 aa (ay ?_))))))
 rw[hm]
 exact⟨_,PS.bi _,aa,cX aa aa,aa,aa⟩
def PS.fin(q:PS):PS:=if q.err=0∧q.tok.kind≠6 then q.fail 5 else q
theorem bk.fin{q:PS}(h:bk q):b8 q q.fin:=by
 unfold PS.fin
 split
 ·exact h.fail aq
 exact .refl h
def start(aF:List cu):PS:=⟨aF,0,0,0,0,[]⟩
structure sw(aF:List cu):Prop where
 ne:0<aF.length
 eG:aF.length≤2000
 last:∀(i:Nat)t,aF[i]?=some t→(t.kind=6↔i+1=aF.length)
 num:∀t,t∈aF→t.kind=3→om t.text
 text:∀t,t∈aF→t.text.length≤200
theorem sw.top{aF:List cu}(h:sw aF):bk (start aF):=⟨⟨⟨h.ne,h.eG,h.last,dp _,dp _⟩,h.num,h.text⟩,rfl⟩
def j9(D:Rd)(aF:List cu):PS:=((start aF).dm D).2.fin
def md(D:Rd)(aF:List cu):Stmt×Int×Int:=if(j9 D aF).err≠0 then({},(j9 D aF).pos,(j9 D aF).err) else(((start aF).dm D).1,0,0)
def kb(D:Rd)(aF:List cu):PS:=((start aF).dj D false).2.fin
def mb(D:Rd)(aF:List cu):jW×Int×Int:=if(kb D aF).err≠0 then(⟨[],[]⟩,(kb D aF).pos,(kb D aF).err) else(((start aF).dj D false).1,0,0)
theorem Tw{T:bd}(F:FT T){D:Rd}(Lf:iF T D){p:PS}(hp:bk p):cg T 62 [.vp 1000 0] (PS.bi p) fun r Bn=>r=eU (p.dm D).1.enc∧Bn=PS.bz (p.dm D).2:=by
 refine cL F.f62 aa (an 1 aa (aL (bM (ai (ae 1 aa (bo (keyword F hp.ok tm) aa aa aa aa aa (ak 1 aa (aK aa (fun O=>?_) (fun O=>?_)))))))))
 ·have z:p.dm D=(p.keyword tm).2.insert D:=by unfold PS.dm;rw[az O]
  have G:=hp.kw tm
  refine ai (ae 1 aa (bo (insertC F Lf G.top) aa aa aa aa aa (jX 1000 5 aa aa (ak 1 aa (ay ?_)))))
  rw[z]
  exact⟨_,PS.bz _,aa,gm aa,aa,aa⟩
 rw[PS.da O]
 refine ai (ae 1 aa (bo (keyword F hp.ok tn) aa aa aa aa aa (ak 1 aa (aK aa (fun Y=>?_) (fun Y=>?_)))))
 ·have z:p.dm D=(p.keyword tn).2.remove D:=by unfold PS.dm;rw[al (by rw[O];decide),az Y]
  have G:=hp.kw tn
  refine ai (ae 1 aa (JC (Wh F Lf G.top) aa aa aa aa aa (ak 1 aa (ay ?_))))
  rw[z]
  exact⟨_,PS.bz _,aa,gm aa,aa,aa⟩
 rw[PS.da Y]
 refine ai (ae 1 aa (bo (keyword F hp.ok tp) aa aa aa aa aa (ak 1 aa (aK aa (fun bQ=>?_) (fun bQ=>?_)))))
 ·have z:p.dm D=(p.keyword tp).2.update D:=by unfold PS.dm;rw[al (by rw[O];decide),al (by rw[Y];decide),az bQ]
  have G:=hp.kw tp
  refine ai (ae 1 aa (JC (Wi F Lf G.top) aa aa aa aa aa (ak 1 aa (ay ?_))))
  rw[z]
  exact⟨_,PS.bz _,aa,gm aa,aa,aa⟩
 rw[PS.da bQ]
 refine ai (ae 1 aa (bo (keyword F hp.ok tq) aa aa aa aa aa (ak 1 aa (aK aa (fun A=>?_) (fun A=>?_)))))
 ·have z:p.dm D=(p.keyword tq).2.create:=by unfold PS.dm;rw[al (by rw[O];decide),al (by rw[Y];decide),al (by rw[bQ];decide),az A]
  have G:=hp.kw tq
  refine ai (ae 1 aa (bo (Wj F G.top) aa aa aa aa aa (jX 1000 5 aa aa (ak 1 aa (ay ?_)))))
  rw[z]
  exact⟨_,PS.bz _,aa,gm aa,aa,aa⟩
 rw[PS.da A]
 refine ai (ae 1 aa (bo (keyword F hp.ok tD) aa aa aa aa aa (ak 1 aa (aK aa (fun I=>?_) (fun I=>?_)))))
 ·have z:p.dm D=(p.keyword tD).2.alter:=by unfold PS.dm;rw[al (by rw[O];decide),al (by rw[Y];decide),al (by rw[bQ];decide),al (by rw[A];decide),az I]
  have G:=hp.kw tD
  refine ai (ae 1 aa (bo (Xr F G.top) aa aa aa aa aa (jX 1000 5 aa aa (ak 1 aa (ay ?_)))))
  rw[z]
  exact⟨_,PS.bz _,aa,gm aa,aa,aa⟩
 rw[PS.da I]
 refine ai (ae 1 aa (bo (keyword F hp.ok tN) aa aa aa aa aa (ak 1 aa (aK aa (fun J=>?_) (fun J=>?_)))))
 ·have z:p.dm D=(p.keyword tN).2.rH D:=by unfold PS.dm;rw[al (by rw[O];decide),al (by rw[Y];decide),al (by rw[bQ];decide),al (by rw[A];decide),al (by rw[I];decide),az J]
  have G:=hp.kw tN
  refine ai (jX 1000 5 aa aa (ae 1 aa (eA (Yn F Lf G.top) aa aa aa aa (ak 1 aa (ay ?_)))))
  rw[z]
  exact⟨_,PS.bz _,aa,gm aa,aa,aa⟩
 rw[PS.da J]
 refine ai (ae 1 aa (bo (keyword F hp.ok ts) aa aa aa aa aa (ak 1 aa (aK aa (fun K=>?_) (fun K=>?_)))))
 ·have z:p.dm D=(({kind:=9}:Stmt),(p.keyword ts).2):=by unfold PS.dm;rw[al (by rw[O];decide),al (by rw[Y];decide),al (by rw[bQ];decide),al (by rw[A];decide),al (by rw[I];decide),al (by rw[J];decide),az K]
  have G:=hp.kw ts
  refine ai (jX 1000 5 aa aa (ak 2 aa (ay ?_)))
  rw[z]
  exact⟨_,PS.bz _,aa,gm aa,aa,aa⟩
 rw[PS.da K]
 refine ai (ae 1 aa (bo (keyword F hp.ok tO) aa aa aa aa aa (ak 1 aa (aK aa (fun U=>?_) (fun U=>?_)))))
 ·have z:p.dm D=(p.keyword tO).2.hold:=by unfold PS.dm;rw[al (by rw[O];decide),al (by rw[Y];decide),al (by rw[bQ];decide),al (by rw[A];decide),al (by rw[I];decide),al (by rw[J];decide),al (by rw[K];decide),az U]
  have G:=hp.kw tO
  refine ai (ae 1 aa (bo (Yo F Lf G.top) aa aa aa aa aa (jX 1000 5 aa aa (ak 1 aa (ay ?_)))))
  rw[z]
  exact⟨_,PS.bz _,aa,gm aa,aa,aa⟩
 rw[PS.da U]
 refine ai (ae 1 aa (bo (keyword F hp.ok qh) aa aa aa aa aa (ak 1 aa (aK aa (fun Z=>?_) (fun Z=>?_)))))
 ·have z:p.dm D=({kind:=11,n:=((p.keyword qh).2.number (-1)).1},((p.keyword qh).2.number (-1)).2):=by unfold PS.dm;rw[al (by rw[O];decide),al (by rw[Y];decide),al (by rw[bQ];decide),al (by rw[A];decide),al (by rw[I];decide),al (by rw[J];decide),al (by rw[K];decide),al (by rw[U];decide),az Z]
  have G:=hp.kw qh
  refine ai (ae 1 aa (bo (number F Lf G.st (-1)) aa aa aa aa aa (jX 1000 5 aa aa (ak 2 aa (ay ?_)))))
  rw[z]
  exact⟨_,PS.bz _,aa,gm aa,aa,aa⟩
 rw[PS.da Z]
 refine ai (ae 1 aa (bo (keyword F hp.ok qo) aa aa aa aa aa (ak 1 aa (aK aa (fun sT=>?_) (fun sT=>?_)))))
 ·have z:p.dm D=({kind:=12,n:=(((p.keyword qo).2.bc [pJ]).number (-1)).1},(((p.keyword qo).2.bc [pJ]).number (-1)).2):=by unfold PS.dm;rw[al (by rw[O];decide),al (by rw[Y];decide),al (by rw[bQ];decide),al (by rw[A];decide),al (by rw[I];decide),al (by rw[J];decide),al (by rw[K];decide),al (by rw[U];decide),al (by rw[Z];decide),az sT]
  have G:=hp.kw qo
  refine ai (ae 2 aa (gD 52 52 aa aa (fun _=>⟨aa,aa⟩) (bo (bc F G.ok [pJ] aq) aa aa aa aa aa (aX (ai (ae 1 aa (bo (number F Lf (G.top.d6 [pJ]).st (-1)) aa aa aa aa aa (jX 1000 5 aa aa (ak 2 aa ?_)))))))))
  refine ay ?_
  rw[z]
  exact⟨_,PS.bz _,aa,gm aa,aa,aa⟩
 rw[PS.da sT]
 have z:p.dm D=p.query D:=by unfold PS.dm;rw[al (by rw[O];decide),al (by rw[Y];decide),al (by rw[bQ];decide),al (by rw[A];decide),al (by rw[I];decide),al (by rw[J];decide),al (by rw[K];decide),al (by rw[U];decide),al (by rw[Z];decide),al (by rw[sT];decide)]
 refine aQ (ai (jX 1000 5 aa aa (ae 1 aa (eA (Xq F Lf hp) aa aa aa aa (ak 1 aa (ay ?_))))))
 rw[z]
 exact⟨_,PS.bz _,aa,gm aa,aa,aa⟩
theorem U'{T:bd}(F:FT T){D:Rd}(z:iF T D){p:PS}(hp:bk p):cg T 61 [.vp 1001 0,.vp 1002 0] (PS.bi p++[(1001,.one 121 8 [.vp 1000 0]),(1002,.one 50 328 zS)]) fun r Bn=>r= .tuple []∧Bn=PS.bz (p.dm D).2++[(1001,.one 121 8 [.vp 1000 0]),(1002,.one 50 328 ((p.dm D).1.enc.map .d))]:=by
 exact cL F.f61 aa (bC (ae 1 aa (JC (Tw F z hp) aa aa aa aa aa (ak 1 aa (⟨_,PS.bz (p.dm D).2++[(1001,.one 121 8 [.vp 1000 0]),(1002,.one 50 328 ((p.dm D).1.enc.map .d))],aa,gL aa ⟨aa,aa,trivial⟩,aa,aa⟩)))))
theorem Xs{T:bd}(F:FT T){D:Rd}(I:iF T D){p:PS}(hp:bk p):cg T 60 [.vp 1000 0,.fn 61 [.vp 1001 0,.vp 1002 0]] (PS.bi p++[(1001,.one 121 8 [.vp 1000 0]),(1002,.one 50 328 zS)]) fun r Bn=>r= .tuple [dI (PS.fin (p.dm D).2).pos,dI (PS.fin (p.dm D).2).err]∧Bn=PS.bz (PS.fin (p.dm D).2)++[(1001,.one 121 8 [.vp 1000 0]),(1002,.one 50 328 ((p.dm D).1.enc.map .d))]:=by
 refine cL F.Rw aa ?_
 have G:b8 p (p.dm D).2:=hp.dm D
 refine eZ (PS.bi p++[(1001,.one 121 8 [.vp 1000 0]),(1002,.one 50 328 zS)]) (dK aa aa ⟨aa,aa,trivial⟩) (an 2 aa (ai (ae 1 aa (aj (rQ (ff:=[.vp 1001 0,.vp 1002 0]) (cm:=[.vp 1001 0,.vp 1002 0]) (Bi:=PS.bi p++[(1001,.one 121 8 [.vp 1000 0]),(1002,.one 50 328 zS)]) [(1000,1000),(1050,1050),(1001,1001),(1002,1002)] 2000 aa aa aa aa aa aa aa aa aa (xj aa aa aa aa ⟨aa,aa,aa,aa,trivial⟩) (U' F I hp) (fun r Bn gx=>?_))))))
 obtain⟨rfl,rfl⟩:=gx
 refine eX (PS.bz (p.dm D).2++[(1001,.one 121 8 [.vp 1000 0]),(1002,.one 50 328 ((p.dm D).1.enc.map .d))]) (gL aa ⟨aa,aa,trivial⟩) (aX (aL (ai (ae 6 aa (dc (g:=aS) aa (fun bQ=>?_) (fun bQ=>?_))))))
 ·refine aw aa (bQ) (bY aa ?_)
  refine aw aa (bQ) (FF (xE F G.ok) aa aa aa aa ?_)
  refine aw aa (bQ) (Eo aa aa ?_)
  refine aw aa (bQ) (iV aa aa ?_)
  refine aj (c8 aa (bQ) aa ?_)
  refine aX (aK aa (fun z=>?_) (fun z=>?_))
  ·have A:PS.fin (p.dm D).2=PS.fail (p.dm D).2 5:=by unfold PS.fin;rw[az ⟨by simpa using bQ,by simpa using z⟩]
   refine bC (ae 1 aa (eA (tP F G.ok 5) aa aa aa aa (aX (eO (du 10 aa (ay ?_))))))
   rw[A]
   exact⟨_,PS.bz _++[(1001,.one 121 8 [.vp 1000 0]),(1002,.one 50 328 ((p.dm D).1.enc.map .d))],aa,gL aa ⟨aa,aa,trivial⟩,aa,aa⟩
  have A:PS.fin (p.dm D).2=(p.dm D).2:=by unfold PS.fin;rw[al (fun k=>absurd k.2 (by simpa using z))]
  refine aQ (eO (du 10 aa (ay ?_)))
  rw[A]
  exact⟨_,PS.bz _++[(1001,.one 121 8 [.vp 1000 0]),(1002,.one 50 328 ((p.dm D).1.enc.map .d))],aa,gL aa ⟨aa,aa,trivial⟩,aa,aa⟩
 have A:PS.fin (p.dm D).2=(p.dm D).2:=by unfold PS.fin;rw[al (fun k=>absurd k.1 (by simpa using bQ))]
 refine eJ aa (bQ) (eJ aa (bQ) (eJ aa (bQ) (eJ aa (bQ) (aj (cS aa (bQ) aa ?_)))))
 refine aX (ef aa aa (aQ (eO (du 10 aa (ay ?_)))))
 rw[A]
 exact⟨_,PS.bz _++[(1001,.one 121 8 [.vp 1000 0]),(1002,.one 50 328 ((p.dm D).1.enc.map .d))],aa,gL aa ⟨aa,aa,trivial⟩,aa,aa⟩
theorem Va{T:bd}(F:FT T){D:Rd}(z:iF T D){p:PS}(hp:bk p):cg T 63 [.vp 1001 0,.vp 1002 0] (PS.bz p++[(1001,.one 121 8 [.vp 1000 0]),(1002,.one 39 48 [dN,dN])]) fun r Bn=>r= .tuple []∧Bn=PS.bz (p.dj D false).2++[(1001,.one 121 8 [.vp 1000 0]),(1002,.one 39 48 ((p.dj D false).1.enc.map .d))]:=by
 exact cL F.f63 aa (bC (ae 1 aa (eA (xF F z hp false) aa aa aa aa (ak 1 aa (⟨_,PS.bz (p.dj D false).2++[(1001,.one 121 8 [.vp 1000 0]),(1002,.one 39 48 ((p.dj D false).1.enc.map .d))],aa,gL aa ⟨aa,aa,trivial⟩,aa,aa⟩)))))
theorem Xt{T:bd}(F:FT T){D:Rd}(I:iF T D){p:PS}(hp:bk p):cg T 60 [.vp 1000 0,.fn 63 [.vp 1001 0,.vp 1002 0]] (PS.bz p++[(1001,.one 121 8 [.vp 1000 0]),(1002,.one 39 48 [dN,dN])]) fun r Bn=>r= .tuple [dI (PS.fin (p.dj D false).2).pos,dI (PS.fin (p.dj D false).2).err]∧Bn=PS.bz (PS.fin (p.dj D false).2)++[(1001,.one 121 8 [.vp 1000 0]),(1002,.one 39 48 ((p.dj D false).1.enc.map .d))]:=by
 refine cL F.Rw aa ?_
 have G:b8 p (p.dj D false).2:=hp.dj D false
 refine eZ (PS.bz p++[(1001,.one 121 8 [.vp 1000 0]),(1002,.one 39 48 [dN,dN])]) (gL aa ⟨aa,aa,trivial⟩) (an 2 aa (ai (ae 1 aa (aj (rQ (ff:=[.vp 1001 0,.vp 1002 0]) (cm:=[.vp 1001 0,.vp 1002 0]) (Bi:=PS.bz p++[(1001,.one 121 8 [.vp 1000 0]),(1002,.one 39 48 [dN,dN])]) [(1000,1000),(1001,1001),(1002,1002)] 2000 aa aa aa aa aa aa aa aa aa (FE aa aa ⟨aa,aa,aa,aa,trivial⟩) (Va F I hp) (fun r Bn gx=>?_))))))
 obtain⟨rfl,rfl⟩:=gx
 refine eX (PS.bz (p.dj D false).2++[(1001,.one 121 8 [.vp 1000 0]),(1002,.one 39 48 ((p.dj D false).1.enc.map .d))]) (gL aa ⟨aa,aa,trivial⟩) (aX (aL (ai (ae 6 aa (dc (g:=aS) aa (fun bQ=>?_) (fun bQ=>?_))))))
 ·refine aw aa (bQ) (bY aa ?_)
  refine aw aa (bQ) (FF (xE F G.ok) aa aa aa aa ?_)
  refine aw aa (bQ) (Eo aa aa ?_)
  refine aw aa (bQ) (iV aa aa ?_)
  refine aj (c8 aa (bQ) aa ?_)
  refine aX (aK aa (fun z=>?_) (fun z=>?_))
  ·have A:PS.fin (p.dj D false).2=PS.fail (p.dj D false).2 5:=by unfold PS.fin;rw[az ⟨by simpa using bQ,by simpa using z⟩]
   refine bC (ae 1 aa (eA (tP F G.ok 5) aa aa aa aa (aX (eO (du 10 aa (ay ?_))))))
   rw[A]
   exact⟨_,PS.bz _++[(1001,.one 121 8 [.vp 1000 0]),(1002,.one 39 48 ((p.dj D false).1.enc.map .d))],aa,gL aa ⟨aa,aa,trivial⟩,aa,aa⟩
  have A:PS.fin (p.dj D false).2=(p.dj D false).2:=by unfold PS.fin;rw[al (fun k=>absurd k.2 (by simpa using z))]
  refine aQ (eO (du 10 aa (ay ?_)))
  rw[A]
  exact⟨_,PS.bz _++[(1001,.one 121 8 [.vp 1000 0]),(1002,.one 39 48 ((p.dj D false).1.enc.map .d))],aa,gL aa ⟨aa,aa,trivial⟩,aa,aa⟩
 have A:PS.fin (p.dj D false).2=(p.dj D false).2:=by unfold PS.fin;rw[al (fun k=>absurd k.1 (by simpa using bQ))]
 refine eJ aa (bQ) (eJ aa (bQ) (eJ aa (bQ) (eJ aa (bQ) (aj (cS aa (bQ) aa ?_)))))
 refine aX (ef aa aa (aQ (eO (du 10 aa (ay ?_)))))
 rw[A]
 exact⟨_,PS.bz _++[(1001,.one 121 8 [.vp 1000 0]),(1002,.one 39 48 ((p.dj D false).1.enc.map .d))],aa,gL aa ⟨aa,aa,trivial⟩,aa,aa⟩
theorem Sz{T:bd}(F:FT T){D:Rd}(A:iF T D){aF:List cu}(G:sw aF):Sound T 29 [.d (.sl (aF.map cu.enc))] fun r=>r= .tuple [eU (md D aF).1.enc,dI (md D aF).2.1,dI (md D aF).2.2]:=by
 refine dG F.f29 aa (an 3 aa (ai (ae 3 aa (nH 11 5 1150 142 88 8 aa aa aa (ak 2 aa (an 1 aa (aL (ai (ae 2 aa ?_)))))))))
 refine aj (kn (cm:=[.vp 1000 0,.fn 61 [.vp 1001 0,.vp 1002 0]]) (Bi:=PS.bi (start aF)++[(1001,.one 121 8 [.vp 1000 0]),(1002,.one 50 328 zS)]) [(1000,11),(1050,1150),(1001,5),(1002,6)] 2000 aa aa aa aa aa aa aa (xj aa aa aa aa ⟨aa,aa,aa,aa,trivial⟩) (Xs F A G.top) (fun r Bn gx=>?_))
 obtain⟨rfl,rfl⟩:=gx
 refine eX [(2,.one 50 328 zS),(6,.one 50 328 (((start aF).dm D).1.enc.map .d))] ⟨aa,aa,trivial⟩ (ak 5 aa (an 2 aa (aK aa (fun eC=>?_) (fun eC=>?_))))
 ·have z:md D aF=({},(j9 D aF).pos,(j9 D aF).err):=by unfold md;rw[az (by unfold j9;simpa using eC)]
  refine an 6 aa (ay ?_)
  rw[z]
  exact⟨_,aa,fJ,aa⟩
 have z:md D aF=(((start aF).dm D).1,0,0):=by unfold md;rw[al (by unfold j9;simpa using eC)]
 refine aQ (an 4 aa (ay ?_))
 rw[z]
 exact⟨_,aa,fJ,aa⟩
theorem Sn{T:bd}(F:FT T){D:Rd}(A:iF T D){aF:List cu}(G:sw aF):Sound T 30 [.d (.sl (aF.map cu.enc))] fun r=>r= .tuple [eU (mb D aF).1.enc,dI (mb D aF).2.1,dI (mb D aF).2.2]:=by
 refine dG F.f30 aa (an 3 aa (ai (ae 3 aa (jX 11 5 aa aa (ak 2 aa (an 1 aa (aL (ai (ae 2 aa ?_)))))))))
 refine aj (kn (cm:=[.vp 1000 0,.fn 63 [.vp 1001 0,.vp 1002 0]]) (Bi:=PS.bz (start aF)++[(1001,.one 121 8 [.vp 1000 0]),(1002,.one 39 48 [dN,dN])]) [(1000,11),(1001,5),(1002,6)] 2000 aa aa aa aa aa aa aa (FE aa aa ⟨aa,aa,aa,aa,trivial⟩) (Xt F A G.top) (fun r Bn gx=>?_))
 obtain⟨rfl,rfl⟩:=gx
 refine eX [(2,.one 39 48 [dN,dN]),(6,.one 39 48 (((start aF).dj D false).1.enc.map .d))] ⟨aa,aa,trivial⟩ (ak 5 aa (an 2 aa (aK aa (fun eC=>?_) (fun eC=>?_))))
 ·have z:mb D aF=(⟨[],[]⟩,(kb D aF).pos,(kb D aF).err):=by unfold mb;rw[az (by unfold kb;simpa using eC)]
  refine an 6 aa (ay ?_)
  rw[z]
  exact⟨_,aa,fJ,aa⟩
 have z:mb D aF=(((start aF).dj D false).1,0,0):=by unfold mb;rw[al (by unfold kb;simpa using eC)]
 refine aQ (an 4 aa (ay ?_))
 rw[z]
 exact⟨_,aa,fJ,aa⟩
def PS.ea(p:PS):Nat:=if p.err=0 then 0 else p.aO
def PS.mn(a:Bool)(p:PS):List VV:=[.d (.sl (p.aF.map cu.enc)),dI (p.aO:Nat),dI p.err,dI (p.ea:Nat),dI (p.depth:Nat),dB a]
def PS.bq(a:Bool)(p:PS):bw:=[(1000,.one 164 64 (p.mn a))]
def PS.be(a:Bool)(p:PS)(e:List aT):bw:=[(1000,.one 164 64 (p.mn a)),(1050,.acc 142 88 8 (e.map aT.enc))]
section
variable{T:bd}{VE:cj}{B:bw}{a a':Bool}
theorem xk{f:Nat}{l:List aI}{cm:List VV}{p A:PS}{R:VV}{Q:VV→bw→Prop}(h:cg T f cm (p.bq a) fun r Bn=>r=R∧Bn=A.bq a')(G:bf B 1000=some (.one 164 64 (p.mn a)))
  (I:(lz 2000 VE&&(lA 2000 B&&clean VE (fg gI B) gI))=true) (J:jv VE l=some (jh gI 2000 cm)) (K:R.cO gI 2000=R) (O:Q R (A.bq a'++fg gI B)):VI T (.call f l) VE B [1000] Q:=by
 obtain⟨U,z⟩:=iX I
 obtain⟨z,Y⟩:=iX z
 exact kn (Bi:=p.bq a) gI 2000 rfl rfl U z rfl Y J ⟨rfl,G,trivial⟩ h fun r Bn hp=>by
  obtain⟨rfl,rfl⟩:=hp
  rw[K]
  exact O
theorem bV{d:Key}{A:Option (List Nat)}{r:List bA}{f:Nat}{l:List aI}{cm:List VV}{p z:PS}{R:VV}{Q:cj→bw→Prop}(h:cg T f cm (p.bq a) fun r Bn=>r=R∧Bn=z.bq a')(G:bf B 1000=some (.one 164 64 (p.mn a)))
  (I:(lz 2000 VE&&(lA 2000 B&&clean VE (fg gI B) gI))=true) (J:jv VE l=some (jh gI 2000 cm)) (K:R.cO gI 2000=R) (O:VO T r ((d.n,R)::VE) (z.bq a'++fg gI B) Q):VO T (⟨some d,none,A,.call f l⟩::r) VE B Q:=aj (xk h G I J K O)
theorem Am{d:Key}{m:List Nat}{fl:List FL}{r:List bA}{f:Nat}{l:List aI}{cm:List VV}{p z:PS}{R:VV}{Q:cj→bw→Prop}(h:cg T f cm (p.bq a) fun r Bn=>r=R∧Bn=z.bq a')(hk:ox [1000] m fl=true)(A:bf B 1000=some (.one 164 64 (p.mn a)))
  (G:(lz 2000 VE&&(lA 2000 B&&clean VE (fg gI B) gI))=true) (I:jv VE l=some (jh gI 2000 cm)) (J:R.cO gI 2000=R) (K:VQ T r ((d.n,R)::VE) (z.bq a'++fg gI B) (.un::fl) Q):VQ T (⟨some d,none,some m,.call f l⟩::r) VE B fl Q:=dy hk (xk h A G I J K)
theorem qM{f:Nat}{l:List aI}{cm:List VV}{p A:PS}{P:VV→Prop}{Q:VV→bw→Prop}(h:cg T f cm (p.bq a) fun r Bn=>P r∧Bn=A.bq a')(G:bf B 1000=some (.one 164 64 (p.mn a)))
  (I:(lz 2000 VE&&(lA 2000 B&&clean VE (fg gI B) gI))=true) (J:jv VE l=some (jh gI 2000 cm)) (K:∀r,P r→Q (r.cO gI 2000) (A.bq a'++fg gI B)):VI T (.call f l) VE B [1000] Q:=by
 obtain⟨O,z⟩:=iX I
 obtain⟨z,U⟩:=iX z
 exact kn (Bi:=p.bq a) gI 2000 rfl rfl O z rfl U J ⟨rfl,G,trivial⟩ h fun r Bn hp=>by
  obtain⟨Y,rfl⟩:=hp
  exact K r Y
end
variable{p:PS}{a:Bool}
theorem cU{B L:bw}(z:bf B 1000=some (.one 164 64 (p.mn a)))(h2:bn L B):bn (p.bq a++L) B:=⟨z,h2⟩
theorem Uh(h0:p.err=0){e:Int}(he:e≠0):(p.fail e).mn a=[.d (.sl (p.aF.map cu.enc)),dI (p.aO:Nat),dI e,dI (p.aO:Nat),dI (p.depth:Nat),dB a]:=by
 rw[show p.fail e={p with err:=e,pos:=p.tok.pos} from az h0]
 show [VV.d (.sl (p.aF.map cu.enc)),dI (p.aO:Nat),dI e,dI ((if e=0 then 0 else p.aO:Nat):Nat),dI (p.depth:Nat),dB a]=_
 rw[al he]
theorem uN(h0:p.err=0):p.step.mn a=[.d (.sl (p.aF.map cu.enc)),dI ((p.aO+1:Nat):Int),dI p.err,dI (p.ea:Nat),dI (p.depth:Nat),dB a]:=by
 show [VV.d (.sl (p.aF.map cu.enc)),dI ((p.aO+1:Nat):Int),dI p.err,dI ((if p.err=0 then 0 else p.aO+1:Nat):Nat),dI (p.depth:Nat),dB a]=_
 unfold PS.ea
 rw[az h0,az h0]
theorem PS.yi{k:Int}{s:List UInt8}(h:p.next k s=true):p.err=0:=by
 unfold PS.next at h
 simp only[fE,fx] at h
 exact h.1
theorem Vb(h0:¬p.err=0)(k:Int)(s:List UInt8):p.next k s=false:=by
 cases h:p.next k s
 ·rfl
 exact absurd (PS.yi h) h0
theorem sY(h0:¬p.err=0)(k:Int)(s:List UInt8):p.accept k s=(false,p):=al (by rw[Vb h0];decide)
theorem Ui(h0:¬p.err=0)(s:List UInt8):p.bc [s]=p:=by
 show p.gA s=p
 rw[PS.Bs (by rw[show p.keyword s=_ from sY h0 1 s]),show p.keyword s=_ from sY h0 1 s]
 exact al h0
theorem KR(h0:¬p.err=0)(s:List UInt8):p.bJ s=p:=by
 unfold PS.bJ
 rw[show p.sign s=_ from sY h0 5 s]
 exact al h0
structure kM(T:bd)(D:Rd):Prop where
 day:∀s:List UInt8,s.length≤200→Sound T 201 [dS s] fun r=>r= .tuple [dI (D.day s).1,dI (D.day s).2]
 iU:∀s:List UInt8,s.length≤200→Sound T 198 [dS s] fun r=>r= .tuple [.agg [dI (D.iU s).1.1,dI (D.iU s).1.2],dI (D.iU s).2]
 lC:∀s,(D.day s).1≤1000000
 int:∀(neg:Bool)s,D.int neg s=if(eE s:Int)<9223372036854775808∨(neg=true∧(eE s:Int)=9223372036854775808) then some (if neg=true then-(eE s:Int) else(eE s:Int)) else none
theorem mD{T:bd}(F:FT T){a:Bool}{p:PS}(hp:p.ok){e:Int}(he:e≠0):cg T 158 [.vp 1000 0,dI e] (PS.bq a p) fun r Bn=>r= .tuple []∧Bn=PS.bq a (p.fail e):=by
 refine cL F.abN aa (an 5 aa (aK aa (fun z=>?_) (fun z=>?_)))
 ·have h0:p.err=0:=by simpa using z
  refine an 5 aa (bC (ak 8 aa ?_))
  exact⟨_,PS.bq a (p.fail e),rfl,⟨by rw[Uh h0 he];rfl,trivial⟩,rfl,rfl⟩
 have h0:¬p.err=0:=by simpa using z
 have A:p.fail e=p:=al h0
 refine aQ ?_
 rw[A];exact⟨_,PS.bq a p,rfl,⟨rfl,trivial⟩,rfl,rfl⟩
theorem AL{T:bd}(F:FT T){a:Bool}{p:PS}(hp:p.ok)(k:Int)(s:List UInt8):cg T 196 [.vp 1000 0,dI k,dS s] (PS.bq a p) fun r Bn=>r=dB (p.next k s)∧Bn=PS.bq a p:=by
 refine cL F.ab7 aa ?_
 have A:(p.aF.map cu.enc)[p.aO]?=some p.tok.enc:=by rw[iJ,hp.get];rfl
 refine an 1 aa (eO (bD 6 aa (wN (g:=aU) aa (fun z=>?_) (fun z=>?_))))
 ·refine ey aa (z) (bY aa ?_)
  refine ey aa (z) (qc aa ?_)
  refine ey aa (z) (dD aa ?_)
  refine iR aa (z) aa (df aa aa aa ?_)
  refine ey aa (z) (bY aa ?_)
  refine ey aa (z) (qc aa ?_)
  refine ey aa (z) (dD aa ?_)
  refine iR aa (z) aa (df aa aa aa ?_)
  refine ey aa (z) (lF (row:=p.tok.enc) aa aa A aa ?_)
  refine ey aa (z) (oj aa ?_)
  refine iR aa (z) aa (km aa aa ?_)
  refine ey aa (z) (bY aa ?_)
  refine ey aa (z) (iC aa aa ?_)
  refine bG (c8 aa (z) aa ?_)
  refine bD 1 aa (wN (g:=bZ) aa (fun dr=>?_) (fun dr=>?_))
  ·refine ey aa (dr) (bY aa ?_)
   refine ey aa (dr) (qc aa ?_)
   refine ey aa (dr) (dD aa ?_)
   refine iR aa (dr) aa (df aa aa aa ?_)
   refine ey aa (dr) (bY aa ?_)
   refine ey aa (dr) (qc aa ?_)
   refine ey aa (dr) (dD aa ?_)
   refine iR aa (dr) aa (df aa aa aa ?_)
   refine ey aa (dr) (lF (row:=p.tok.enc) aa aa A aa ?_)
   refine ey aa (dr) (oj aa ?_)
   refine iR aa (dr) aa (km aa aa ?_)
   refine ey aa (dr) (bY aa ?_)
   refine ey aa (dr) (nL aa aa ?_)
   refine bG (c8 aa (dr) aa ?_)
   refine du 1 aa (ay (⟨_,PS.bq a p,aa,⟨aa,trivial⟩,?_,aa⟩))
   clear F hp A
   simp_all [gX,PS.next]
  refine dh aa (dr) (dh aa (dr) (dh aa (dr) (ji aa (dr) (dh aa (dr) (dh aa (dr) (dh aa (dr) (ji aa (dr) (dh aa (dr) (dh aa (dr) ?_)))))))))
  refine ji aa (dr) (dh aa (dr) (dh aa (dr) (bG (cS aa (dr) aa ?_))))
  refine du 1 aa (ay (⟨_,PS.bq a p,aa,⟨aa,trivial⟩,?_,aa⟩))
  clear F hp A
  simp_all [gX,PS.next]
 refine dh aa (z) (dh aa (z) (dh aa (z) (ji aa (z) (dh aa (z) (dh aa (z) (dh aa (z) (ji aa (z) (dh aa (z) (dh aa (z) ?_)))))))))
 refine ji aa (z) (dh aa (z) (dh aa (z) (bG (cS aa (z) aa ?_))))
 refine bD 1 aa (dh aa aa (dh aa aa (dh aa aa (ji aa aa (dh aa aa (dh aa aa (dh aa aa (ji aa aa (dh aa aa ?_)))))))))
 refine dh aa aa (ji aa aa (dh aa aa (dh aa aa (du 2 aa (ay (⟨_,PS.bq a p,aa,⟨aa,trivial⟩,?_,aa⟩))))))
 clear F hp A
 simp_all [gX,PS.next]
theorem gn{T:bd}(F:FT T){a:Bool}{p:PS}(hp:p.ok)(s:List UInt8):cg T 146 [.vp 1000 0,dS s] (PS.bq a p) fun r Bn=>r=dB (p.keyword s).1∧Bn=PS.bq a (p.keyword s).2:=by
 refine cL F.abC aa (an 1 aa (ai (ae 2 aa (bV (AL F hp 1 s) aa aa aa aa (ak 1 aa (aL (an 1 aa (aK aa (fun z=>?_) (fun z=>?_)))))))))
 ·have h0:=PS.yi z
  have ew:=PS.lQ hp aq z
  have fZ:=hp.eG
  have A:p.keyword s=(true,p.step):=az z
  refine bC (ae 4 aa (aj (cM aa aa ah ?_)))
  refine ak 3 aa (an 2 aa (ay ?_))
  exact⟨_,PS.bq a (p.keyword s).2,rfl,⟨by rw[A,uN h0];rfl,trivial⟩,by simp[gX,A,z],rfl⟩
 have A:p.keyword s=(false,p):=al (by rw[z];decide)
 refine aQ (an 2 aa (ay ?_))
 exact⟨_,PS.bq a (p.keyword s).2,rfl,⟨by rw[A];rfl,trivial⟩,by simp[gX,A,z],rfl⟩
theorem m7{T:bd}(F:FT T){a:Bool}{p:PS}(hp:p.ok)(s:List UInt8):cg T 151 [.vp 1000 0,dS s] (PS.bq a p) fun r Bn=>r=dB (p.sign s).1∧Bn=PS.bq a (p.sign s).2:=by
 refine cL F.abH aa (an 1 aa (ai (ae 2 aa (bV (AL F hp 5 s) aa aa aa aa (ak 1 aa (aL (an 1 aa (aK aa (fun z=>?_) (fun z=>?_)))))))))
 ·have h0:=PS.yi z
  have ew:=PS.lQ hp aq z
  have fZ:=hp.eG
  have A:p.sign s=(true,p.step):=az z
  refine bC (ae 4 aa (aj (cM aa aa ah ?_)))
  refine ak 3 aa (an 2 aa (ay ?_))
  exact⟨_,PS.bq a (p.sign s).2,rfl,⟨by rw[A,uN h0];rfl,trivial⟩,by simp[gX,A,z],rfl⟩
 have A:p.sign s=(false,p):=al (by rw[z];decide)
 refine aQ (an 2 aa (ay ?_))
 exact⟨_,PS.bq a (p.sign s).2,rfl,⟨by rw[A];rfl,trivial⟩,by simp[gX,A,z],rfl⟩
theorem jx{T:bd}(F:FT T){a:Bool}{p:PS}(hp:p.ok)(s:List UInt8):cg T 147 [.vp 1000 0,dS s] (PS.bq a p) fun r Bn=>r= .tuple []∧Bn=PS.bq a (p.bc [s]):=by
 refine cL F.abD aa (ai (ae 6 aa (dc (g:=aM) aa (fun z=>?_) (fun z=>?_))))
 ·refine aw aa (z) (bY aa ?_)
  refine aw aa (z) (bY aa ?_)
  refine aw aa (z) (xk (gn F hp s) aa aa aa aa ?_)
  refine aw aa (z) (j0 aa ?_)
  refine aj (c8 aa (z) aa ?_)
  refine aX (aK aa (fun A=>?_) (fun A=>?_))
  ·have hk:(p.keyword s).1=false:=by simpa using A
   have G:p.bc [s]=(p.keyword s).2.fail 5:=PS.Bs hk
   refine bC (ae 1 aa (bV (mD F (PS.xU hp s) aq) aa aa aa aa (aX ?_)))
   rw[G]
   exact⟨_,PS.bq a _,aa,⟨aa,trivial⟩,aa,aa⟩
  have hk:(p.keyword s).1=true:=by simpa using A
  have G:p.bc [s]=(p.keyword s).2:=PS.Ep hk
  refine aQ ?_
  rw[G]
  exact⟨_,PS.bq a _,aa,⟨aa,trivial⟩,aa,aa⟩
 have h0:¬p.err=0:=by simpa using z
 have G:p.bc [s]=p:=Ui h0 s
 refine aY aa (z) (aY aa (z) (aY aa (z) (aY aa (z) (aj (cS aa (z) aa ?_)))))
 refine aX (ef aa aa (aQ ?_))
 rw[G]
 exact⟨_,PS.bq a _,aa,⟨aa,trivial⟩,aa,aa⟩
theorem pv{T:bd}(F:FT T){a:Bool}{p:PS}(hp:p.ok)(s:List UInt8):cg T 149 [.vp 1000 0,dS s] (PS.bq a p) fun r Bn=>r= .tuple []∧Bn=PS.bq a (p.bJ s):=by
 refine cL F.abF aa (ai (ae 6 aa (dc (g:=aM) aa (fun z=>?_) (fun z=>?_))))
 ·refine aw aa (z) (bY aa ?_)
  refine aw aa (z) (bY aa ?_)
  refine aw aa (z) (xk (m7 F hp s) aa aa aa aa ?_)
  refine aw aa (z) (j0 aa ?_)
  refine aj (c8 aa (z) aa ?_)
  refine aX (aK aa (fun A=>?_) (fun A=>?_))
  ·have hk:(p.sign s).1=false:=by simpa using A
   have G:p.bJ s=(p.sign s).2.fail 5:=al (by rw[hk];decide)
   refine bC (ae 1 aa (bV (mD F (PS.Bt hp s) aq) aa aa aa aa (aX ?_)))
   rw[G]
   exact⟨_,PS.bq a _,aa,⟨aa,trivial⟩,aa,aa⟩
  have hk:(p.sign s).1=true:=by simpa using A
  have G:p.bJ s=(p.sign s).2:=az hk
  refine aQ ?_
  rw[G]
  exact⟨_,PS.bq a _,aa,⟨aa,trivial⟩,aa,aa⟩
 have h0:¬p.err=0:=by simpa using z
 have G:p.bJ s=p:=KR h0 s
 refine aY aa (z) (aY aa (z) (aY aa (z) (aY aa (z) (aj (cS aa (z) aa ?_)))))
 refine aX (ef aa aa (aQ ?_))
 rw[G]
 exact⟨_,PS.bq a _,aa,⟨aa,trivial⟩,aa,aa⟩
theorem w5{T:bd}(F:FT T){a:Bool}{p:PS}(hp:p.ok){k:Int}(mv:k≠6):cg T 148 [.vp 1000 0,dI k] (PS.bq a p) fun r Bn=>r=dS (p.take k 0).1∧Bn=PS.bq a (p.take k 0).2:=by
 refine cL F.abE aa ?_
 have z:(p.aF.map cu.enc)[p.aO]?=some p.tok.enc:=by rw[iJ,hp.get];rfl
 refine an 1 aa (aL (an 5 aa (aK aa (fun I=>?_) (fun I=>?_))))
 ·have h0:¬p.err=0:=by simpa using I
  have G:p.take k 0=([],p):=by unfold PS.take;rw[al h0]
  refine an 1 aa (ay ?_)
  rw[G]
  exact⟨_,PS.bq a _,aa,⟨aa,trivial⟩,aa,aa⟩
 have h0:p.err=0:=by simpa using I
 refine aQ (aL (eO (bD 8 aa (bG (lF (row:=p.tok.enc) aa aa z aa ?_)))))
 refine bD 3 aa (bG (iV aa aa ?_))
 refine ow (aK aa (fun A=>?_) (fun A=>?_))
 ·have hk:¬p.tok.kind=k:=by simpa using A
  have G:p.take k 0=([],p.fail 5):=by unfold PS.take;rw[az h0,al hk]
  refine ai (ae 1 aa (bV (mD F hp aq) aa aa aa aa (aX (an 1 aa (ay ?_)))))
  rw[G]
  exact⟨_,PS.bq a _,aa,⟨aa,trivial⟩,aa,aa⟩
 have hk:p.tok.kind=k:=by simpa using A
 have ew:=PS.mc hp mv hk
 have fZ:=hp.eG
 have G:p.take k 0=(p.tok.text,p.step):=by unfold PS.take;rw[az h0,az hk,az rfl]
 have J:((p.aO+1:Nat):Int) -Int.ofNat 1=((p.aO:Nat):Int):=by simp only[bN];omega
 refine aQ (ai (ae 4 aa (aj (cM aa aa ah ?_))))
 refine ak 3 aa (eO (bD 8 aa ?_))
 refine bG (f3 rfl rfl (by simp only[bN];omega) (by simp only[bN];omega) ?_)
 rw[J]
 refine bG (lF (row:=p.tok.enc) aa aa z aa ?_)
 refine du 3 aa (ay ?_)
 rw[G]
 exact⟨_,PS.bq a p.step,rfl,⟨by rw[uN h0];rfl,trivial⟩,rfl,rfl⟩
theorem PR{T:bd}(F:FT T){a:Bool}{p:PS}(hp:p.ok)(h0:p.err=0)(ew:p.aO+1<p.aF.length):cg T 275 [.vp 1000 0] (PS.bq a p) fun r Bn=>r=dB p.enter.1∧Bn=PS.bq a (if p.enter.1=true then p.enter.2.step else p.enter.2):=by
 refine cL F.acT aa (an 1 aa (aL (an 5 aa (aK aa (fun z=>?_) (fun z=>?_)))))
 ·have A:p.depth=60:=by have:=hp.lC;simp at z;omega
  have G:p.enter=(false,p.fail 19):=az A
  refine ai (ae 1 aa (bV (mD F hp aq) aa aa aa aa (aX (an 1 aa (ay ?_)))))
  rw[G]
  exact⟨_,PS.bq a (p.fail 19),aa,⟨aa,trivial⟩,aa,aa⟩
 have A:¬p.depth=60:=by simp at z;omega
 have hle:=hp.lC
 have fZ:=hp.eG
 have G:p.enter=(true,{p with depth:=p.depth+1}):=al A
 refine aQ (ai (ae 4 aa (aj (cM aa aa ah ?_))))
 refine ak 3 aa (ai (ae 4 aa (aj (cM aa aa ah ?_))))
 refine ak 3 aa (an 1 aa (ay ?_))
 rw[G]
 exact⟨_,PS.bq a (PS.step {p with depth:=p.depth+1}),rfl,⟨by rw[uN (p:={p with depth:=p.depth+1}) h0];rfl,trivial⟩,rfl,rfl⟩
theorem I7{n:Int}{m:Nat}(h:n=(m:Int))(z:m<18446744073709551616):IntKind.u64.wrap n=(m:Int):=by
 subst h
 simp[IntKind.wrap,IntKind.bits,IntKind.signed]
 omega
theorem Yp{c:UInt8}(h:48≤c.toNat∧c.toNat≤57):IntKind.u8.wrap ((c.toNat:Int) -(Int.ofNat 48))=((c.toNat-48:Nat):Int):=by
 simp[IntKind.wrap,IntKind.bits,IntKind.signed]
 omega
theorem SV{s:List UInt8}{i:Nat}{c:UInt8}(h:s[i]?=some c):eE (s.take (i+1))=eE (s.take i)*10+(c.toNat-48):=by
 rw[yR,h]
 unfold eE
 rw[yS]
 rfl
theorem Lt{s:List UInt8}(z:∀c,c∈s→48≤c.toNat∧c.toNat≤57):eE s<10^s.length:=by
 have aux:∀(s:List UInt8)(n:Nat),(∀c,c∈s→48≤c.toNat∧c.toNat≤57)→s.foldl (fun n c=>n*10+(c.toNat-48)) n<(n+1)*10^s.length:=by
  intro s
  induction s with
  |nil=>intro n _;simp
  |cons c r G=>
   intro n A
   have J:=A c (lh ..)
   have h2:=G (n*10+(c.toNat-48)) fun d z=>A d (oR _ z)
   have I:(n*10+(c.toNat-48)+1)*10^r.length≤((n+1)*10)*10^r.length:=lK _ ah
   calc _<_:=h2
    _≤_:=I
    _=(n+1)*10^(r.length+1):=by rw[z7,Co,ny 10]
 have:=aux s 0 z
 rw[jR,tT] at this
 exact this
theorem Sf{s:List UInt8}(h:om s){i:Nat}(hi:i<s.length):eE (s.take i)<10^18:=by
 have z:=Lt (s:=s.take i) fun c A=>h.2.2 c (Cu A)
 rw[jH] at z
 have h2:10^min i s.length≤10^18:=Cq aq (by have:=h.2.1;omega)
 omega
theorem Wk{T:bd}(F:FT T){s:List UInt8}(z:om s):cg T 202 [dS s] [] fun r Bn=>r= .d (.i .u64 (eE s:Nat))∧Bn=[]:=by
 refine cL F.ace aa (an 1 aa (an 1 aa (aL (an 1 aa (bM (d7 (fun k VE B=>∃i:Nat,i≤s.length∧k=s.length-i∧bn [(0,dS s),(3,.d (.i .u64 (eE (s.take i):Nat))),(4,dI (i:Nat))] VE∧bn [] B) ?_ (k:=s.length) ⟨0,dp _,aa,⟨aa,aa,aa,trivial⟩,trivial⟩))))))
 rintro k VE B⟨i,hi,rfl,K,O⟩
 refine db _ _ K O (aL (an 4 aa (aK aa (fun A=>?_) (fun A=>?_))))
 ·have ew:i<s.length:=by simpa using A
  obtain⟨c,G⟩:∃c,s[i]?=some c:=⟨_,fe ew⟩
  have U:=Sf z ew
  have I:=z.2.2 c (lJ G)
  refine aQ (aL (bM (bC (ae 1 aa (aj (Nt aa aa ?_))))))
  rw[I7 (m:=eE (s.take i)*10) (by simp only[bN];omega) ah]
  refine ae 2 aa (aj (fR aa aa G ?_))
  refine aj (H3 aa aa ?_)
  rw[Yp I]
  refine ae 1 aa ?_
  rw[I7 (m:=c.toNat-48) rfl ah]
  refine aj (uX aa aa ?_)
  rw[I7 (m:=eE (s.take i)*10+(c.toNat-48)) ah ah]
  refine ak 1 aa (bC (ae 1 aa ?_))
  refine aj (cM rfl rfl (by have:=z.2.1;omega) ?_)
  refine ak 1 aa (⟨s.length-(i+1),ah,i+1,ah,aa,⟨aa,?_,aa,trivial⟩,trivial⟩)
  rw[SV G];rfl
 have J:s.length≤i:=by simpa using A
 refine dJ (an 2 aa (ay ?_))
 rw[pR J]
 exact⟨_,[],aa,trivial,aa,aa⟩
variable{p:PS}{a:Bool}{D:Rd}
theorem u6{k:Int}(z:p.err=0)(h2:p.tok.kind=k):p.take k 0=(p.tok.text,p.step):=by unfold PS.take;rw[az z,az h2,az rfl]
theorem Bv{k:Int}(h:(p.take k 0).2.err=0):p.err=0∧p.tok.kind=k:=by
 unfold PS.take at h
 split at h
 ·rename_i z
  split at h
  ·rename_i h2;exact⟨z,h2⟩
  rw[show(p.fail 5).err=5 by unfold PS.fail;rw[az z]] at h;cases h
 rename_i z;exact absurd h z
theorem A'{k e:Int}(h:¬(p.take k 0).2.err=0):p.take k e=([],(p.take k 0).2)∧p.called k=false:=by
 by_cases z:p.err=0
 ·by_cases h2:p.tok.kind=k
  ·rw[u6 z h2] at h;exact absurd z h
  exact⟨by unfold PS.take;rw[az z,al h2,az z,al h2],by unfold PS.called;rw[decide_eq_false h2,Bool.and_false]⟩
 exact⟨by unfold PS.take;rw[al z,al z],by unfold PS.called;rw[decide_eq_false z];rfl⟩
theorem DU{k:Int}(h:p.called k=true):p.err=0∧p.tok.kind=k:=by
 unfold PS.called at h
 simpa using h
theorem D3{k e:Int}(z:p.called k=true)(he:e≠0):p.take k e=([],p.fail e):=by
 obtain⟨A,h2⟩:=DU z
 unfold PS.take;rw[az A,az h2,al he]
theorem wP{e:Int}(z:p.err=0):(p.fail e).err=e:=by unfold PS.fail;rw[az z]
theorem Tx{l:Int}(h:¬(p.take 3 0).2.err=0):p.number l=(0,(p.take 3 0).2):=by
 unfold PS.number
 rw[(A' h).1,(A' (e:=0) h).2]
 rfl
theorem Lu{l:Int}(z:p.called 3=true)(A:mW l p.tok.text=10):p.number l=(0,p.fail 10):=by
 unfold PS.number
 rw[A,D3 z aq,al (fun k=>absurd k.2 aq)]
theorem Wl(h:¬(p.take 4 0).2.err=0):(p.day D).2=(p.take 4 0).2:=by unfold PS.day;rw[(A' h).1]
theorem HJ(z:p.called 4=true)(A:p.take 4 0=(p.tok.text,p.step))(G:D.kr p.tok.text=0):p.day D=((D.day p.tok.text).1,p.step):=by unfold PS.day;rw[G,A,az z]
theorem Et{e:Int}(A:p.called 4=true)(G:D.kr p.tok.text=e)(z:¬D.kr p.tok.text=0):(p.day D).2=p.fail e:=by unfold PS.day;rw[D3 A z,G]
theorem G4{e:Int}(A:p.called 4=true)(G:D.kr p.tok.text=e)(z:¬D.kr p.tok.text=0):¬(p.day D).2.err=0:=by
 rw[Et A G z,wP (DU A).1,←G];exact z
theorem Ty(h:¬(p.take 4 0).2.err=0):(p.period D).2=(p.take 4 0).2:=by unfold PS.period;rw[(A' h).1]
theorem SW(z:p.called 4=true)(A:p.take 4 0=(p.tok.text,p.step))(G:(D.iU p.tok.text).2=0):p.period D=((D.iU p.tok.text).1,p.step):=by unfold PS.period;rw[G,A,az z]
theorem Lv(A:p.called 4=true)(z:¬(D.iU p.tok.text).2=0):(p.period D).2=p.fail (D.iU p.tok.text).2:=by unfold PS.period;rw[D3 A z]
theorem Sg(A:p.called 4=true)(z:¬(D.iU p.tok.text).2=0):¬(p.period D).2.err=0:=by
 rw[Lv A z,wP (DU A).1];exact z
theorem sV(h0:p.err=0):p.mn a=[.d (.sl (p.aF.map cu.enc)),dI (p.aO:Nat),dI p.err,dI (p.step.ea:Nat),dI (p.depth:Nat),dB a]:=by
 show [VV.d (.sl (p.aF.map cu.enc)),dI (p.aO:Nat),dI p.err,dI ((if p.err=0 then 0 else p.aO:Nat):Nat),dI (p.depth:Nat),dB a]=[VV.d (.sl (p.aF.map cu.enc)),dI (p.aO:Nat),dI p.err,dI ((if p.err=0 then 0 else p.aO+1:Nat):Nat),dI (p.depth:Nat),dB a]
 rw[az h0,az h0]
theorem HK{T:bd}(F:FT T){s:List UInt8}(z:om s):Sound T 202 [dS s] fun r=>r= .d (.i .u64 (eE s:Nat)):=cg.mono (Wk F z) fun v B h=>⟨by rw[h.1];trivial,h.1⟩
end Go.Ev.Pp
