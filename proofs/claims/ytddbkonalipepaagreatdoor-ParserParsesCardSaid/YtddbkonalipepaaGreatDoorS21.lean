/- Part 21 of rules for walks through the code of a program, and of such walks; what each part proves is said by its theorems. -/
import Derived.Test.YtddbkonalipepaaGreatDoorS20
set_option linter.unusedVariables false
set_option linter.unusedSimpArgs false
namespace Go.Ev.Pp
open Go
set_option maxRecDepth 10000
set_option maxHeartbeats 8000000 in
theorem Ua{T:bf}(F:FT T){a:Bool}{p:PS}(hp:bd p):bV T 132 [.vp 1000 0] (PS.bq a (p.aU [c6])) fun r Bn=>r=ep p.create.1.enc∧Bn=PS.bq a p.create.2:=by
 refine cl F.YN aa ?_
 have hu:=(hp.dD [c6]).top
 have h1:=hu.name.trans (hu.name.top.gP cg)
 have oa:∀p,bd p→bO p (PS.column p).2:=fun _ h=>h.column
 refine ak 1 aa (ak 3 aa (ai (ae 1 aa (bH (kM F hu.ok) aa aa aa aa (ae 2 aa (af ?_))))))
 refine ai (ae 1 aa (bH (oh F hu.name.ok cg) aa aa aa aa (mW 3 14 1101 77 32 3 aa aa aa (mW 3 16 1102 79 64 3 aa aa aa (mW 3 17 1103 81 32 2 aa aa aa (af (eU (bm 3 aa (yu (FA F h1.top) aa aa aa aa aa ?_)))))))))
 refine bm 1 aa ?_
 refine eJ rfl (eu (rows:=[]) (ys:=[cP ((p.aU [c6]).name.2.bw cg).column.1]) rfl rfl rfl (.bs (rows:=[cP ((p.aU [c6]).name.2.bw cg).column.1]) rfl) (bS rfl) (by simp only[bJ,dj,dJ];omega) (fun h=>rfl) (fun h=>rfl) ?_)
 refine bm 2 aa (da ?_)
 refine aM (bN (d7 (fun k VE B=>∃(l:List _)(q:PS),kv PS.column k l q=(je PS.column ((p.aU [c6]).name.2.bw cg))∧l≠[]∧l.length≤q.aI+1∧((p.aU [c6]).name.2.bw cg).ay.length≤k+q.aI∧bO ((p.aU [c6]).name.2.bw cg) q∧bu [(0,.vp 1000 0),(2,.vp 2 0),(3,.vp 3 0)] VE∧bu (PS.bq a q++[(3,.one 38 328 [dI 5,d0,d0,d0,dN,dN,dS (p.aU [c6]).name.1,dS [],dN,d0,d0,dN,d0,dN,.ac 1101 (l.map cP).length 3,dN,.ac 1102 (([]:List Fk).map Fk.enc).length 3,.ac 1103 (([]:List (Int×List (List UInt8))).map dQ).length 2,d0,d0,d0]),(1101,.acc 77 32 3 (l.map cP)),(1102,.acc 79 64 3 (([]:List Fk).map Fk.enc)),(1103,.acc 81 32 2 (([]:List (Int×List (List UInt8))).map dQ)),(2,.one 38 328 [d0,d0,d0,d0,dN,dN,dS [],dS [],dN,d0,d0,dN,d0,dN,dN,dN,dN,dN,d0,d0,d0])]) B) ?_ (k:=((p.aU [c6]).name.2.bw cg).ay.length) ⟨[(PS.column ((p.aU [c6]).name.2.bw cg)).1],(PS.column ((p.aU [c6]).name.2.bw cg)).2,aa,pK _ _,mD (dh _),jP _ _,oa _ h1.top,⟨aa,aa,aa,trivial⟩,cG aa ⟨aa,aa,aa,aa,aa,trivial⟩⟩))
 rintro k VE B⟨l,q,Z,lk,jk,hk,hq,hV,U⟩
 refine ey (PS.bq a q++[(3,.one 38 328 [dI 5,d0,d0,d0,dN,dN,dS (p.aU [c6]).name.1,dS [],dN,d0,d0,dN,d0,dN,.ac 1101 (l.map cP).length 3,dN,.ac 1102 (([]:List Fk).map Fk.enc).length 3,.ac 1103 (([]:List (Int×List (List UInt8))).map dQ).length 2,d0,d0,d0]),(1101,.acc 77 32 3 (l.map cP)),(1102,.acc 79 64 3 (([]:List Fk).map Fk.enc)),(1103,.acc 81 32 2 (([]:List (Int×List (List UInt8))).map dQ)),(2,.one 38 328 [d0,d0,d0,d0,dN,dN,dS [],dS [],dN,d0,d0,dN,d0,dN,dN,dN,dN,dN,d0,d0,d0])]) U ?_
 have U:bu (PS.bq a q++[(3,.one 38 328 [dI 5,d0,d0,d0,dN,dN,dS (p.aU [c6]).name.1,dS [],dN,d0,d0,dN,d0,dN,.ac 1101 (l.map cP).length 3,dN,.ac 1102 (([]:List Fk).map Fk.enc).length 3,.ac 1103 (([]:List (Int×List (List UInt8))).map dQ).length 2,d0,d0,d0]),(1101,.acc 77 32 3 (l.map cP)),(1102,.acc 79 64 3 (([]:List Fk).map Fk.enc)),(1103,.acc 81 32 2 (([]:List (Int×List (List UInt8))).map dQ)),(2,.one 38 328 [d0,d0,d0,d0,dN,dN,dS [],dS [],dN,d0,d0,dN,d0,dN,dN,dN,dN,dN,d0,d0,d0])]) (PS.bq a q++[(3,.one 38 328 [dI 5,d0,d0,d0,dN,dN,dS (p.aU [c6]).name.1,dS [],dN,d0,d0,dN,d0,dN,.ac 1101 (l.map cP).length 3,dN,.ac 1102 (([]:List Fk).map Fk.enc).length 3,.ac 1103 (([]:List (Int×List (List UInt8))).map dQ).length 2,d0,d0,d0]),(1101,.acc 77 32 3 (l.map cP)),(1102,.acc 79 64 3 (([]:List Fk).map Fk.enc)),(1103,.acc 81 32 2 (([]:List (Int×List (List UInt8))).map dQ)),(2,.one 38 328 [d0,d0,d0,d0,dN,dN,dS [],dS [],dN,d0,d0,dN,d0,dN,dN,dN,dN,dN,d0,d0,d0])]):=cG rfl ⟨rfl,rfl,rfl,rfl,rfl,trivial⟩
 have gh:q.ay.length=((p.aU [c6]).name.2.bw cg).ay.length:=by rw[hq.ay]
 refine dy _ _ hV U (aM (ai (ae 1 aa (bH (mj F hq.ok cE) aa aa aa aa (af (aJ aa (fun sW=>?_) (fun sW=>?_)))))))
 ·have h2:=hq.top.sign cE
  have pc:=ot hq.ok sW
  have fi:=hq.ok.dY
  obtain⟨k,rfl⟩:∃k',k=k'+1:=⟨k-1,by have:=pc.2;omega⟩
  rw[ou sW] at Z
  have h3:=h2.trans (oa _ h2.top)
  refine aT (bN (iK (bm 3 aa (yu (FA F h2.top) aa aa aa aa aa (bm 1 aa ?_)))))
  refine eJ rfl (eu (rows:=l.map cP) (ys:=[cP (PS.column (q.sign cE).2).1]) rfl rfl rfl (.bs (rows:=[cP (PS.column (q.sign cE).2).1]) rfl) (bS rfl) (by simp only[bJ,cF,dj,dJ];omega) (fun h=>by rw[h];rfl) (fun h=>by rw[h];rfl) ?_)
  refine bm 2 aa (da ?_)
  refine⟨k,fS k,l++[(PS.column (q.sign cE).2).1],(PS.column (q.sign cE).2).2,Z,mh lk _,?_,?_,hq.trans h3,?_,?_⟩
  ·have:=h3.aI;have:=pc.1;have:=(oa _ h2.top).aI;rw[bJ,eG];show l.length+1≤(PS.column (q.sign cE).2).2.aI+1;omega
  ·have:=(oa _ h2.top).aI;have:=pc.1;show((p.aU [c6]).name.2.bw cg).ay.length≤k+(PS.column (q.sign cE).2).2.aI;omega
  ·try simp only[dX,ez,fw]
   exact⟨aa,aa,aa,trivial⟩
  try simp only[dX,ez,fw]
  exact cG aa ⟨aa,aa,aa,aa,aa,trivial⟩
 rw[ov sW] at Z
 rw[PS.ic sW]
 refine dM (ai (ae 1 aa (bH (oh F hq.ok dG) aa aa aa aa ?_)))
 have jb:p.sB=(l,q):=Z.symm
 have rz:q.bw dG=p.il:=by unfold PS.il;rw[jb]
 have PM:bO p p.il:=hp.il
 rw[rz]
 refine af (zV (fun VE B=>∃(O:List (List UInt8))(q2:PS),p.il.key=(O,q2)∧bu [(0,.vp 1000 0),(2,.vp 2 0),(3,.vp 3 0)] VE∧bu (PS.bq a q2++[(3,.one 38 328 [dI 5,d0,d0,d0,dN,dN,dS (p.aU [c6]).name.1,dS [],dN,d0,d0,dN,d0,dN,.ac 1101 (l.map cP).length 3,.d (fP O),.ac 1102 (([]:List Fk).map Fk.enc).length 3,.ac 1103 (([]:List (Int×List (List UInt8))).map dQ).length 2,d0,d0,d0]),(1101,.acc 77 32 3 (l.map cP)),(1102,.acc 79 64 3 (([]:List Fk).map Fk.enc)),(1103,.acc 81 32 2 (([]:List (Int×List (List UInt8))).map dQ)),(2,.one 38 328 [d0,d0,d0,d0,dN,dN,dS [],dS [],dN,d0,d0,dN,d0,dN,dN,dN,dN,dN,d0,d0,d0])]) B) ?_ ?_)
 ·rintro VE B⟨O,q2,EL,hV,U⟩
  refine ey (PS.bq a q2++[(3,.one 38 328 [dI 5,d0,d0,d0,dN,dN,dS (p.aU [c6]).name.1,dS [],dN,d0,d0,dN,d0,dN,.ac 1101 (l.map cP).length 3,.d (fP O),.ac 1102 (([]:List Fk).map Fk.enc).length 3,.ac 1103 (([]:List (Int×List (List UInt8))).map dQ).length 2,d0,d0,d0]),(1101,.acc 77 32 3 (l.map cP)),(1102,.acc 79 64 3 (([]:List Fk).map Fk.enc)),(1103,.acc 81 32 2 (([]:List (Int×List (List UInt8))).map dQ)),(2,.one 38 328 [d0,d0,d0,d0,dN,dN,dS [],dS [],dN,d0,d0,dN,d0,dN,dN,dN,dN,dN,d0,d0,d0])]) U ?_
  have U:bu (PS.bq a q2++[(3,.one 38 328 [dI 5,d0,d0,d0,dN,dN,dS (p.aU [c6]).name.1,dS [],dN,d0,d0,dN,d0,dN,.ac 1101 (l.map cP).length 3,.d (fP O),.ac 1102 (([]:List Fk).map Fk.enc).length 3,.ac 1103 (([]:List (Int×List (List UInt8))).map dQ).length 2,d0,d0,d0]),(1101,.acc 77 32 3 (l.map cP)),(1102,.acc 79 64 3 (([]:List Fk).map Fk.enc)),(1103,.acc 81 32 2 (([]:List (Int×List (List UInt8))).map dQ)),(2,.one 38 328 [d0,d0,d0,d0,dN,dN,dS [],dS [],dN,d0,d0,dN,d0,dN,dN,dN,dN,dN,d0,d0,d0])]) (PS.bq a q2++[(3,.one 38 328 [dI 5,d0,d0,d0,dN,dN,dS (p.aU [c6]).name.1,dS [],dN,d0,d0,dN,d0,dN,.ac 1101 (l.map cP).length 3,.d (fP O),.ac 1102 (([]:List Fk).map Fk.enc).length 3,.ac 1103 (([]:List (Int×List (List UInt8))).map dQ).length 2,d0,d0,d0]),(1101,.acc 77 32 3 (l.map cP)),(1102,.acc 79 64 3 (([]:List Fk).map Fk.enc)),(1103,.acc 81 32 2 (([]:List (Int×List (List UInt8))).map dQ)),(2,.one 38 328 [d0,d0,d0,d0,dN,dN,dS [],dS [],dN,d0,d0,dN,d0,dN,dN,dN,dN,dN,d0,d0,d0])]):=cG rfl ⟨rfl,rfl,rfl,rfl,rfl,trivial⟩
  have gq2:bO p q2:=by have:=hp.x7;rw[EL] at this;exact this
  refine dy _ _ hV U (aM (bN ?_))
  refine d7 (fun k VE B=>∃(lf:List Fk)(qf:PS),o5 k lf qf=p.o6∧lf.length≤qf.aI+1∧p.ay.length≤k+qf.aI∧bO p qf∧bu [(0,.vp 1000 0),(2,.vp 2 0),(3,.vp 3 0)] VE∧bu (PS.bq a qf++[(3,.one 38 328 [dI 5,d0,d0,d0,dN,dN,dS (p.aU [c6]).name.1,dS [],dN,d0,d0,dN,d0,dN,.ac 1101 (l.map cP).length 3,.d (fP O),.ac 1102 (lf.map Fk.enc).length 3,.ac 1103 (([]:List (Int×List (List UInt8))).map dQ).length 2,d0,d0,d0]),(1101,.acc 77 32 3 (l.map cP)),(1102,.acc 79 64 3 (lf.map Fk.enc)),(1103,.acc 81 32 2 (([]:List (Int×List (List UInt8))).map dQ)),(2,.one 38 328 [d0,d0,d0,d0,dN,dN,dS [],dS [],dN,d0,d0,dN,d0,dN,dN,dN,dN,dN,d0,d0,d0])]) B) ?_ (k:=p.ay.length) ⟨[],q2,by unfold PS.o6;rw[EL],dh _,jP _ _,gq2,⟨rfl,rfl,rfl,trivial⟩,cG rfl ⟨rfl,rfl,rfl,rfl,rfl,trivial⟩⟩
  rintro k VE B⟨lf,qf,A,jk,hk,Y,hV,U⟩
  refine ey (PS.bq a qf++[(3,.one 38 328 [dI 5,d0,d0,d0,dN,dN,dS (p.aU [c6]).name.1,dS [],dN,d0,d0,dN,d0,dN,.ac 1101 (l.map cP).length 3,.d (fP O),.ac 1102 (lf.map Fk.enc).length 3,.ac 1103 (([]:List (Int×List (List UInt8))).map dQ).length 2,d0,d0,d0]),(1101,.acc 77 32 3 (l.map cP)),(1102,.acc 79 64 3 (lf.map Fk.enc)),(1103,.acc 81 32 2 (([]:List (Int×List (List UInt8))).map dQ)),(2,.one 38 328 [d0,d0,d0,d0,dN,dN,dS [],dS [],dN,d0,d0,dN,d0,dN,dN,dN,dN,dN,d0,d0,d0])]) U ?_
  have U:bu (PS.bq a qf++[(3,.one 38 328 [dI 5,d0,d0,d0,dN,dN,dS (p.aU [c6]).name.1,dS [],dN,d0,d0,dN,d0,dN,.ac 1101 (l.map cP).length 3,.d (fP O),.ac 1102 (lf.map Fk.enc).length 3,.ac 1103 (([]:List (Int×List (List UInt8))).map dQ).length 2,d0,d0,d0]),(1101,.acc 77 32 3 (l.map cP)),(1102,.acc 79 64 3 (lf.map Fk.enc)),(1103,.acc 81 32 2 (([]:List (Int×List (List UInt8))).map dQ)),(2,.one 38 328 [d0,d0,d0,d0,dN,dN,dS [],dS [],dN,d0,d0,dN,d0,dN,dN,dN,dN,dN,d0,d0,d0])]) (PS.bq a qf++[(3,.one 38 328 [dI 5,d0,d0,d0,dN,dN,dS (p.aU [c6]).name.1,dS [],dN,d0,d0,dN,d0,dN,.ac 1101 (l.map cP).length 3,.d (fP O),.ac 1102 (lf.map Fk.enc).length 3,.ac 1103 (([]:List (Int×List (List UInt8))).map dQ).length 2,d0,d0,d0]),(1101,.acc 77 32 3 (l.map cP)),(1102,.acc 79 64 3 (lf.map Fk.enc)),(1103,.acc 81 32 2 (([]:List (Int×List (List UInt8))).map dQ)),(2,.one 38 328 [d0,d0,d0,d0,dN,dN,dS [],dS [],dN,d0,d0,dN,d0,dN,dN,dN,dN,dN,d0,d0,d0])]):=cG rfl ⟨rfl,rfl,rfl,rfl,rfl,trivial⟩
  have gh:qf.ay.length=p.ay.length:=by rw[Y.ay]
  have fi:=Y.ok.dY
  have yw:=Y.ok.lt
  refine dy _ _ hV U (aM (ai (ae 1 aa (bH (fC F Y.ok lP) aa aa aa aa (af (aJ aa (fun Bw=>?_) (fun Bw=>?_)))))))
  ·have mU:=y5 Bw
   obtain⟨k,rfl⟩:∃k',k=k'+1:=⟨k-1,by omega⟩
   rw[GP Bw] at A
   have I:=Y.top.kw lP
   generalize (qf.keyword lP).2=r at mU A I⊢
   have g1:=I.top.names
   have g2:=g1.top.dD [yQ]
   have g3:=g2.top.name
   refine aT (bN (ai (ae 1 aa (bH (zU F I.top) aa aa aa aa (ae 3 aa (af ?_))))))
   refine ai (ae 1 aa (bH (iY F g1.ok yQ) aa aa aa aa (af (ai (ae 1 aa (bH (kM F g2.ok) aa aa aa aa (ae 2 aa (af ?_))))))))
   refine ai (ae 1 aa (bH (zU F g3.top) aa aa aa aa (ae 2 aa (af ?_))))
   refine bG (ae 4 aa ?_)
   refine al (eu (rows:=lf.map Fk.enc) (ys:=[r.fk.1.enc]) rfl rfl rfl (.bs (rows:=[r.fk.1.enc]) rfl) (bS rfl) (by rw[bJ,cF];simp only[dj,dJ];omega) (fun h=>by rw[h];rfl) (fun h=>by rw[h];rfl) ?_)
   refine ae 2 aa (af ?_)
   refine⟨k,fS k,lf++[r.fk.1],r.fk.2,A,?_,?_,Y.trans (I.trans I.top.fk),⟨aa,aa,aa,trivial⟩,?_⟩
   ·have:=I.top.fk.aI;rw[bJ,eG];omega
   ·have:=I.top.fk.aI;omega
   simp only[dX,ez,fw];exact cG rfl ⟨rfl,rfl,rfl,rfl,rfl,trivial⟩
  rw[GQ Bw] at A
  rw[PS.cK Bw]
  refine dM (aM (bN ?_))
  refine d7 (fun k VE B=>∃(K:List (Int×List (List UInt8)))(G:PS),nL k K G=p.uO∧K.length≤G.aI+1∧p.ay.length≤k+G.aI∧bO p G∧bu [(0,.vp 1000 0),(2,.vp 2 0),(3,.vp 3 0)] VE∧bu (PS.bq a G++[(3,.one 38 328 [dI 5,d0,d0,d0,dN,dN,dS (p.aU [c6]).name.1,dS [],dN,d0,d0,dN,d0,dN,.ac 1101 (l.map cP).length 3,.d (fP O),.ac 1102 (lf.map Fk.enc).length 3,.ac 1103 (K.map dQ).length 2,d0,d0,d0]),(1101,.acc 77 32 3 (l.map cP)),(1102,.acc 79 64 3 (lf.map Fk.enc)),(1103,.acc 81 32 2 (K.map dQ)),(2,.one 38 328 [d0,d0,d0,d0,dN,dN,dS [],dS [],dN,d0,d0,dN,d0,dN,dN,dN,dN,dN,d0,d0,d0])]) B) ?_ (k:=p.ay.length) ⟨[],qf,by unfold PS.uO;rw[←A],dh _,jP _ _,Y,⟨rfl,rfl,rfl,trivial⟩,cG rfl ⟨rfl,rfl,rfl,rfl,rfl,trivial⟩⟩
  clear jk hk
  rintro k VE B⟨K,G,z,jk,hk,J,hV,U⟩
  refine ey (PS.bq a G++[(3,.one 38 328 [dI 5,d0,d0,d0,dN,dN,dS (p.aU [c6]).name.1,dS [],dN,d0,d0,dN,d0,dN,.ac 1101 (l.map cP).length 3,.d (fP O),.ac 1102 (lf.map Fk.enc).length 3,.ac 1103 (K.map dQ).length 2,d0,d0,d0]),(1101,.acc 77 32 3 (l.map cP)),(1102,.acc 79 64 3 (lf.map Fk.enc)),(1103,.acc 81 32 2 (K.map dQ)),(2,.one 38 328 [d0,d0,d0,d0,dN,dN,dS [],dS [],dN,d0,d0,dN,d0,dN,dN,dN,dN,dN,d0,d0,d0])]) U ?_
  have U:bu (PS.bq a G++[(3,.one 38 328 [dI 5,d0,d0,d0,dN,dN,dS (p.aU [c6]).name.1,dS [],dN,d0,d0,dN,d0,dN,.ac 1101 (l.map cP).length 3,.d (fP O),.ac 1102 (lf.map Fk.enc).length 3,.ac 1103 (K.map dQ).length 2,d0,d0,d0]),(1101,.acc 77 32 3 (l.map cP)),(1102,.acc 79 64 3 (lf.map Fk.enc)),(1103,.acc 81 32 2 (K.map dQ)),(2,.one 38 328 [d0,d0,d0,d0,dN,dN,dS [],dS [],dN,d0,d0,dN,d0,dN,dN,dN,dN,dN,d0,d0,d0])]) (PS.bq a G++[(3,.one 38 328 [dI 5,d0,d0,d0,dN,dN,dS (p.aU [c6]).name.1,dS [],dN,d0,d0,dN,d0,dN,.ac 1101 (l.map cP).length 3,.d (fP O),.ac 1102 (lf.map Fk.enc).length 3,.ac 1103 (K.map dQ).length 2,d0,d0,d0]),(1101,.acc 77 32 3 (l.map cP)),(1102,.acc 79 64 3 (lf.map Fk.enc)),(1103,.acc 81 32 2 (K.map dQ)),(2,.one 38 328 [d0,d0,d0,d0,dN,dN,dS [],dS [],dN,d0,d0,dN,d0,dN,dN,dN,dN,dN,d0,d0,d0])]):=cG rfl ⟨rfl,rfl,rfl,rfl,rfl,trivial⟩
  have hqt4:G.ay.length=p.ay.length:=by rw[J.ay]
  have hfew4:=J.ok.dY
  have hlt4:=J.ok.lt
  refine dy _ _ hV U (aM (ak 5 aa (aJ aa (fun IM=>?_) (fun IM=>?_))))
  ·have Fm:G.err=0:=by simpa using IM
   refine aT (bN (ak 1 aa (aM (ai (ae 1 aa (bH (fC F J.ok pI) aa aa aa aa (af (aJ aa (fun yU=>?_) (fun yU=>?_)))))))))
   ·have hj:G.gS=some (1,(G.keyword pI).2):=by unfold PS.gS;rw[aq yU]
    have mU:=y5 yU
    obtain⟨k,rfl⟩:∃k',k=k'+1:=⟨k-1,by omega⟩
    rw[ve hj] at z
    have I:=J.top.kw pI
    generalize (G.keyword pI).2=r at mU z I hj⊢
    refine bG (ae 1 aa (af ?_))
    refine iK (bm 4 aa (yu (zU F I.top) aa aa aa aa aa (bm 2 aa ?_)))
    refine eJ rfl (eu (rows:=K.map dQ) (ys:=[dQ (1,r.names.1)]) rfl rfl rfl (.bs (rows:=[dQ (1,r.names.1)]) rfl) (bS rfl) (by rw[bJ,cF];simp only[dj,dJ];omega) (fun h=>by rw[h];rfl) (fun h=>by rw[h];rfl) ?_)
    refine bm 2 aa (da ?_)
    refine⟨k,fS k,K++[(1,r.names.1)],r.names.2,z,?_,?_,J.trans (I.trans I.top.names),⟨aa,aa,aa,trivial⟩,?_⟩
    ·have:=I.top.names.aI;rw[bJ,eG];omega
    ·have:=I.top.names.aI;omega
    simp only[dX,ez,fw];exact cG rfl ⟨rfl,rfl,rfl,rfl,rfl,trivial⟩
   rw[PS.cK yU]
   refine ai (ae 1 aa (bH (fC F J.ok ph) aa aa aa aa (af (aJ aa (fun Bx=>?_) (fun Bx=>?_)))))
   ·have hj:G.gS=some (2,(G.keyword ph).2):=by unfold PS.gS;rw[aj (by rw[yU];decide),aq Bx]
    have mU:=y5 Bx
    obtain⟨k,rfl⟩:∃k',k=k'+1:=⟨k-1,by omega⟩
    rw[ve hj] at z
    have I:=J.top.kw ph
    generalize (G.keyword ph).2=r at mU z I hj⊢
    refine bG (ae 1 aa (af ?_))
    refine iK (bm 4 aa (yu (zU F I.top) aa aa aa aa aa (bm 2 aa ?_)))
    refine eJ rfl (eu (rows:=K.map dQ) (ys:=[dQ (2,r.names.1)]) rfl rfl rfl (.bs (rows:=[dQ (2,r.names.1)]) rfl) (bS rfl) (by rw[bJ,cF];simp only[dj,dJ];omega) (fun h=>by rw[h];rfl) (fun h=>by rw[h];rfl) ?_)
    refine bm 2 aa (da ?_)
    refine⟨k,fS k,K++[(2,r.names.1)],r.names.2,z,?_,?_,J.trans (I.trans I.top.names),⟨aa,aa,aa,trivial⟩,?_⟩
    ·have:=I.top.names.aI;rw[bJ,eG];omega
    ·have:=I.top.names.aI;omega
    simp only[dX,ez,fw];exact cG rfl ⟨rfl,rfl,rfl,rfl,rfl,trivial⟩
   have hj:G.gS=none:=by unfold PS.gS;rw[aj (by rw[yU];decide),aj (by rw[Bx];decide)]
   rw[y4 hj] at z
   rw[PS.cK Bx]
   refine dM (ai (ae 1 aa ?_))
   refine fu 72 1101 rfl rfl ⟨trivial,trivial,trivial,trivial,trivial,trivial,trivial,trivial,trivial,trivial,trivial,trivial,trivial,trivial,fun _=>⟨rfl,rfl⟩,trivial,fun h=>absurd h (by decide),fun h=>absurd h (by decide),trivial,trivial,trivial,trivial⟩ ?_
   refine fu 72 1102 rfl rfl ⟨trivial,trivial,trivial,trivial,trivial,trivial,trivial,trivial,trivial,trivial,trivial,trivial,trivial,trivial,trivial,trivial,fun _=>⟨rfl,rfl⟩,fun h=>absurd h (by decide),trivial,trivial,trivial,trivial⟩ ?_
   refine fu 72 1103 aa aa ⟨trivial,trivial,trivial,trivial,trivial,trivial,trivial,trivial,trivial,trivial,trivial,trivial,trivial,trivial,trivial,trivial,trivial,fun _=>⟨aa,aa⟩,trivial,trivial,trivial,trivial⟩ (ae 1 aa (af ?_))
   refine ax ?_
   have hm:p.create=({kind:=5,table:=(p.aU [c6]).name.1,ji:=l,key:=O,ma:=lf,cons:=K},G):=by unfold PS.create;rw[jb,EL,←A,←z]
   rw[hm]
   exact⟨_,PS.bq a _,aa,⟨aa,trivial⟩,aa,aa⟩
  have Fm:¬G.err=0:=by simpa using IM
  have hj:G.gS=none:=by unfold PS.gS;simp only[show∀s,G.keyword s=(false,G) from fun s=>rI Fm 1 s];rfl
  rw[y4 hj] at z
  refine dM (ai (ae 1 aa ?_))
  refine fu 72 1101 rfl rfl ⟨trivial,trivial,trivial,trivial,trivial,trivial,trivial,trivial,trivial,trivial,trivial,trivial,trivial,trivial,fun _=>⟨rfl,rfl⟩,trivial,fun h=>absurd h (by decide),fun h=>absurd h (by decide),trivial,trivial,trivial,trivial⟩ ?_
  refine fu 72 1102 rfl rfl ⟨trivial,trivial,trivial,trivial,trivial,trivial,trivial,trivial,trivial,trivial,trivial,trivial,trivial,trivial,trivial,trivial,fun _=>⟨rfl,rfl⟩,fun h=>absurd h (by decide),trivial,trivial,trivial,trivial⟩ ?_
  refine fu 72 1103 aa aa ⟨trivial,trivial,trivial,trivial,trivial,trivial,trivial,trivial,trivial,trivial,trivial,trivial,trivial,trivial,trivial,trivial,trivial,fun _=>⟨aa,aa⟩,trivial,trivial,trivial,trivial⟩ (ae 1 aa (af ?_))
  refine ax ?_
  have hm:p.create=({kind:=5,table:=(p.aU [c6]).name.1,ji:=l,key:=O,ma:=lf,cons:=K},G):=by unfold PS.create;rw[jb,EL,←A,←z]
  rw[hm]
  exact⟨_,PS.bq a _,aa,⟨aa,trivial⟩,aa,aa⟩
 refine ai (ae 1 aa (bH (fC F PM.ok rl) aa aa aa aa (af (aJ aa (fun Fo=>?_) (fun Fo=>?_)))))
 ·refine bG (ae 1 aa (bH (zU F (PM.top.kw rl).top) aa aa aa aa (ae 2 aa (af ?_))))
  exact⟨_,_,by unfold PS.key;rw[aq Fo],⟨rfl,rfl,rfl,trivial⟩,cG rfl ⟨rfl,rfl,rfl,rfl,rfl,trivial⟩⟩
 rw[PS.cK Fo]
 refine aT ?_
 exact⟨[],p.il,by unfold PS.key;rw[aj (by rw[Fo];decide)],⟨rfl,rfl,rfl,trivial⟩,cG rfl ⟨rfl,rfl,rfl,rfl,rfl,trivial⟩⟩
open Go
set_option maxRecDepth 10000
def q9:IC→IC
 |.seq _ (.seq (.block _ x) _)=>x
 |_=>.skip
def Vg:IC→IC
 |.seq _ (.seq _ x)=>x
 |_=>.skip
def qW:IC→IC
 |.seq _ (.cond _ a _)=>a
 |_=>.skip
def fE:IC→IC
 |.seq _ (.cond _ _ b)=>b
 |_=>.skip
def ko(m:Stmt×PS):VV→br→Prop:=fun r Bn=>∃st a',r=ep (Stmt.enc st)∧Bn=PS.bq a' m.2∧(m.2.err=0→st=m.1)
def PN(b:Nat):List (Nat×Nat):=[(1000,1000),(1001,b)]
def sgW(b:Nat):List (Nat×Nat):=[(1000,1000),(1001,b),(1050,1050)]
def IN(b:Nat):List (Nat×Nat):=[(1000,1000),(1001,b),(1050,1050),(1051,1051)]
theorem Kx{q:PS}{s:List UInt8}(h:(q.sign s).1=true):q.err=0:=by
 refine tM fun h0=>?_
 rw[S8 h0 s] at h;cases h
set_option maxHeartbeats 8000000 in
theorem Ub{T:bf}(F:FT T){D:Rd}(U:ka T D){a:Bool}{p:PS}(hp:bd p){R:Ex→b0→br→Prop}(hR:∀VE B,kj hO.res (ko (p.insert D)) .ret VE B→R .ret VE B):VC T (qW (q9 hO.body)) [(0,.vp 1000 0),(2,.vp 2 0)] (PS.bq a p++[(2,.one 38 328 [d0,d0,d0,d0,dN,dN,dS [],dS [],dN,d0,d0,dN,d0,dN,dN,dN,dN,dN,d0,d0,d0])]) R:=by
 refine ai (ae 1 aa (bH (iY F hp.ok lD) aa aa aa aa (af (ai (ae 1 aa (bH (kM F (hp.dD [lD]).ok) aa aa aa aa (ae 3 aa (af ?_))))))))
 refine ai (ae 1 aa (bH (iY F hp.kP.ok lp) aa aa aa aa (af (ai (ae 1 aa (bH (oh F (hp.kP.top.dD [lp]).ok cg) aa aa aa aa (mW 3 8 1101 73 32 3 aa aa aa (af (eU ?_)))))))))
 refine bm 3 aa (eJ aa (pQ (Kw F U hp.sh.st) aa aa aa (fun r K=>?_)))
 obtain⟨v,rfl,hv⟩:=K
 refine bm 1 aa ?_
 refine eJ rfl (eu (rows:=[]) (ys:=[v.enc]) rfl rfl rfl (.bs (rows:=[v.enc]) rfl) (bS rfl) (by simp only[bJ,cF,dj,dJ];omega) (fun h=>by rw[h];rfl) (fun h=>by rw[h];rfl) ?_)
 refine bm 2 aa (da ?_)
 refine aM (bN ?_)
 refine d7 (fun k VE B=>∃(l vs:List gX)(q:PS),kv (fun p=>PS.literal p D) k l q=p.sA D∧vs.length=l.length∧(q.err=0→vs=l)∧l.length≤q.aI+1∧p.ay.length≤k+q.aI∧bO p q∧bu [(0,.vp 1000 0),(2,.vp 2 0),(3,.vp 3 0)] VE∧bu (PS.bq a q++[(3,.one 38 328 [dI 2,d0,d0,d0,dN,dN,dS (p.aU [lD]).name.1,dS [],.ac 1101 (vs.map gX.enc).length 3,d0,d0,dN,d0,dN,dN,dN,dN,dN,d0,d0,d0]),(1101,.acc 73 32 3 (vs.map gX.enc)),(2,.one 38 328 [d0,d0,d0,d0,dN,dN,dS [],dS [],dN,d0,d0,dN,d0,dN,dN,dN,dN,dN,d0,d0,d0])]) B) ?_ (k:=p.ay.length) ⟨[(((p.kP.aU [lp]).bw cg).literal D).1],[v],(((p.kP.aU [lp]).bw cg).literal D).2,by unfold PS.sA je;rw[hp.sh.ay],rfl,fun h0=>by rw[hv h0],mD (dh _),jP _ _,hp.sh.trans (hp.sh.top.literal D),⟨rfl,rfl,rfl,trivial⟩,cG rfl ⟨rfl,rfl,rfl,trivial⟩⟩
 clear hv
 rintro k VE B⟨l,vs,q,z,Y,O,jk,hk,G,hV,Z⟩
 refine ey (PS.bq a q++[(3,.one 38 328 [dI 2,d0,d0,d0,dN,dN,dS (p.aU [lD]).name.1,dS [],.ac 1101 (vs.map gX.enc).length 3,d0,d0,dN,d0,dN,dN,dN,dN,dN,d0,d0,d0]),(1101,.acc 73 32 3 (vs.map gX.enc)),(2,.one 38 328 [d0,d0,d0,d0,dN,dN,dS [],dS [],dN,d0,d0,dN,d0,dN,dN,dN,dN,dN,d0,d0,d0])]) Z ?_
 have Z:bu (PS.bq a q++[(3,.one 38 328 [dI 2,d0,d0,d0,dN,dN,dS (p.aU [lD]).name.1,dS [],.ac 1101 (vs.map gX.enc).length 3,d0,d0,dN,d0,dN,dN,dN,dN,dN,d0,d0,d0]),(1101,.acc 73 32 3 (vs.map gX.enc)),(2,.one 38 328 [d0,d0,d0,d0,dN,dN,dS [],dS [],dN,d0,d0,dN,d0,dN,dN,dN,dN,dN,d0,d0,d0])]) (PS.bq a q++[(3,.one 38 328 [dI 2,d0,d0,d0,dN,dN,dS (p.aU [lD]).name.1,dS [],.ac 1101 (vs.map gX.enc).length 3,d0,d0,dN,d0,dN,dN,dN,dN,dN,d0,d0,d0]),(1101,.acc 73 32 3 (vs.map gX.enc)),(2,.one 38 328 [d0,d0,d0,d0,dN,dN,dS [],dS [],dN,d0,d0,dN,d0,dN,dN,dN,dN,dN,d0,d0,d0])]):=cG rfl ⟨rfl,rfl,rfl,trivial⟩
 have gh:q.ay.length=p.ay.length:=by rw[G.ay]
 have fi:=G.ok.dY
 have yw:=G.ok.lt
 refine dy _ _ hV Z (aM (ai (ae 1 aa (bH (mj F G.ok cE) aa aa aa aa (af (aJ aa (fun A=>?_) (fun A=>?_)))))))
 ·have Fm:q.err=0:=Kx A
  have h2:=G.top.sign cE
  have I:=ot G.ok A
  obtain⟨k,rfl⟩:∃k',k=k'+1:=⟨k-1,by have:=I.2;omega⟩
  rw[ou A] at z
  generalize (q.sign cE).2=q1 at h2 I z⊢
  have J:=h2.top.literal D
  have ga:=J.aI
  have gl:=I.1
  refine aT (bN (iK (bm 3 aa (eJ aa (pQ (Kw F U h2.top.st) aa aa aa (fun r K=>?_))))))
  obtain⟨v2,rfl,hv2⟩:=K
  refine bm 1 aa ?_
  refine eJ rfl (eu (rows:=vs.map gX.enc) (ys:=[v2.enc]) rfl rfl rfl (.bs (rows:=[v2.enc]) rfl) (bS rfl) (by simp only[bJ,cF,dj,dJ];omega) (fun h=>by rw[h];rfl) (fun h=>by rw[h];rfl) ?_)
  refine bm 2 aa (da ?_)
  refine⟨k,fS k,l++[(q1.literal D).1],vs++[v2],(q1.literal D).2,z,?_,?_,?_,?_,G.trans (h2.trans J),⟨aa,aa,aa,trivial⟩,?_⟩
  ·rw[bJ,bJ,Y];rfl
  ·intro h0;rw[hv2 h0,O Fm]
  ·rw[bJ,eG];omega
  ·omega
  simp only[dX,ez,fw];exact cG rfl ⟨rfl,rfl,rfl,trivial⟩
 rw[ov A] at z
 rw[PS.ic A]
 have g1:=G.top.gP dG
 have J:=g1.top.dD [kO]
 have g3:=J.top.period D
 refine dM (ai (ae 1 aa (bH (oh F G.ok dG) aa aa aa aa (af (ai (ae 1 aa (bH (iY F g1.ok kO) aa aa aa aa (af (ai ?_)))))))))
 refine ae 1 aa (al (pQ (LU F U J.st) aa aa aa (fun r K=>?_)))
 obtain⟨w,rfl,hw⟩:=K
 refine ae 2 aa (af ?_)
 refine ai (ae 1 aa (fu 47 1101 aa aa ⟨trivial,trivial,trivial,trivial,trivial,trivial,trivial,trivial,fun _=>⟨aa,aa⟩,trivial,trivial,trivial,trivial,trivial,trivial,trivial,trivial,trivial,trivial,trivial,trivial,trivial⟩ (ae 1 aa (af ?_))))
 refine ax ?_
 have hm:p.insert D=({kind:=2,table:=(p.aU [lD]).name.1,row:=l,valid:=(((q.bw dG).aU [kO]).period D).1},(((q.bw dG).aU [kO]).period D).2):=by unfold PS.insert PS.pY;rw[←z]
 rw[hm] at hR
 exact hR _ _ ⟨_,PS.bq a _,rfl,⟨rfl,trivial⟩,{kind:=2,table:=(p.aU [lD]).name.1,row:=vs,valid:=w},a,rfl,rfl,fun h0=>by rw[hw h0,O (g1.er (J.er (g3.er h0)))]⟩
open Go
set_option maxRecDepth 10000
def AX(k:Int)(t:List UInt8)(v:Int×Int)(n:Nat)(w:Int)(ss:List (List DC)):Nat×BS:=(1001,.one 38 328 [dI k,d0,d0,d0,dN,dN,dS t,dS [],dN,dI v.1,dI v.2,.ac 1050 n 8,dI w,.ac 1051 ss.length 2,dN,dN,dN,dN,d0,d0,d0])
set_option maxHeartbeats 2000000 in
theorem Uc{T:bf}(F:FT T){D:Rd}(K:ka T D){a:Bool}{p:PS}(hp:bd p)(k:Int)(t:List UInt8)(v:Int×Int)(w:Int)(ss:List (List DC)){e:List aL}{N:Nat}(he:EG p e N)(hN:N≤100000):bV T 130 [.vp 1000 0,.vp 1001 0] (PS.bq a p++[AX k t v (e.map aL.enc).length w ss,(1050,.acc 116 88 8 (e.map aL.enc)),(1051,.acc 75 24 2 ss)]) fun r Bn=>∃e1 x,r= .tuple []∧Bn=PS.bq a (p.dW D).2++[AX k t v (e1.map aL.enc).length x ss,(1050,.acc 116 88 8 (e1.map aL.enc)),(1051,.acc 75 24 2 ss)]∧EG (p.dW D).2 e1 (N+610)∧((p.dW D).2.err=0→x=(p.dW D).1):=by
 refine cl F.OM aa (ey (PS.bq a p++[(1001,.one 38 328 [dI k,d0,d0,d0,dN,dN,dS t,dS [],dN,dI v.1,dI v.2,.ac 1050 (e.map aL.enc).length 8,dI w,.ac 1051 ss.length 2,dN,dN,dN,dN,d0,d0,d0]),(1050,.acc 116 88 8 (e.map aL.enc)),(1051,.acc 75 24 2 ss)]) (cG aa ⟨aa,aa,aa,trivial⟩) (ak 4 aa (ai (ae 1 aa (bH (fC F hp.ok jO) aa aa aa aa (af (aJ aa (fun z=>?_) (fun z=>?_))))))))
 ·have G:p.dW D=(p.keyword jO).2.expr D:=by unfold PS.dW;rw[aq z]
  have A:=hp.kw jO
  have O:=A.top.expr D
  refine ai (ae 6 aa (jt 1001 11 aa aa (ew (PS.bq a (p.keyword jO).2++[(1001,.one 38 328 [dI k,d0,d0,d0,dN,dN,dS t,dS [],dN,dI v.1,dI v.2,.undef,dI (-1),.ac 1051 ss.length 2,dN,dN,dN,dN,d0,d0,d0]),(1050,.acc 116 88 8 (e.map aL.enc)),(1051,.acc 75 24 2 ss)]) (cG aa ⟨aa,aa,aa,trivial⟩) (jn (tJ F K A.top (he.go2 A (mb ..)) hN) aa aa aa aa (fun e1 I=>?_)))))
  have U:=I.small O.ok (by omega)
  refine ae 3 aa (af ?_)
  refine bG (ae 6 aa ?_)
  refine al (gi rfl rfl (by simp only[cF,aZ];omega) (by simp only[cF,aZ];omega) ?_)
  obtain⟨x,J⟩:∃x:Int,(((e1.map aL.enc).length:Nat):Int) -Int.ofNat 1=x:=⟨_,rfl⟩
  rw[J]
  refine ae 3 aa (af ?_)
  rw[G]
  exact⟨_,PS.bq a _++[AX k t v (e1.map aL.enc).length x ss,(1050,.acc 116 88 8 (e1.map aL.enc)),(1051,.acc 75 24 2 ss)],rfl,cG rfl ⟨rfl,rfl,rfl,trivial⟩,e1,x,rfl,rfl,I.dz (by omega),fun h0=>J.symm.trans (qM A.top I h0)⟩
 have G:p.dW D=(-1,p):=by unfold PS.dW;rw[aj (by rw[z];decide)]
 rw[PS.cK z]
 refine aT ?_
 rw[G]
 exact⟨_,PS.bq a _++[AX k t v (e.map aL.enc).length (-1) ss,(1050,.acc 116 88 8 (e.map aL.enc)),(1051,.acc 75 24 2 ss)],rfl,cG rfl ⟨rfl,rfl,rfl,trivial⟩,e, -1,rfl,rfl,he.dz (by omega),fun _=>rfl⟩
open Go
set_option maxRecDepth 10000
set_option maxHeartbeats 4000000 in
theorem Ud{T:bf}(F:FT T){D:Rd}(K:ka T D){a:Bool}{p:PS}(hp:bd p)(O:p.ex=[]){R:Ex→b0→br→Prop}(U:∀VE B,kj hO.res (ko (p.remove D)) .ret VE B→R .ret VE B):VC T (qW (fE (q9 hO.body))) [(0,.vp 1000 0),(2,.vp 2 0)] (PS.bq a p++[(2,.one 38 328 [d0,d0,d0,d0,dN,dN,dS [],dS [],dN,d0,d0,dN,d0,dN,dN,dN,dN,dN,d0,d0,d0])]) R:=by
 have g0:bO p (p.aU [hZ]).name.2:=(hp.dD [hZ]).trans (hp.dD [hZ]).top.name
 have A:=hp.nr D
 have Y:=A.top.dW D
 have z:(((p.aU [hZ]).name.2.aU [kO,om,jZ]).period D).2=p.nr D:=rfl
 have Z:EG (p.nr D) [] 0:=EG.go2 ⟨fun _=>O.symm,dh _⟩ A (by rw[←z,show∀q:PS,(q.period D).2.ex=q.ex from fun q=>qg ..,pg,show∀q:PS,q.name.2.ex=q.ex from fun q=>qg ..,pg])
 refine ai ?_
 refine ae 1 aa ?_
 refine bH (iY F hp.ok hZ) aa aa aa aa ?_
 refine af ?_
 refine ai ?_
 refine ae 1 aa ?_
 refine bH (kM F (hp.dD [hZ]).ok) aa aa aa aa ?_
 refine ae 3 aa (af ?_)
 refine ai ?_
 refine ae 1 aa ?_
 refine rO (Bi:=PS.bq a (p.aU [hZ]).name.2++[AV 3 (p.aU [hZ]).name.1 (0,0)]) 1050 (PN 4) 2000 aa aa aa aa aa aa aa ⟨aa,aa,aa,aa,trivial⟩ (Lh F K g0.top 3 (p.aU [hZ]).name.1) (fun r Bn G=>?_)
 obtain⟨v,rfl,rfl,hv⟩:=G
 refine ew (PS.bq a (p.nr D)++[(4,.one 38 328 [dI 3,d0,d0,d0,dN,dN,dS (p.aU [hZ]).name.1,dS [],dN,dI v.1,dI v.2,dN,d0,dN,dN,dN,dN,dN,d0,d0,d0]),(2,.one 38 328 [d0,d0,d0,d0,dN,dN,dS [],dS [],dN,d0,d0,dN,d0,dN,dN,dN,dN,dN,d0,d0,d0])]) (cG (by rw[←z];rfl) ⟨rfl,rfl,trivial⟩) ?_
 refine mW 4 11 1050 116 88 8 aa aa aa ?_
 refine af ?_
 refine ai ?_
 refine ae 1 aa ?_
 refine rO (Bi:=PS.bq a (p.nr D)++[Bv 3 (p.aU [hZ]).name.1 v (([]:List aL).map aL.enc).length 0 .nil,(1050,.acc 116 88 8 (([]:List aL).map aL.enc))]) 1050 (sgW 4) 2000 rfl rfl rfl rfl rfl rfl rfl ⟨rfl,rfl,rfl,rfl,rfl,rfl,trivial⟩ (Vf F K A.top 3 (p.aU [hZ]).name.1 v 0 .nil Z (by omega)) (fun r Bn G=>?_)
 obtain⟨e1,x,rfl,rfl,I,J⟩:=G
 refine ew (PS.bq a ((p.nr D).dW D).2++[(4,.one 38 328 [dI 3,d0,d0,d0,dN,dN,dS (p.aU [hZ]).name.1,dS [],dN,dI v.1,dI v.2,.ac 1050 (e1.map aL.enc).length 8,dI x,dN,dN,dN,dN,dN,d0,d0,d0]),(1050,.acc 116 88 8 (e1.map aL.enc)),(2,.one 38 328 [d0,d0,d0,d0,dN,dN,dS [],dS [],dN,d0,d0,dN,d0,dN,dN,dN,dN,dN,d0,d0,d0])]) (cG aa ⟨aa,aa,aa,trivial⟩) ?_
 refine af ?_
 refine ai ?_
 refine ae 1 aa ?_
 refine fu 60 1050 aa aa ⟨trivial,trivial,trivial,trivial,trivial,trivial,trivial,trivial,trivial,trivial,trivial,fun _=>⟨aa,aa⟩,trivial,trivial,trivial,trivial,trivial,trivial,trivial,trivial,trivial,trivial⟩ ?_
 refine ae 1 aa (af ?_)
 refine ax ?_
 exact U _ _ ⟨_,PS.bq a _,rfl,⟨rfl,trivial⟩,{kind:=3,table:=(p.aU [hZ]).name.1,valid:=v,wh:=x,exprs:=e1},a,rfl,rfl,fun h0=>by rw[hv (by rw[z];exact Y.er h0),J h0,I.eq h0];rfl⟩
theorem Ue{T:bf}(F:FT T){a:Bool}{p:PS}(hp:bd p){R:Ex→b0→br→Prop}(z:∀VE B,kj hO.res (ko (p.create)) .ret VE B→R .ret VE B):VC T (qW (fE (fE (fE (q9 hO.body))))) [(0,.vp 1000 0),(2,.vp 2 0)] (PS.bq a p++[(2,.one 38 328 [d0,d0,d0,d0,dN,dN,dS [],dS [],dN,d0,d0,dN,d0,dN,dN,dN,dN,dN,d0,d0,d0])]) R:=by
 refine ai (ae 1 aa (bH (iY F hp.ok c6) aa aa aa aa (af (ai (ae 1 aa (bH (Ua F hp) aa aa aa aa (ae 1 aa (af ?_))))))))
 exact ax (z _ _ ⟨_,PS.bq a _,aa,⟨aa,trivial⟩,p.create.1,a,aa,aa,fun _=>aa⟩)
set_option maxHeartbeats 4000000 in
theorem Vh{T:bf}(F:FT T){a:Bool}{p:PS}(hp:bd p){R:Ex→b0→br→Prop}(G:∀VE B,kj hO.res (ko (p.alter)) .ret VE B→R .ret VE B):VC T (qW (fE (fE (fE (fE (q9 hO.body)))))) [(0,.vp 1000 0),(2,.vp 2 0)] (PS.bq a p++[(2,.one 38 328 [d0,d0,d0,d0,dN,dN,dS [],dS [],dN,d0,d0,dN,d0,dN,dN,dN,dN,dN,d0,d0,d0])]) R:=by
 refine ai (ae 1 aa (bH (iY F hp.ok c6) aa aa aa aa (af (ai (ae 1 aa (bH (kM F (hp.dD [c6]).ok) aa aa aa aa (ae 3 aa (af ?_))))))))
 refine aM (bN (ai (ae 1 aa (bH (fC F hp.gp.ok nT) aa aa aa aa (ae 1 aa (af ?_))))))
 refine aJ aa (fun A=>?_) (fun A=>?_)
 ·have J:=hp.gp.top.kw nT
  have I:p.alter=({kind:=6,table:=(p.aU [c6]).name.1,ji:=[(p.gp.keyword nT).2.column.1]},(p.gp.keyword nT).2.column.2):=by unfold PS.alter;rw[aq A]
  refine ai (mW 6 14 1101 77 32 3 aa aa aa (ae 2 aa (af ?_)))
  refine iK (bm 3 aa (yu (FA F J.top) aa aa aa aa aa (bm 1 aa ?_)))
  refine eJ rfl (eu (rows:=[]) (ys:=[cP (p.gp.keyword nT).2.column.1]) rfl rfl rfl (.bs (rows:=[cP (p.gp.keyword nT).2.column.1]) rfl) (bS rfl) (by simp only[bJ,cF,dj,dJ];omega) (fun h=>by rw[h];rfl) (fun h=>by rw[h];rfl) ?_)
  refine bm 2 aa (da ?_)
  refine ai (ae 1 aa (fu 115 1101 aa aa ⟨trivial,trivial,trivial,trivial,trivial,trivial,trivial,trivial,trivial,trivial,trivial,trivial,trivial,trivial,fun _=>⟨aa,aa⟩,trivial,trivial,trivial,trivial,trivial,trivial,trivial⟩ (ae 1 aa (af ?_))))
  refine ax ?_
  rw[I] at G
  exact G _ _ ⟨_,PS.bq a _,aa,⟨aa,trivial⟩,{kind:=6,table:=(p.aU [c6]).name.1,ji:=[(p.gp.keyword nT).2.column.1]},a,aa,aa,fun _=>aa⟩
 rw[PS.cK A]
 refine ai (ae 1 aa (bH (fC F hp.gp.ok pO) aa aa aa aa (ae 1 aa (af ?_))))
 refine aJ aa (fun z=>?_) (fun z=>?_)
 ·have J:=hp.gp.top.kw pO
  have I:p.alter=({kind:=7,table:=(p.aU [c6]).name.1,name:=(p.gp.keyword pO).2.name.1},(p.gp.keyword pO).2.name.2):=by unfold PS.alter;rw[aj (by rw[A];decide),aq z]
  refine ak 2 aa (bG (ae 1 aa (bH (kM F J.ok) aa aa aa aa (ae 2 aa (af ?_)))))
  refine ak 2 aa (ax ?_)
  rw[I] at G
  exact G _ _ ⟨_,PS.bq a _,aa,⟨aa,trivial⟩,{kind:=7,table:=(p.aU [c6]).name.1,name:=(p.gp.keyword pO).2.name.1},a,aa,aa,fun _=>aa⟩
 rw[PS.cK z]
 have I:p.alter=(({}:Stmt),p.gp.fail 5):=by unfold PS.alter;rw[aj (by rw[A];decide),aj (by rw[z];decide)]
 refine bG (ae 1 aa ?_)
 refine bH (lV F hp.gp.ok (by decide)) rfl rfl rfl rfl ?_
 refine af (ak 2 aa (ax ?_))
 rw[I] at G
 exact G _ _ ⟨_,PS.bq a _,rfl,⟨rfl,trivial⟩,{table:=(p.aU [c6]).name.1},a,rfl,rfl,fun k=>absurd k (L1 (by decide))⟩
set_option maxHeartbeats 4000000 in
theorem We{T:bf}(F:FT T){D:Rd}(J:ka T D){a:Bool}{p:PS}(hp:bd p)(O:a=false){R:Ex→b0→br→Prop}(U:∀VE B,kj hO.res (ko (p.qz D)) .ret VE B→R .ret VE B):VC T (qW (fE (fE (fE (fE (fE (q9 hO.body))))))) [(0,.vp 1000 0),(2,.vp 2 0)] (PS.bq a p++[(2,.one 38 328 [d0,d0,d0,d0,dN,dN,dS [],dS [],dN,d0,d0,dN,d0,dN,dN,dN,dN,dN,d0,d0,d0])]) R:=by
 subst O
 have K:=hp.cQ D false
 have A:=K.top.dD [jG]
 have G:=A.top.dD [jV]
 have z:=G.top.day D
 refine ai (ae 1 aa (al (pQ (GR F J hp) aa aa aa (fun r I=>?_))))
 obtain⟨s,rfl,Y⟩:=I
 refine ae 3 aa (af ?_)
 refine ai (ae 1 aa (bH (iY F K.ok jG) aa aa aa aa (af (ai (ae 1 aa (bH (iY F A.ok jV) aa aa aa aa (af (ai (ae 1 aa ?_)))))))))
 refine al (pQ (OS F J G.st) aa aa aa (fun r I=>?_))
 obtain⟨v,rfl,Z⟩:=I
 refine ae 2 aa (af ?_)
 refine ai (ae 1 aa (bH (Ge F z.top) aa aa aa aa (ae 2 aa (af ?_))))
 refine ak 2 aa (ax ?_)
 exact U _ _ ⟨_,PS.bq _ _,rfl,⟨rfl,trivial⟩,{kind:=8,cQ:=s,day:=v,aI:=((p.q7 D).day D).2.hM.1},_,rfl,rfl,fun h0=>by rw[Y (A.er (G.er (z.er (z.top.hM.er h0)))),Z (z.top.hM.er h0)];rfl⟩
theorem Uf{T:bf}(F:FT T){a:Bool}{p:PS}(hp:bd p){R:Ex→b0→br→Prop}(z:∀VE B,kj hO.res (ko (({kind:=9},p))) .ret VE B→R .ret VE B):VC T (qW (fE (fE (fE (fE (fE (fE (q9 hO.body)))))))) [(0,.vp 1000 0),(2,.vp 2 0)] (PS.bq a p++[(2,.one 38 328 [d0,d0,d0,d0,dN,dN,dS [],dS [],dN,d0,d0,dN,d0,dN,dN,dN,dN,dN,d0,d0,d0])]) R:=by
 exact ak 2 aa (ax (z _ _ ⟨_,PS.bq a _,aa,⟨aa,trivial⟩,{kind:=9},a,aa,aa,fun _=>aa⟩))
set_option maxHeartbeats 4000000 in
theorem Wf{T:bf}(F:FT T){a:Bool}{p:PS}(hp:bd p){R:Ex→b0→br→Prop}(A:∀VE B,kj hO.res (ko (p.hold)) .ret VE B→R .ret VE B):VC T (qW (fE (fE (fE (fE (fE (fE (fE (q9 hO.body))))))))) [(0,.vp 1000 0),(2,.vp 2 0)] (PS.bq a p++[(2,.one 38 328 [d0,d0,d0,d0,dN,dN,dS [],dS [],dN,d0,d0,dN,d0,dN,dN,dN,dN,dN,d0,d0,d0])]) R:=by
 refine ai (ae 1 aa (bH (xb F hp.st (-1)) aa aa aa aa (ae 3 aa (af ?_))))
 refine ai (ae 1 aa (bH (iY F (hp.number (-1)).ok hZ) aa aa aa aa (af (ai (ae 1 aa (bH (xb F hp.lU.st (-1)) aa aa aa aa (ae 3 aa (af ?_))))))))
 refine ai (ae 1 aa (bH (iY F (hp.lU.top.number (-1)).ok IB) aa aa aa aa (af (aM (ai (ae 1 aa (bH (fC F hp.mi.ok xu) aa aa aa aa (af (aJ aa (fun z=>?_) (fun z=>?_))))))))))
 ·have G:p.pP=(1099511627776,(p.mi.keyword xu).2):=by unfold PS.pP;rw[aq z]
  refine bG (ae 3 aa (af ?_))
  refine ak 2 aa (ax ?_)
  unfold PS.hold at A
  rw[G] at A
  exact A _ _ ⟨_,PS.bq a _,aa,⟨aa,trivial⟩,{kind:=10,n:=(p.number (-1)).1,wq:=((p.lU.number (-1)).1,_)},a,aa,aa,fun _=>aa⟩
 have G:p.pP=p.mi.number (p.lU.number (-1)).1:=by unfold PS.pP;rw[aj (by rw[z];decide)]
 rw[PS.cK z]
 refine bG (ae 4 aa (bH (xb F hp.mi.st (p.lU.number (-1)).1) aa aa aa aa (ae 3 aa (af ?_))))
 refine ak 2 aa (ax ?_)
 unfold PS.hold at A
 rw[G] at A
 exact A _ _ ⟨_,PS.bq a _,aa,⟨aa,trivial⟩,{kind:=10,n:=(p.number (-1)).1,wq:=((p.lU.number (-1)).1,_)},a,aa,aa,fun _=>aa⟩
theorem S9{T:bf}(F:FT T){a:Bool}{p:PS}(hp:bd p){R:Ex→b0→br→Prop}(z:∀VE B,kj hO.res (ko (({kind:=11,n:=(p.number (-1)).1},(p.number (-1)).2))) .ret VE B→R .ret VE B):VC T (qW (fE (fE (fE (fE (fE (fE (fE (fE (q9 hO.body)))))))))) [(0,.vp 1000 0),(2,.vp 2 0)] (PS.bq a p++[(2,.one 38 328 [d0,d0,d0,d0,dN,dN,dS [],dS [],dN,d0,d0,dN,d0,dN,dN,dN,dN,dN,d0,d0,d0])]) R:=by
 refine ai (ae 1 aa (bH (xb F hp.st (-1)) aa aa aa aa (ae 2 aa (af ?_))))
 exact ax (z _ _ ⟨_,PS.bq a _,aa,⟨aa,trivial⟩,{kind:=11,n:=(p.number (-1)).1},a,aa,aa,fun _=>aa⟩)
theorem Ug{T:bf}(F:FT T){a:Bool}{p:PS}(hp:bd p){R:Ex→b0→br→Prop}(z:∀VE B,kj hO.res (ko (({kind:=12,n:=((p.aU [oA]).number (-1)).1},((p.aU [oA]).number (-1)).2))) .ret VE B→R .ret VE B):VC T (qW (fE (fE (fE (fE (fE (fE (fE (fE (fE (q9 hO.body))))))))))) [(0,.vp 1000 0),(2,.vp 2 0)] (PS.bq a p++[(2,.one 38 328 [d0,d0,d0,d0,dN,dN,dS [],dS [],dN,d0,d0,dN,d0,dN,dN,dN,dN,dN,d0,d0,d0])]) R:=by
 refine ai (ae 1 aa (bH (iY F hp.ok oA) aa aa aa aa (af (ai (ae 1 aa (bH (xb F (hp.dD [oA]).st (-1)) aa aa aa aa (ae 2 aa (af ?_))))))))
 exact ax (z _ _ ⟨_,PS.bq a _,aa,⟨aa,trivial⟩,{kind:=12,n:=((p.aU [oA]).number (-1)).1},a,aa,aa,fun _=>aa⟩)
open Go
set_option maxRecDepth 10000
set_option maxHeartbeats 4000000 in
theorem Uh{T:bf}(F:FT T){D:Rd}(Lq:ka T D){a:Bool}{p:PS}(hp:bd p)(hx:p.ex=[]){R:Ex→b0→br→Prop}(hR:∀VE B,kj hO.res (ko (p.update D)) .ret VE B→R .ret VE B):VC T (qW (fE (fE (q9 hO.body)))) [(0,.vp 1000 0),(2,.vp 2 0)] (PS.bq a p++[(2,.one 38 328 [d0,d0,d0,d0,dN,dN,dS [],dS [],dN,d0,d0,dN,d0,dN,dN,dN,dN,dN,d0,d0,d0])]) R:=by
 have g1:=hp.gG.trans (hp.gG.top.period D)
 have Y:bO p ((p.gG.period D).2.aU [kz]):=hp.x6 D
 have hE0:EG ((p.gG.period D).2.aU [kz]) [] 0:=EG.go2 ⟨fun _=>hx.symm,dh _⟩ Y (by rw[pg,show∀q:PS,(q.period D).2.ex=q.ex from fun q=>qg ..,show p.gG=p.name.2.aU [kO,om,jZ] from rfl,pg,show∀q:PS,q.name.2.ex=q.ex from fun q=>qg ..])
 refine ai (ae 1 aa (bH (kM F hp.ok) aa aa aa aa (ae 3 aa (af ?_))))
 refine ai (ae 1 aa (rO (Bi:=PS.bq a p.name.2++[AV 4 p.name.1 (0,0)]) 1050 (PN 5) 2000 aa aa aa aa aa aa aa ⟨aa,aa,aa,aa,trivial⟩ (Lh F Lq hp.name.top 4 p.name.1) (fun r Bn K=>?_)))
 obtain⟨v,rfl,rfl,hv⟩:=K
 refine ew (PS.bq a (p.gG.period D).2++[(5,.one 38 328 [dI 4,d0,d0,d0,dN,dN,dS p.name.1,dS [],dN,dI v.1,dI v.2,dN,d0,dN,dN,dN,dN,dN,d0,d0,d0]),(2,.one 38 328 [d0,d0,d0,d0,dN,dN,dS [],dS [],dN,d0,d0,dN,d0,dN,dN,dN,dN,dN,d0,d0,d0])]) (cG aa ⟨aa,aa,trivial⟩) (af (ai (ae 1 aa (bH (iY F g1.ok kz) aa aa aa aa (mW 5 11 1050 116 88 8 aa aa aa (mW 5 13 1051 75 24 2 aa aa aa (af (ai (ae 1 aa ?_)))))))))
 refine rO (Bi:=PS.bq a ((p.gG.period D).2.aU [kz])++[AW 4 p.name.1 v (([]:List aL).map aL.enc).length (([]:List (List UInt8×Int)).map eK).length,(1050,.acc 116 88 8 (([]:List aL).map aL.enc)),(1051,.acc 75 24 2 (([]:List (List UInt8×Int)).map eK))]) 1050 (IN 5) 2000 rfl rfl rfl rfl rfl rfl rfl ⟨rfl,rfl,rfl,rfl,rfl,rfl,rfl,rfl,trivial⟩ (OT F Lq Y.top 4 p.name.1 v (ss:=[]) (dh _) hE0 (by omega)) (fun r Bn K=>?_)
 obtain⟨e1,x1,rfl,rfl,I,J⟩:=K
 refine ew (PS.bq a (((p.gG.period D).2.aU [kz]).set D).2++[(5,.one 38 328 [dI 4,d0,d0,d0,dN,dN,dS p.name.1,dS [],dN,dI v.1,dI v.2,.ac 1050 (e1.map aL.enc).length 8,d0,.ac 1051 ([x1].map eK).length 2,dN,dN,dN,dN,d0,d0,d0]),(1050,.acc 116 88 8 (e1.map aL.enc)),(1051,.acc 75 24 2 ([x1].map eK)),(2,.one 38 328 [d0,d0,d0,d0,dN,dN,dS [],dS [],dN,d0,d0,dN,d0,dN,dN,dN,dN,dN,d0,d0,d0])]) (cG aa ⟨aa,aa,aa,aa,trivial⟩) (af (aM (bN ?_)))
 refine d7 (fun k VE B=>∃(l ss:List (List UInt8×Int))(e:List aL)(q:PS),kv (fun p=>PS.set p D) k l q=p.o4 D∧ss.length=l.length∧(q.err=0→ss=l)∧(q.err=0→v=(p.gG.period D).1)∧l.length≤q.aI+1∧p.ay.length≤k+q.aI∧bO p q∧EG q e 700∧bu [(0,.vp 1000 0),(2,.vp 2 0),(5,.vp 5 0)] VE∧bu (PS.bq a q++[(5,.one 38 328 [dI 4,d0,d0,d0,dN,dN,dS p.name.1,dS [],dN,dI v.1,dI v.2,.ac 1050 (e.map aL.enc).length 8,d0,.ac 1051 (ss.map eK).length 2,dN,dN,dN,dN,d0,d0,d0]),(1050,.acc 116 88 8 (e.map aL.enc)),(1051,.acc 75 24 2 (ss.map eK)),(2,.one 38 328 [d0,d0,d0,d0,dN,dN,dS [],dS [],dN,d0,d0,dN,d0,dN,dN,dN,dN,dN,d0,d0,d0])]) B) ?_ (k:=p.ay.length) ⟨[(((p.gG.period D).2.aU [kz]).set D).1],[x1],e1,(((p.gG.period D).2.aU [kz]).set D).2,by unfold PS.o4 je;rw[Y.ay],rfl,fun h0=>by rw[J h0],fun h0=>hv ((g1.top.dD [kz]).er ((Y.top.set D).er h0)),mD (dh _),jP _ _,Y.trans (Y.top.set D),I.dz (by omega),⟨rfl,rfl,rfl,trivial⟩,cG rfl ⟨rfl,rfl,rfl,rfl,trivial⟩⟩
 clear J I
 rintro k VE B⟨l,ss,e,q,z,Ii,Z,PO,jk,hk,G,hE,hV,hB⟩
 refine ey (PS.bq a q++[(5,.one 38 328 [dI 4,d0,d0,d0,dN,dN,dS p.name.1,dS [],dN,dI v.1,dI v.2,.ac 1050 (e.map aL.enc).length 8,d0,.ac 1051 (ss.map eK).length 2,dN,dN,dN,dN,d0,d0,d0]),(1050,.acc 116 88 8 (e.map aL.enc)),(1051,.acc 75 24 2 (ss.map eK)),(2,.one 38 328 [d0,d0,d0,d0,dN,dN,dS [],dS [],dN,d0,d0,dN,d0,dN,dN,dN,dN,dN,d0,d0,d0])]) hB ?_
 have hB:bu (PS.bq a q++[(5,.one 38 328 [dI 4,d0,d0,d0,dN,dN,dS p.name.1,dS [],dN,dI v.1,dI v.2,.ac 1050 (e.map aL.enc).length 8,d0,.ac 1051 (ss.map eK).length 2,dN,dN,dN,dN,d0,d0,d0]),(1050,.acc 116 88 8 (e.map aL.enc)),(1051,.acc 75 24 2 (ss.map eK)),(2,.one 38 328 [d0,d0,d0,d0,dN,dN,dS [],dS [],dN,d0,d0,dN,d0,dN,dN,dN,dN,dN,d0,d0,d0])]) (PS.bq a q++[(5,.one 38 328 [dI 4,d0,d0,d0,dN,dN,dS p.name.1,dS [],dN,dI v.1,dI v.2,.ac 1050 (e.map aL.enc).length 8,d0,.ac 1051 (ss.map eK).length 2,dN,dN,dN,dN,d0,d0,d0]),(1050,.acc 116 88 8 (e.map aL.enc)),(1051,.acc 75 24 2 (ss.map eK)),(2,.one 38 328 [d0,d0,d0,d0,dN,dN,dS [],dS [],dN,d0,d0,dN,d0,dN,dN,dN,dN,dN,d0,d0,d0])]):=cG rfl ⟨rfl,rfl,rfl,rfl,trivial⟩
 have gh:q.ay.length=p.ay.length:=by rw[G.ay]
 have fi:=G.ok.dY
 have yw:=G.ok.lt
 refine dy _ _ hV hB (aM (ai (ae 1 aa (bH (mj F G.ok cE) aa aa aa aa (af (aJ aa (fun A=>?_) (fun A=>?_)))))))
 ·have O:q.err=0:=Kx A
  have h2:=G.top.sign cE
  have U:=ot G.ok A
  obtain⟨k,rfl⟩:∃k',k=k'+1:=⟨k-1,by have:=U.2;omega⟩
  rw[ou A] at z
  have hz:EG (q.sign cE).2 e 0:=(hE.zero G.ok O).go2 h2 (ow ..)
  generalize (q.sign cE).2=q1 at h2 U z hz⊢
  have g2:=h2.top.set D
  have ga:=g2.aI
  have gl:=U.1
  refine aT (bN (bG (ae 1 aa ?_)))
  refine rO (Bi:=PS.bq a q1++[AW 4 p.name.1 v (e.map aL.enc).length (ss.map eK).length,(1050,.acc 116 88 8 (e.map aL.enc)),(1051,.acc 75 24 2 (ss.map eK))]) 1050 (IN 5) 2000 rfl rfl rfl rfl rfl rfl rfl ⟨rfl,rfl,rfl,rfl,rfl,rfl,rfl,rfl,trivial⟩ (OT F Lq h2.top 4 p.name.1 v (ss:=ss) (by omega) hz (by omega)) (fun r Bn K=>?_)
  obtain⟨e2,x2,rfl,rfl,hE2,wA⟩:=K
  refine ew (PS.bq a (q1.set D).2++[(5,.one 38 328 [dI 4,d0,d0,d0,dN,dN,dS p.name.1,dS [],dN,dI v.1,dI v.2,.ac 1050 (e2.map aL.enc).length 8,d0,.ac 1051 ((ss++[x2]).map eK).length 2,dN,dN,dN,dN,d0,d0,d0]),(1050,.acc 116 88 8 (e2.map aL.enc)),(1051,.acc 75 24 2 ((ss++[x2]).map eK)),(2,.one 38 328 [d0,d0,d0,d0,dN,dN,dS [],dS [],dN,d0,d0,dN,d0,dN,dN,dN,dN,dN,d0,d0,d0])]) (cG aa ⟨aa,aa,aa,aa,trivial⟩) (af ?_)
  refine⟨k,fS k,l++[(q1.set D).1],ss++[x2],e2,(q1.set D).2,z,?_,?_,fun _=>PO O,?_,?_,G.trans (h2.trans g2),hE2.dz (by omega),⟨rfl,rfl,rfl,trivial⟩,?_⟩
  ·rw[bJ,bJ,Ii];rfl
  ·intro h0;rw[wA h0,Z O]
  ·rw[bJ,eG];omega
  ·omega
  exact cG aa ⟨aa,aa,aa,aa,trivial⟩
 rw[ov A] at z
 rw[PS.ic A]
 have gw:=G.top.dW D
 refine dM (ai (ae 1 aa ?_))
 refine rO (Bi:=PS.bq a q++[AX 4 p.name.1 v (e.map aL.enc).length 0 (ss.map eK),(1050,.acc 116 88 8 (e.map aL.enc)),(1051,.acc 75 24 2 (ss.map eK))]) 1050 (IN 5) 2000 rfl rfl rfl rfl rfl rfl rfl ⟨rfl,rfl,rfl,rfl,rfl,rfl,rfl,rfl,trivial⟩ (Uc F Lq G.top 4 p.name.1 v 0 (ss.map eK) hE (by omega)) (fun r Bn K=>?_)
 obtain⟨e1,x,rfl,rfl,I,J⟩:=K
 refine ew (PS.bq a (q.dW D).2++[(5,.one 38 328 [dI 4,d0,d0,d0,dN,dN,dS p.name.1,dS [],dN,dI v.1,dI v.2,.ac 1050 (e1.map aL.enc).length 8,dI x,.ac 1051 (ss.map eK).length 2,dN,dN,dN,dN,d0,d0,d0]),(1050,.acc 116 88 8 (e1.map aL.enc)),(1051,.acc 75 24 2 (ss.map eK)),(2,.one 38 328 [d0,d0,d0,d0,dN,dN,dS [],dS [],dN,d0,d0,dN,d0,dN,dN,dN,dN,dN,d0,d0,d0])]) (cG aa ⟨aa,aa,aa,aa,trivial⟩) (af (ai (ae 1 aa ?_)))
 refine fu 79 1050 rfl rfl ⟨trivial,trivial,trivial,trivial,trivial,trivial,trivial,trivial,trivial,trivial,trivial,fun _=>⟨rfl,rfl⟩,trivial,fun h=>absurd h (by decide),trivial,trivial,trivial,trivial,trivial,trivial,trivial,trivial⟩ ?_
 refine fu 79 1051 aa aa ⟨trivial,trivial,trivial,trivial,trivial,trivial,trivial,trivial,trivial,trivial,trivial,trivial,trivial,fun _=>⟨aa,aa⟩,trivial,trivial,trivial,trivial,trivial,trivial,trivial,trivial⟩ (ae 1 aa (af ?_))
 refine ax ?_
 have hm:p.update D=({kind:=4,table:=p.name.1,valid:=(p.gG.period D).1,mS:=l,wh:=(q.dW D).1,exprs:=(q.dW D).2.ex},(q.dW D).2):=by unfold PS.update;rw[←z]
 rw[hm] at hR
 exact hR _ _ ⟨_,PS.bq a _,rfl,⟨rfl,trivial⟩,{kind:=4,table:=p.name.1,valid:=v,mS:=ss,wh:=x,exprs:=e1},a,rfl,rfl,fun h0=>by rw[J h0,I.eq h0,Z (gw.er h0),PO (gw.er h0)]⟩
open Go
set_option maxRecDepth 10000
def Vi:List (List UInt8):=[oe,od,og,oc]
def x9(i:Nat):List UInt8:=(Vi[i]?).getD []
def PS.ml(p:PS):Nat→Int×PS
 |0=>(Int.ofNat 1,p)
 |i+1=>if(p.ml i).1=1 then(if((p.ml i).2.keyword (x9 i)).1=true then(Int.ofNat 2+(i:Nat),((p.ml i).2.keyword (x9 i)).2) else p.ml i) else p.ml i
variable{p q:PS}
theorem zC{i:Nat}{g:Int}(h:p.ml i=(g,q))(z:g=1)(hk:(q.keyword (x9 i)).1=true):p.ml (i+1)=(Int.ofNat 2+(i:Nat),(q.keyword (x9 i)).2):=by
 unfold PS.ml;rw[h,aq z,aq hk]
theorem zD{i:Nat}{g:Int}(h:p.ml i=(g,q))(z:g=1)(hk:(q.keyword (x9 i)).1=false):p.ml (i+1)=(g,q):=by
 unfold PS.ml;rw[h,aq z,aj (by rw[hk];decide)]
theorem vG{i:Nat}{g:Int}(h:p.ml i=(g,q))(z:¬g=1):p.ml (i+1)=(g,q):=by
 unfold PS.ml;rw[h,aj z]
theorem Vj(p:PS):p.ml 4=p.mode:=by
 have h0:p.ml 0=(1,p):=rfl
 unfold PS.mode
 cases I:(p.keyword oe).1
 ·have G:=zD h0 rfl I
  cases h2:(p.keyword od).1
  ·have A:=zD G rfl h2
   cases J:(p.keyword og).1
   ·have z:=zD A rfl J
    cases K:(p.keyword oc).1
    ·rw[zD z rfl K];simp
    rw[zC z rfl K];simp;rfl
   have z:=zC A rfl J
   rw[vG z (by decide)];simp;rfl
  have A:=zC G rfl h2
  have z:=vG A (by decide)
  rw[vG z (by decide)];simp;rfl
 have G:=zC h0 rfl I
 have A:=vG G (by decide)
 have z:=vG A (by decide)
 rw[vG z (by decide)];simp;rfl
set_option maxHeartbeats 4000000 in
theorem Ui{T:bf}(F:FT T){D:Rd}(Lq:ka T D){a:Bool}{p:PS}(hp:bd p){R:Ex→b0→br→Prop}(K:∀VE B,kj hO.res (ko (p.query D)) .ret VE B→R .ret VE B):VC T (Vg hO.body) [(0,.vp 1000 0),(2,.vp 2 0)] (PS.bq a p++[(2,.one 38 328 [d0,d0,d0,d0,dN,dN,dS [],dS [],dN,d0,d0,dN,d0,dN,dN,dN,dN,dN,d0,d0,d0])]) R:=by
 refine ak 3 aa (ak 3 aa (aM (ak 1 aa (bN ?_))))
 refine d7 (fun k VE B=>∃(i:Nat)(g:Int)(q:PS),i≤4∧k=4-i∧p.ml i=(g,q)∧bO p q∧bu [(0,.vp 1000 0),(2,.vp 2 0),(9,.vp 9 0),(10,.vp 10 0),(11,dI (i:Nat))] VE∧bu (PS.bq a q++[(9,.one 38 328 [dI 1,dI g,dI (-1),d0,dN,dN,dS [],dS [],dN,d0,d0,dN,d0,dN,dN,dN,dN,dN,d0,d0,d0]),(10,.one 173 64 [VV.d (cJ oe),dS od,dS og,dS oc]),(2,.one 38 328 [d0,d0,d0,d0,dN,dN,dS [],dS [],dN,d0,d0,dN,d0,dN,dN,dN,dN,dN,d0,d0,d0])]) B) ?_ (k:=4) ⟨0,Int.ofNat 1,p,by decide,rfl,rfl,.refl hp,⟨rfl,rfl,rfl,rfl,rfl,trivial⟩,cG rfl ⟨rfl,rfl,rfl,trivial⟩⟩
 rintro k VE B⟨i,g,q,hi,rfl,U,O,hV,hB⟩
 refine ey (PS.bq a q++[(9,.one 38 328 [dI 1,dI g,dI (-1),d0,dN,dN,dS [],dS [],dN,d0,d0,dN,d0,dN,dN,dN,dN,dN,d0,d0,d0]),(10,.one 173 64 [VV.d (cJ oe),dS od,dS og,dS oc]),(2,.one 38 328 [d0,d0,d0,d0,dN,dN,dS [],dS [],dN,d0,d0,dN,d0,dN,dN,dN,dN,dN,d0,d0,d0])]) hB ?_
 have hB:bu (PS.bq a q++[(9,.one 38 328 [dI 1,dI g,dI (-1),d0,dN,dN,dS [],dS [],dN,d0,d0,dN,d0,dN,dN,dN,dN,dN,d0,d0,d0]),(10,.one 173 64 [VV.d (cJ oe),dS od,dS og,dS oc]),(2,.one 38 328 [d0,d0,d0,d0,dN,dN,dS [],dS [],dN,d0,d0,dN,d0,dN,dN,dN,dN,dN,d0,d0,d0])]) (PS.bq a q++[(9,.one 38 328 [dI 1,dI g,dI (-1),d0,dN,dN,dS [],dS [],dN,d0,d0,dN,d0,dN,dN,dN,dN,dN,d0,d0,d0]),(10,.one 173 64 [VV.d (cJ oe),dS od,dS og,dS oc]),(2,.one 38 328 [d0,d0,d0,d0,dN,dN,dS [],dS [],dN,d0,d0,dN,d0,dN,dN,dN,dN,dN,d0,d0,d0])]):=cG rfl ⟨rfl,rfl,rfl,trivial⟩
 refine dy _ _ hV hB (aM (ak 2 aa (aJ aa (fun I=>?_) (fun I=>?_))))
 ·have hi4:i<4:=by simp at I;omega
  obtain⟨s,Y,hk⟩:∃s,x9 i=s∧[VV.d (cJ oe),.d (cJ od),.d (cJ og),.d (cJ oc)][0+i*1]?=some (.d (cJ s)):=by
   rcases(by omega:i=0∨i=1∨i=2∨i=3) with rfl|rfl|rfl|rfl<;>exact⟨_,rfl,rfl⟩
  refine aT (aM (bN (ai (ae 4 aa (cX (g:=qY) aa (fun z=>?_) (fun z=>?_))))))
  ·have hg:g=1:=by simpa using z
   refine ao aa (z) (bM aa ?_)
   refine ao aa (z) (bM aa ?_)
   refine ao aa (z) (oi aa aa hi4 ?_)
   refine ao aa (z) (cW aa aa hk ?_)
   refine ao aa (z) (vY (fC F O.ok s) aa aa aa aa ?_)
   refine al (cS aa (z) aa ?_)
   refine af (aJ aa (fun A=>?_) (fun A=>?_))
   ·have Z:=zC U hg (by rw[Y];exact A)
    rw[Y] at Z
    have J:=O.trans (O.top.kw s)
    refine bG (ae 1 aa (al (Cm aa aa ?_)))
    rw[wrap_i64 (by simp only[aZ];omega) (by simp only[aZ];omega)]
    refine ae 2 aa (af ?_)
    refine bG (ae 1 aa ?_)
    refine al (cV rfl rfl (by omega) ?_)
    refine ae 1 aa (af ?_)
    exact⟨4-(i+1),by omega,i+1,_,_,by omega,rfl,Z,J,⟨rfl,rfl,rfl,rfl,rfl,trivial⟩,cG rfl ⟨rfl,rfl,rfl,trivial⟩⟩
   have Z:=zD U hg (by rw[Y];exact A)
   have J:=O
   rw[PS.cK A]
   refine aT (bG (ae 1 aa ?_))
   refine al (cV rfl rfl (by omega) ?_)
   refine ae 1 aa (af ?_)
   exact⟨4-(i+1),by omega,i+1,_,_,by omega,rfl,Z,J,⟨rfl,rfl,rfl,rfl,rfl,trivial⟩,cG rfl ⟨rfl,rfl,rfl,trivial⟩⟩
  have hg:¬g=1:=by simpa using z
  have Z:=vG U hg
  have J:=O
  refine aO aa (z) (aO aa (z) (aO aa (z) (aO aa (z) (aO aa (z) (al (cI aa (z) aa ?_))))))
  refine af (eI aa aa (aT (bG (ae 1 aa ?_))))
  refine al (cV rfl rfl (by omega) ?_)
  refine ae 1 aa (af ?_)
  exact⟨4-(i+1),by omega,i+1,_,_,by omega,rfl,Z,J,⟨rfl,rfl,rfl,rfl,rfl,trivial⟩,cG rfl ⟨rfl,rfl,rfl,trivial⟩⟩
 have h4:i=4:=by simp at I;omega
 subst h4
 rw[Vj] at U
 have g1:=O.top.cQ D true
 refine dM (ak 4 aa (ai (ae 1 aa (al (pQ (GR (a:=true) F Lq O.top) aa aa aa (fun r hr=>?_))))))
 obtain⟨s,rfl,Y⟩:=hr
 refine ae 2 aa (af ?_)
 refine aM (ai (ae 1 aa (bH (fC F g1.ok jG) aa aa aa aa (af (aJ aa (fun G=>?_) (fun G=>?_))))))
 ·have hd:(q.cQ D true).2.gD D=(((q.cQ D true).2.keyword jG).2.aU [jV]).day D:=aq G
  have g2:=g1.top.kw jG
  have g3:=g2.top.dD [jV]
  have g4:=g3.top.day D
  have g5:=g4.top.hM
  refine ai (ae 1 aa (bH (iY F g2.ok jV) aa aa aa aa (af (bG (ae 1 aa (al (pQ (OS F Lq g3.st) aa aa aa (fun r hr=>?_))))))))
  obtain⟨v,rfl,hv⟩:=hr
  refine ae 2 aa (af ?_)
  refine ai (ae 1 aa (bH (Ge F g4.top) aa aa aa aa (ae 2 aa (af ?_))))
  refine ak 2 aa (ax ?_)
  unfold PS.query at K
  rw[U] at K
  rw[show(((g,q):Int×PS)).2=q from rfl,hd] at K
  exact K _ _ ⟨_,PS.bq _ _,rfl,⟨rfl,trivial⟩,{kind:=1,mode:=g,day:=v,aI:=_,cQ:=s},_,rfl,rfl,fun h0=>by rw[Y (g2.er (g3.er (g4.er (g5.er h0)))),hv (g5.er h0)]⟩
 have hd:(q.cQ D true).2.gD D=(-1,(q.cQ D true).2):=aj (by rw[G];decide)
 rw[PS.cK G]
 have g5:=g1.top.hM
 refine aT (ai (ae 1 aa (bH (Ge F g1.top) aa aa aa aa (ae 2 aa (af ?_)))))
 refine ak 2 aa (ax ?_)
 unfold PS.query at K
 rw[U] at K
 rw[show(((g,q):Int×PS)).2=q from rfl,hd] at K
 exact K _ _ ⟨_,PS.bq _ _,rfl,⟨rfl,trivial⟩,{kind:=1,mode:=g,day:= -1,aI:=_,cQ:=s},_,rfl,rfl,fun h0=>by rw[Y (g5.er h0)]⟩
open Go
set_option maxRecDepth 10000
set_option maxHeartbeats 4000000 in
theorem Rn{T:bf}(F:FT T){D:Rd}(Lq:ka T D){p:PS}(hp:bd p)(hx:p.ex=[]):bV T 80 [.vp 1000 0] (PS.bq false p) (ko (p.cT D)):=by
 refine cl F.f80 aa ?_
 refine ak 1 aa ?_
 refine aM ?_
 refine bN ?_
 refine ai ?_
 refine ae 1 aa ?_
 refine bH (fC F hp.ok rU) aa aa aa aa ?_
 refine ae 1 aa (af ?_)
 refine aJ aa (fun z=>?_) (fun z=>?_)
 ·have K:p.cT D=(p.keyword rU).2.insert D:=by unfold PS.cT;rw[aq z]
  refine dy [(0,.vp 1000 0),(2,.vp 2 0)] (PS.bq false (p.keyword rU).2++[(2,.one 38 328 [d0,d0,d0,d0,dN,dN,dS [],dS [],dN,d0,d0,dN,d0,dN,dN,dN,dN,dN,d0,d0,d0])]) ⟨aa,aa,trivial⟩ (cG aa ⟨aa,trivial⟩) ?_
  refine Ub F Lq (hp.kw rU).top ?_
  intro VE B k
  show kj hO.res (ko (p.cT D)) .ret VE B
  rw[K]
  exact k
 rw[PS.cK z]
 refine ai ?_
 refine ae 1 aa ?_
 refine bH (fC F hp.ok rV) aa aa aa aa ?_
 refine ae 1 aa (af ?_)
 refine aJ aa (fun G=>?_) (fun G=>?_)
 ·have K:p.cT D=(p.keyword rV).2.remove D:=by unfold PS.cT;rw[aj (by rw[z];decide),aq G]
  refine dy [(0,.vp 1000 0),(2,.vp 2 0)] (PS.bq false (p.keyword rV).2++[(2,.one 38 328 [d0,d0,d0,d0,dN,dN,dS [],dS [],dN,d0,d0,dN,d0,dN,dN,dN,dN,dN,d0,d0,d0])]) ⟨aa,aa,trivial⟩ (cG aa ⟨aa,trivial⟩) ?_
  refine Ud F Lq (hp.kw rV).top ((mb ..).trans hx) ?_
  intro VE B k
  show kj hO.res (ko (p.cT D)) .ret VE B
  rw[K]
  exact k
 rw[PS.cK G]
 refine ai ?_
 refine ae 1 aa ?_
 refine bH (fC F hp.ok rW) aa aa aa aa ?_
 refine ae 1 aa (af ?_)
 refine aJ aa (fun I=>?_) (fun I=>?_)
 ·have K:p.cT D=(p.keyword rW).2.update D:=by unfold PS.cT;rw[aj (by rw[z];decide),aj (by rw[G];decide),aq I]
  refine dy [(0,.vp 1000 0),(2,.vp 2 0)] (PS.bq false (p.keyword rW).2++[(2,.one 38 328 [d0,d0,d0,d0,dN,dN,dS [],dS [],dN,d0,d0,dN,d0,dN,dN,dN,dN,dN,d0,d0,d0])]) ⟨aa,aa,trivial⟩ (cG aa ⟨aa,trivial⟩) ?_
  refine Uh F Lq (hp.kw rW).top ((mb ..).trans hx) ?_
  intro VE B k
  show kj hO.res (ko (p.cT D)) .ret VE B
  rw[K]
  exact k
 rw[PS.cK I]
 refine ai ?_
 refine ae 1 aa ?_
 refine bH (fC F hp.ok rX) aa aa aa aa ?_
 refine ae 1 aa (af ?_)
 refine aJ aa (fun O=>?_) (fun O=>?_)
 ·have K:p.cT D=(p.keyword rX).2.create:=by unfold PS.cT;rw[aj (by rw[z];decide),aj (by rw[G];decide),aj (by rw[I];decide),aq O]
  refine dy [(0,.vp 1000 0),(2,.vp 2 0)] (PS.bq false (p.keyword rX).2++[(2,.one 38 328 [d0,d0,d0,d0,dN,dN,dS [],dS [],dN,d0,d0,dN,d0,dN,dN,dN,dN,dN,d0,d0,d0])]) ⟨aa,aa,trivial⟩ (cG aa ⟨aa,trivial⟩) ?_
  refine Ue F (hp.kw rX).top ?_
  intro VE B k
  show kj hO.res (ko (p.cT D)) .ret VE B
  rw[K]
  exact k
 rw[PS.cK O]
 refine ai ?_
 refine ae 1 aa ?_
 refine bH (fC F hp.ok r9) aa aa aa aa ?_
 refine ae 1 aa (af ?_)
 refine aJ aa (fun Y=>?_) (fun Y=>?_)
 ·have K:p.cT D=(p.keyword r9).2.alter:=by unfold PS.cT;rw[aj (by rw[z];decide),aj (by rw[G];decide),aj (by rw[I];decide),aj (by rw[O];decide),aq Y]
  refine dy [(0,.vp 1000 0),(2,.vp 2 0)] (PS.bq false (p.keyword r9).2++[(2,.one 38 328 [d0,d0,d0,d0,dN,dN,dS [],dS [],dN,d0,d0,dN,d0,dN,dN,dN,dN,dN,d0,d0,d0])]) ⟨aa,aa,trivial⟩ (cG aa ⟨aa,trivial⟩) ?_
  refine Vh F (hp.kw r9).top ?_
  intro VE B k
  show kj hO.res (ko (p.cT D)) .ret VE B
  rw[K]
  exact k
 rw[PS.cK Y]
 refine ai ?_
 refine ae 1 aa ?_
 refine bH (fC F hp.ok se) aa aa aa aa ?_
 refine ae 1 aa (af ?_)
 refine aJ aa (fun A=>?_) (fun A=>?_)
 ·have K:p.cT D=(p.keyword se).2.qz D:=by unfold PS.cT;rw[aj (by rw[z];decide),aj (by rw[G];decide),aj (by rw[I];decide),aj (by rw[O];decide),aj (by rw[Y];decide),aq A]
  refine dy [(0,.vp 1000 0),(2,.vp 2 0)] (PS.bq false (p.keyword se).2++[(2,.one 38 328 [d0,d0,d0,d0,dN,dN,dS [],dS [],dN,d0,d0,dN,d0,dN,dN,dN,dN,dN,d0,d0,d0])]) ⟨aa,aa,trivial⟩ (cG aa ⟨aa,trivial⟩) ?_
  refine We F Lq (hp.kw se).top aa ?_
  intro VE B k
  show kj hO.res (ko (p.cT D)) .ret VE B
  rw[K]
  exact k
 rw[PS.cK A]
 refine ai ?_
 refine ae 1 aa ?_
 refine bH (fC F hp.ok rY) aa aa aa aa ?_
 refine ae 1 aa (af ?_)
 refine aJ aa (fun J=>?_) (fun J=>?_)
 ·have K:p.cT D=({kind:=9},(p.keyword rY).2):=by unfold PS.cT;rw[aj (by rw[z];decide),aj (by rw[G];decide),aj (by rw[I];decide),aj (by rw[O];decide),aj (by rw[Y];decide),aj (by rw[A];decide),aq J]
  refine dy [(0,.vp 1000 0),(2,.vp 2 0)] (PS.bq false (p.keyword rY).2++[(2,.one 38 328 [d0,d0,d0,d0,dN,dN,dS [],dS [],dN,d0,d0,dN,d0,dN,dN,dN,dN,dN,d0,d0,d0])]) ⟨aa,aa,trivial⟩ (cG aa ⟨aa,trivial⟩) ?_
  refine Uf F (hp.kw rY).top ?_
  intro VE B k
  show kj hO.res (ko (p.cT D)) .ret VE B
  rw[K]
  exact k
 rw[PS.cK J]
 refine ai ?_
 refine ae 1 aa ?_
 refine bH (fC F hp.ok sf) aa aa aa aa ?_
 refine ae 1 aa (af ?_)
 refine aJ aa (fun U=>?_) (fun U=>?_)
 ·have K:p.cT D=(p.keyword sf).2.hold:=by unfold PS.cT;rw[aj (by rw[z];decide),aj (by rw[G];decide),aj (by rw[I];decide),aj (by rw[O];decide),aj (by rw[Y];decide),aj (by rw[A];decide),aj (by rw[J];decide),aq U]
  refine dy [(0,.vp 1000 0),(2,.vp 2 0)] (PS.bq false (p.keyword sf).2++[(2,.one 38 328 [d0,d0,d0,d0,dN,dN,dS [],dS [],dN,d0,d0,dN,d0,dN,dN,dN,dN,dN,d0,d0,d0])]) ⟨aa,aa,trivial⟩ (cG aa ⟨aa,trivial⟩) ?_
  refine Wf F (hp.kw sf).top ?_
  intro VE B k
  show kj hO.res (ko (p.cT D)) .ret VE B
  rw[K]
  exact k
 rw[PS.cK U]
 refine ai ?_
 refine ae 1 aa ?_
 refine bH (fC F hp.ok pv) aa aa aa aa ?_
 refine ae 1 aa (af ?_)
 refine aJ aa (fun Z=>?_) (fun Z=>?_)
 ·have K:p.cT D=({kind:=11,n:=((p.keyword pv).2.number (-1)).1},((p.keyword pv).2.number (-1)).2):=by unfold PS.cT;rw[aj (by rw[z];decide),aj (by rw[G];decide),aj (by rw[I];decide),aj (by rw[O];decide),aj (by rw[Y];decide),aj (by rw[A];decide),aj (by rw[J];decide),aj (by rw[U];decide),aq Z]
  refine dy [(0,.vp 1000 0),(2,.vp 2 0)] (PS.bq false (p.keyword pv).2++[(2,.one 38 328 [d0,d0,d0,d0,dN,dN,dS [],dS [],dN,d0,d0,dN,d0,dN,dN,dN,dN,dN,d0,d0,d0])]) ⟨aa,aa,trivial⟩ (cG aa ⟨aa,trivial⟩) ?_
  refine S9 F (hp.kw pv).top ?_
  intro VE B k
  show kj hO.res (ko (p.cT D)) .ret VE B
  rw[K]
  exact k
 rw[PS.cK Z]
 refine ai ?_
 refine ae 1 aa ?_
 refine bH (fC F hp.ok pB) aa aa aa aa ?_
 refine ae 1 aa (af ?_)
 refine aJ aa (fun EM=>?_) (fun EM=>?_)
 ·have K:p.cT D=({kind:=12,n:=(((p.keyword pB).2.aU [oA]).number (-1)).1},(((p.keyword pB).2.aU [oA]).number (-1)).2):=by unfold PS.cT;rw[aj (by rw[z];decide),aj (by rw[G];decide),aj (by rw[I];decide),aj (by rw[O];decide),aj (by rw[Y];decide),aj (by rw[A];decide),aj (by rw[J];decide),aj (by rw[U];decide),aj (by rw[Z];decide),aq EM]
  refine dy [(0,.vp 1000 0),(2,.vp 2 0)] (PS.bq false (p.keyword pB).2++[(2,.one 38 328 [d0,d0,d0,d0,dN,dN,dS [],dS [],dN,d0,d0,dN,d0,dN,dN,dN,dN,dN,d0,d0,d0])]) ⟨aa,aa,trivial⟩ (cG aa ⟨aa,trivial⟩) ?_
  refine Ug F (hp.kw pB).top ?_
  intro VE B k
  show kj hO.res (ko (p.cT D)) .ret VE B
  rw[K]
  exact k
 rw[PS.cK EM]
 refine aT ?_
 have K:p.cT D=p.query D:=by unfold PS.cT;rw[aj (by rw[z];decide),aj (by rw[G];decide),aj (by rw[I];decide),aj (by rw[O];decide),aj (by rw[Y];decide),aj (by rw[A];decide),aj (by rw[J];decide),aj (by rw[U];decide),aj (by rw[Z];decide),aj (by rw[EM];decide)]
 refine dy [(0,.vp 1000 0),(2,.vp 2 0)] (PS.bq false p++[(2,.one 38 328 [d0,d0,d0,d0,dN,dN,dS [],dS [],dN,d0,d0,dN,d0,dN,dN,dN,dN,dN,d0,d0,d0])]) ⟨aa,aa,trivial⟩ (cG aa ⟨aa,trivial⟩) ?_
 refine Ui F Lq hp ?_
 intro VE B k
 show kj hO.res (ko (p.cT D)) .ret VE B
 rw[K]
 exact k
end Go.Ev.Pp
