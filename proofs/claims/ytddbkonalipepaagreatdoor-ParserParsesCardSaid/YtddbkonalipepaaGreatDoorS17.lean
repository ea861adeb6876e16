/- Part 17 of rules for walks through the code of a program, and of such walks; what each part proves is said by its theorems. -/
import Derived.Test.YtddbkonalipepaaGreatDoorS13
import Derived.Test.YtddbkonalipepaaGreatDoorS16
set_option linter.unusedVariables false
set_option linter.unusedSimpArgs false
namespace Go.Ev.Pp
open Go
set_option maxRecDepth 10000
set_option maxHeartbeats 4000000 in
theorem insertC{T:bf}(F:FT T){D:Rd}(K:g7 T D){p:PS}(hp:bd p):bV T 92 [.vp 1000 0] (PS.bi p) fun r Bn=>r=ep (p.insert D).1.enc∧Bn=PS.bi (p.insert D).2:=by
 refine cl F.f92 aa ?_
 have G:∀x:PS,bd x→bO x (PS.literal x D).2:=fun _ h=>h.literal D
 refine ak 1 aa (ai (ae 2 aa (gB 5 5 aa aa (fun _=>⟨aa,aa⟩) ?_)))
 refine bh (aU F hp.ok [lD] (by decide)) rfl rfl rfl rfl rfl ?_
 refine af (ai (ae 1 aa (bh (name F (hp.dD [lD]).st) aa aa aa aa aa (ae 1 aa (rK 9 8 1108 73 32 3 aa aa aa (ae 2 aa (af ?_)))))))
 refine ai (ae 2 aa (gB 11 11 aa aa (fun _=>⟨aa,aa⟩) ?_))
 refine bh (aU F hp.kP.ok [lp] (by decide)) rfl rfl rfl rfl rfl ?_
 refine af (ai (ae 1 aa (bh (bw F (hp.kP.top.dD [lp]).ok cg) aa aa aa aa aa (af (eU (bm 3 aa (mR (literal F K hp.sh.st) aa aa aa aa aa aa (bm 1 aa (eJ aa (eu (rows:=[]) (ys:=[(((p.kP.aU [lp]).bw cg).literal D).1.enc]) aa aa aa (.bs (rows:=[(((p.kP.aU [lp]).bw cg).literal D).1.enc]) aa) (bS aa) (bS aa) (fun _=>aa) (fun _=>aa) ?_))))))))))
 refine bm 2 aa (da ?_)
 refine aM (bN (d7 (fun k VE B=>∃(l:List _)(q:PS),kv (fun p=>PS.literal p D) k l q=(je (fun p=>PS.literal p D) ((p.kP.aU [lp]).bw cg))∧l≠[]∧l.length≤q.aI+1∧((p.kP.aU [lp]).bw cg).ay.length≤k+q.aI∧bO ((p.kP.aU [lp]).bw cg) q∧bu [(0,.vp 1000 0),(2,.vp 2 0),(3,.vp 3 0)] VE∧bu (PS.bi q++[(3,.one 38 328 [dI 2,d0,d0,d0,dN,dN,dS (p.aU [lD]).name.1,dS [],.ac 1108 (l.map gX.enc).length 3,d0,d0,dN,d0,dN,dN,dN,dN,dN,d0,d0,d0]),(1108,.acc 73 32 3 (l.map gX.enc)),(2,.one 38 328 [d0,d0,d0,d0,dN,dN,dS [],dS [],dN,d0,d0,dN,d0,dN,dN,dN,dN,dN,d0,d0,d0])]) B) ?_ (k:=((p.kP.aU [lp]).bw cg).ay.length) ⟨[(PS.literal ((p.kP.aU [lp]).bw cg) D).1],(PS.literal ((p.kP.aU [lp]).bw cg) D).2,aa,pK _ _,mD (dh _),jP _ _,G _ hp.sh.top,⟨aa,aa,aa,trivial⟩,di aa aa ⟨aa,aa,aa,trivial⟩⟩))
 rintro k VE B⟨l,q,z,O,jk,hk,I,hV,U⟩
 refine ey (PS.bi q++[(3,.one 38 328 [dI 2,d0,d0,d0,dN,dN,dS (p.aU [lD]).name.1,dS [],.ac 1108 (l.map gX.enc).length 3,d0,d0,dN,d0,dN,dN,dN,dN,dN,d0,d0,d0]),(1108,.acc 73 32 3 (l.map gX.enc)),(2,.one 38 328 [d0,d0,d0,d0,dN,dN,dS [],dS [],dN,d0,d0,dN,d0,dN,dN,dN,dN,dN,d0,d0,d0])]) U ?_
 have U:bu (PS.bi q++[(3,.one 38 328 [dI 2,d0,d0,d0,dN,dN,dS (p.aU [lD]).name.1,dS [],.ac 1108 (l.map gX.enc).length 3,d0,d0,dN,d0,dN,dN,dN,dN,dN,d0,d0,d0]),(1108,.acc 73 32 3 (l.map gX.enc)),(2,.one 38 328 [d0,d0,d0,d0,dN,dN,dS [],dS [],dN,d0,d0,dN,d0,dN,dN,dN,dN,dN,d0,d0,d0])]) (PS.bi q++[(3,.one 38 328 [dI 2,d0,d0,d0,dN,dN,dS (p.aU [lD]).name.1,dS [],.ac 1108 (l.map gX.enc).length 3,d0,d0,dN,d0,dN,dN,dN,dN,dN,d0,d0,d0]),(1108,.acc 73 32 3 (l.map gX.enc)),(2,.one 38 328 [d0,d0,d0,d0,dN,dN,dS [],dS [],dN,d0,d0,dN,d0,dN,dN,dN,dN,dN,d0,d0,d0])]):=di rfl rfl ⟨rfl,rfl,rfl,trivial⟩
 have gh:q.ay.length=((p.kP.aU [lp]).bw cg).ay.length:=by rw[I.ay]
 refine dy _ _ hV U (aM (ai (ae 1 aa (bh (sign F I.ok cE) aa aa aa aa aa (af (aJ aa (fun A=>?_) (fun A=>?_)))))))
 ·have h2:=I.top.sign cE
  have J:=ot I.ok A
  have fi:=I.ok.dY
  obtain⟨k,rfl⟩:∃k',k=k'+1:=⟨k-1,by have:=J.2;omega⟩
  rw[ou A] at z
  have Z:=h2.trans (G _ h2.top)
  refine aT (bN (iK (bm 3 aa (mR (literal F K h2.top.st) aa aa aa aa aa aa (bm 1 aa ?_)))))
  refine eJ rfl (eu (rows:=l.map gX.enc) (ys:=[((PS.literal (q.sign cE).2 D).1).enc]) rfl rfl rfl (.bs (rows:=[((PS.literal (q.sign cE).2 D).1).enc]) rfl) (bS rfl) (by simp only[bJ,cF,dj,dJ];omega) (fun h=>by rw[h];rfl) (fun h=>by rw[h];rfl) ?_)
  refine bm 2 aa (da ?_)
  refine⟨k,fS k,l++[(PS.literal (q.sign cE).2 D).1],(PS.literal (q.sign cE).2 D).2,z,mh O _,?_,?_,I.trans Z,?_,?_⟩
  ·have:=Z.aI;have:=J.1;have:=(G _ h2.top).aI;rw[bJ,eG];show l.length+1≤(PS.literal (q.sign cE).2 D).2.aI+1;omega
  ·have:=(G _ h2.top).aI;have:=J.1;show((p.kP.aU [lp]).bw cg).ay.length≤k+(PS.literal (q.sign cE).2 D).2.aI;omega
  ·try simp only[dX,ez,fw]
   exact⟨aa,aa,aa,trivial⟩
  try simp only[dX,ez,fw]
  exact di aa aa ⟨aa,aa,aa,trivial⟩
 rw[ov A] at z
 rw[PS.ic A]
 have hI:p.sA D=(l,q):=by unfold PS.sA;rw[←z]
 have Y:p.pY D=(q.bw dG).aU [kO]:=by unfold PS.pY;rw[hI]
 have g1:=I.top.gP dG
 have hm:p.insert D=({kind:=2,table:=(p.aU [lD]).name.1,row:=l,valid:=((p.pY D).period D).1},((p.pY D).period D).2):=by unfold PS.insert;rw[hI]
 refine dM (ai (ae 1 aa (bh (bw F I.ok dG) aa aa aa aa aa (af (ai (ae 2 aa (gB 34 34 aa aa (fun _=>⟨aa,aa⟩) ?_)))))))
 refine bh (aU F g1.ok [kO] (by decide)) rfl rfl rfl rfl rfl ?_
 refine af (ai ?_)
 rw[←Y]
 refine ae 1 aa (bh (period F K (hp.pY D).st) aa aa aa aa aa (ae 2 aa (af ?_)))
 refine ai (ae 1 aa (fu 39 1108 aa aa ⟨trivial,trivial,trivial,trivial,trivial,trivial,trivial,trivial,fun _=>⟨aa,aa⟩,trivial,trivial,trivial,trivial,trivial,trivial,trivial,trivial,trivial,trivial,trivial,trivial,trivial⟩ (ae 1 aa (af ?_))))
 refine ax ?_
 rw[hm]
 exact⟨_,PS.bi _,aa,cH aa aa,aa,aa⟩
set_option maxHeartbeats 4000000 in
theorem T2{T:bf}(F:FT T){D:Rd}(z:g7 T D){p:PS}(hp:bd p):bV T 93 [.vp 1000 0] (PS.bi p) fun r Bn=>r=ep (p.remove D).1.enc∧Bn=PS.bz (p.remove D).2:=by
 refine cl F.f93 aa (ak 1 aa (ai (ae 2 aa (gB 5 5 aa aa (fun _=>⟨aa,aa⟩) ?_))))
 refine bh (aU F hp.ok [hZ] (by decide)) rfl rfl rfl rfl rfl ?_
 refine af (ai (ae 1 aa (bh (name F (hp.dD [hZ]).st) aa aa aa aa aa (ae 3 aa (af ?_)))))
 refine ai (ae 2 aa (gB 11 11 aa aa (fun _=>⟨aa,aa⟩) ?_))
 refine bh (aU F (hp.dD [hZ]).top.name.ok [kO,om,jZ] (by decide)) rfl rfl rfl rfl rfl ?_
 refine af (ai (ae 1 aa (bh (period F z hp.wt.st) aa aa aa aa aa (ae 2 aa (af ?_)))))
 refine ai (ae 1 aa (bh (CK F z (hp.nr D).top) aa aa aa aa aa (ae 2 aa (af ?_))))
 refine ai (ae 4 aa (fu 22 1050 aa aa (fun _=>⟨aa,aa⟩) (ae 2 aa (af ?_))))
 refine ai (jt 1000 5 aa aa (ae 2 aa (af ?_)))
 exact ax (⟨_,PS.bz (p.remove D).2,aa,fA aa,aa,aa⟩)
set_option maxHeartbeats 4000000 in
theorem T3{T:bf}(F:FT T){D:Rd}(K:g7 T D){p:PS}(hp:bd p):bV T 94 [.vp 1000 0] (PS.bi p) fun r Bn=>r=ep (p.update D).1.enc∧Bn=PS.bz (p.update D).2:=by
 refine cl F.f94 aa ?_
 have G:∀x:PS,bd x→bO x (PS.set x D).2:=fun _ h=>h.set D
 refine ak 1 aa (ai (ae 1 aa (bh (name F hp.st) aa aa aa aa aa (ae 1 aa (rK 6 13 1113 75 24 2 aa aa aa (ae 2 aa (af ?_)))))))
 refine ai (ae 2 aa (gB 8 8 aa aa (fun _=>⟨aa,aa⟩) ?_))
 refine bh (aU F hp.name.ok [kO,om,jZ] (by decide)) rfl rfl rfl rfl rfl ?_
 refine af (ai (ae 1 aa (bh (period F K hp.gG.st) aa aa aa aa aa (ae 2 aa (af ?_)))))
 refine ai (ae 2 aa (gB 14 14 aa aa (fun _=>⟨aa,aa⟩) ?_))
 refine bh (aU F (hp.gG.top.period D).ok [kz] (by decide)) rfl rfl rfl rfl rfl ?_
 refine af (eU (bm 3 aa (mR (gr F K (hp.x6 D).top) aa aa aa aa aa aa (bm 1 aa (eJ aa (eu (rows:=[]) (ys:=[eK (((p.gG.period D).2.aU [kz]).set D).1]) aa aa aa (.bs (rows:=[eK (((p.gG.period D).2.aU [kz]).set D).1]) aa) (bS aa) (bS aa) (fun _=>aa) (fun _=>aa) ?_))))))
 refine bm 2 aa (da ?_)
 refine aM (bN (d7 (fun k VE B=>∃(l:List _)(q:PS),kv (fun p=>PS.set p D) k l q=(je (fun p=>PS.set p D) ((p.gG.period D).2.aU [kz]))∧l≠[]∧l.length≤q.aI+1∧((p.gG.period D).2.aU [kz]).ay.length≤k+q.aI∧bO ((p.gG.period D).2.aU [kz]) q∧bu [(0,.vp 1000 0),(2,.vp 2 0),(3,.vp 3 0)] VE∧bu (PS.bi q++[(3,.one 38 328 [dI 4,d0,d0,d0,dN,dN,dS p.name.1,dS [],dN,dI (p.gG.period D).1.1,dI (p.gG.period D).1.2,dN,d0,.ac 1113 (l.map eK).length 2,dN,dN,dN,dN,d0,d0,d0]),(1113,.acc 75 24 2 (l.map eK)),(2,.one 38 328 [d0,d0,d0,d0,dN,dN,dS [],dS [],dN,d0,d0,dN,d0,dN,dN,dN,dN,dN,d0,d0,d0])]) B) ?_ (k:=((p.gG.period D).2.aU [kz]).ay.length) ⟨[(PS.set ((p.gG.period D).2.aU [kz]) D).1],(PS.set ((p.gG.period D).2.aU [kz]) D).2,aa,pK _ _,mD (dh _),jP _ _,G _ (hp.x6 D).top,⟨aa,aa,aa,trivial⟩,di aa aa ⟨aa,aa,aa,trivial⟩⟩))
 rintro k VE B⟨l,q,z,O,Z,hk,I,hV,U⟩
 refine ey (PS.bi q++[(3,.one 38 328 [dI 4,d0,d0,d0,dN,dN,dS p.name.1,dS [],dN,dI (p.gG.period D).1.1,dI (p.gG.period D).1.2,dN,d0,.ac 1113 (l.map eK).length 2,dN,dN,dN,dN,d0,d0,d0]),(1113,.acc 75 24 2 (l.map eK)),(2,.one 38 328 [d0,d0,d0,d0,dN,dN,dS [],dS [],dN,d0,d0,dN,d0,dN,dN,dN,dN,dN,d0,d0,d0])]) U ?_
 have U:bu (PS.bi q++[(3,.one 38 328 [dI 4,d0,d0,d0,dN,dN,dS p.name.1,dS [],dN,dI (p.gG.period D).1.1,dI (p.gG.period D).1.2,dN,d0,.ac 1113 (l.map eK).length 2,dN,dN,dN,dN,d0,d0,d0]),(1113,.acc 75 24 2 (l.map eK)),(2,.one 38 328 [d0,d0,d0,d0,dN,dN,dS [],dS [],dN,d0,d0,dN,d0,dN,dN,dN,dN,dN,d0,d0,d0])]) (PS.bi q++[(3,.one 38 328 [dI 4,d0,d0,d0,dN,dN,dS p.name.1,dS [],dN,dI (p.gG.period D).1.1,dI (p.gG.period D).1.2,dN,d0,.ac 1113 (l.map eK).length 2,dN,dN,dN,dN,d0,d0,d0]),(1113,.acc 75 24 2 (l.map eK)),(2,.one 38 328 [d0,d0,d0,d0,dN,dN,dS [],dS [],dN,d0,d0,dN,d0,dN,dN,dN,dN,dN,d0,d0,d0])]):=di rfl rfl ⟨rfl,rfl,rfl,trivial⟩
 have gh:q.ay.length=((p.gG.period D).2.aU [kz]).ay.length:=by rw[I.ay]
 refine dy _ _ hV U (aM (ai (ae 1 aa (bh (sign F I.ok cE) aa aa aa aa aa (af (aJ aa (fun A=>?_) (fun A=>?_)))))))
 ·have h2:=I.top.sign cE
  have J:=ot I.ok A
  have fi:=I.ok.dY
  obtain⟨k,rfl⟩:∃k',k=k'+1:=⟨k-1,by have:=J.2;omega⟩
  rw[ou A] at z
  have Y:=h2.trans (G _ h2.top)
  refine aT (bN (iK (bm 3 aa (mR (gr F K h2.top) aa aa aa aa aa aa (bm 1 aa ?_)))))
  refine eJ rfl (eu (rows:=l.map eK) (ys:=[eK ((PS.set (q.sign cE).2 D).1)]) rfl rfl rfl (.bs (rows:=[eK ((PS.set (q.sign cE).2 D).1)]) rfl) (bS rfl) (by simp only[bJ,cF,dj,dJ];omega) (fun h=>by rw[h];rfl) (fun h=>by rw[h];rfl) ?_)
  refine bm 2 aa (da ?_)
  refine⟨k,fS k,l++[(PS.set (q.sign cE).2 D).1],(PS.set (q.sign cE).2 D).2,z,mh O _,?_,?_,I.trans Y,?_,?_⟩
  ·have:=Y.aI;have:=J.1;have:=(G _ h2.top).aI;rw[bJ,eG];show l.length+1≤(PS.set (q.sign cE).2 D).2.aI+1;omega
  ·have:=(G _ h2.top).aI;have:=J.1;show((p.gG.period D).2.aU [kz]).ay.length≤k+(PS.set (q.sign cE).2 D).2.aI;omega
  ·try simp only[dX,ez,fw]
   exact⟨aa,aa,aa,trivial⟩
  try simp only[dX,ez,fw]
  exact di aa aa ⟨aa,aa,aa,trivial⟩
 rw[ov A] at z
 rw[PS.ic A]
 have hI:p.o4 D=(l,q):=by unfold PS.o4;rw[←z]
 have hm:p.update D=({kind:=4,table:=p.name.1,valid:=(p.gG.period D).1,mS:=l,wh:=(q.dW D).1,exprs:=(q.dW D).2.ex},(q.dW D).2):=by unfold PS.update;rw[hI]
 refine dM (ai (ae 1 aa (bh (CK F K I.top) aa aa aa aa aa (ae 2 aa (af ?_)))))
 refine ai (ae 4 aa (fu 38 1050 aa aa (fun _=>⟨aa,aa⟩) (ae 2 aa (af ?_))))
 refine ai (jt 1000 5 aa aa (ae 1 aa (fu 40 1113 aa aa ⟨trivial,trivial,trivial,trivial,trivial,trivial,trivial,trivial,trivial,trivial,trivial,trivial,trivial,fun _=>⟨aa,aa⟩,trivial,trivial,trivial,trivial,trivial,trivial,trivial,trivial⟩ (ae 1 aa (af ?_)))))
 refine ax ?_
 rw[hm]
 exact⟨_,PS.bz _,aa,fA aa,aa,aa⟩
set_option maxHeartbeats 4000000 in
theorem U9{T:bf}(F:FT T){p:PS}(hp:bd p):bV T 96 [.vp 1000 0] (PS.bi p) fun r Bn=>r=ep p.alter.1.enc∧Bn=PS.bi p.alter.2:=by
 refine cl F.f96 aa (ak 1 aa (ai (ae 2 aa (gB 5 5 aa aa (fun _=>⟨aa,aa⟩) ?_))))
 refine bh (aU F hp.ok [c6] (by decide)) rfl rfl rfl rfl rfl ?_
 refine af (ai (ae 1 aa (bh (name F (hp.dD [c6]).st) aa aa aa aa aa (ae 1 aa (af ?_)))))
 refine aM (bN (ai (ae 1 aa (bh (keyword F hp.gp.ok nT) aa aa aa aa aa (ae 1 aa (af ?_))))))
 refine aJ aa (fun A=>?_) (fun A=>?_)
 ·have I:=hp.gp.top.kw nT
  have G:p.alter=({kind:=6,table:=(p.aU [c6]).name.1,ji:=[(p.gp.keyword nT).2.column.1]},(p.gp.keyword nT).2.column.2):=by unfold PS.alter;rw[aq A]
  refine ai (ae 2 aa (bh (Gw F I.top) aa aa aa aa aa (ae 1 aa (gB 15 15 aa aa (fun _=>⟨aa,aa⟩) (ae 2 aa (af ?_))))))
  refine ax ?_
  rw[G]
  exact⟨_,PS.bi _,aa,cH aa aa,aa,aa⟩
 rw[PS.cK A]
 refine ai (ae 1 aa (bh (keyword F hp.gp.ok pO) aa aa aa aa aa (ae 1 aa (af ?_))))
 refine aJ aa (fun z=>?_) (fun z=>?_)
 ·have I:=hp.gp.top.kw pO
  have G:p.alter=({kind:=7,table:=(p.aU [c6]).name.1,name:=(p.gp.keyword pO).2.name.1},(p.gp.keyword pO).2.name.2):=by unfold PS.alter;rw[aj (by rw[A];decide),aq z]
  refine ai (ae 2 aa (bh (name F I.st) aa aa aa aa aa (ae 2 aa (af ?_))))
  refine ax ?_
  rw[G]
  exact⟨_,PS.bi _,aa,cH aa aa,aa,aa⟩
 rw[PS.cK z]
 have G:p.alter=(({}:Stmt),p.gp.fail 5):=by unfold PS.alter;rw[aj (by rw[A];decide),aj (by rw[z];decide)]
 refine aT (ai (ae 1 aa (bh (fail F hp.gp.ok 5) aa aa aa aa aa (af (ak 2 aa (ax ?_))))))
 rw[G]
 exact⟨_,PS.bi _,aa,cH aa aa,aa,aa⟩
open Go
set_option maxRecDepth 10000
set_option maxHeartbeats 8000000 in
theorem T5{T:bf}(F:FT T){p:PS}(hp:bd p):bV T 95 [.vp 1000 0] (PS.bi p) fun r Bn=>r=ep p.create.1.enc∧Bn=PS.bi p.create.2:=by
 refine cl F.f95 aa ?_
 have oa:∀x:PS,bd x→bO x (PS.column x).2:=fun _ h=>h.column
 refine ak 1 aa (ai (ae 2 aa (gB 6 6 aa aa (fun _=>⟨aa,aa⟩) ?_)))
 refine bh (aU F hp.ok [c6] (by decide)) rfl rfl rfl rfl rfl ?_
 refine af (ai (ae 1 aa (bh (name F (hp.dD [c6]).st) aa aa aa aa aa (ae 1 aa (rK 10 14 1114 77 32 3 aa aa aa (rK 10 16 1116 79 64 3 aa aa aa (rK 10 17 1117 81 32 2 aa aa aa (ae 2 aa (af ?_)))))))))
 refine ai (ae 1 aa (bh (bw F (hp.dD [c6]).top.name.ok cg) aa aa aa aa aa (af (eU (bm 3 aa (mR (Gw F hp.Aq.top) aa aa aa aa aa aa (bm 1 aa (eJ aa (eu (rows:=[]) (ys:=[cP ((p.aU [c6]).name.2.bw cg).column.1]) aa aa aa (.bs (rows:=[cP ((p.aU [c6]).name.2.bw cg).column.1]) aa) (bS aa) (bS aa) (fun _=>aa) (fun _=>aa) ?_)))))))))
 refine bm 2 aa (da ?_)
 refine aM (bN (d7 (fun k VE B=>∃(l:List _)(q:PS),kv PS.column k l q=(je PS.column ((p.aU [c6]).name.2.bw cg))∧l≠[]∧l.length≤q.aI+1∧((p.aU [c6]).name.2.bw cg).ay.length≤k+q.aI∧bO ((p.aU [c6]).name.2.bw cg) q∧bu [(0,.vp 1000 0),(2,.vp 2 0),(3,.vp 3 0)] VE∧bu (PS.bi q++[(3,.one 38 328 [dI 5,d0,d0,d0,dN,dN,dS (p.aU [c6]).name.1,dS [],dN,d0,d0,dN,d0,dN,.ac 1114 (l.map cP).length 3,dN,.ac 1116 0 3,.ac 1117 0 2,d0,d0,d0]),(1114,.acc 77 32 3 (l.map cP)),(1116,.acc 79 64 3 []),(1117,.acc 81 32 2 []),(2,.one 38 328 [d0,d0,d0,d0,dN,dN,dS [],dS [],dN,d0,d0,dN,d0,dN,dN,dN,dN,dN,d0,d0,d0])]) B) ?_ (k:=((p.aU [c6]).name.2.bw cg).ay.length) ⟨[(PS.column ((p.aU [c6]).name.2.bw cg)).1],(PS.column ((p.aU [c6]).name.2.bw cg)).2,aa,pK _ _,mD (dh _),jP _ _,oa _ hp.Aq.top,⟨aa,aa,aa,trivial⟩,di aa aa ⟨aa,aa,aa,aa,aa,trivial⟩⟩))
 rintro k VE B⟨l,q,z,lk,jk,hk,A,hV,Z⟩
 refine ey (PS.bi q++[(3,.one 38 328 [dI 5,d0,d0,d0,dN,dN,dS (p.aU [c6]).name.1,dS [],dN,d0,d0,dN,d0,dN,.ac 1114 (l.map cP).length 3,dN,.ac 1116 0 3,.ac 1117 0 2,d0,d0,d0]),(1114,.acc 77 32 3 (l.map cP)),(1116,.acc 79 64 3 []),(1117,.acc 81 32 2 []),(2,.one 38 328 [d0,d0,d0,d0,dN,dN,dS [],dS [],dN,d0,d0,dN,d0,dN,dN,dN,dN,dN,d0,d0,d0])]) Z ?_
 have Z:bu (PS.bi q++[(3,.one 38 328 [dI 5,d0,d0,d0,dN,dN,dS (p.aU [c6]).name.1,dS [],dN,d0,d0,dN,d0,dN,.ac 1114 (l.map cP).length 3,dN,.ac 1116 0 3,.ac 1117 0 2,d0,d0,d0]),(1114,.acc 77 32 3 (l.map cP)),(1116,.acc 79 64 3 []),(1117,.acc 81 32 2 []),(2,.one 38 328 [d0,d0,d0,d0,dN,dN,dS [],dS [],dN,d0,d0,dN,d0,dN,dN,dN,dN,dN,d0,d0,d0])]) (PS.bi q++[(3,.one 38 328 [dI 5,d0,d0,d0,dN,dN,dS (p.aU [c6]).name.1,dS [],dN,d0,d0,dN,d0,dN,.ac 1114 (l.map cP).length 3,dN,.ac 1116 0 3,.ac 1117 0 2,d0,d0,d0]),(1114,.acc 77 32 3 (l.map cP)),(1116,.acc 79 64 3 []),(1117,.acc 81 32 2 []),(2,.one 38 328 [d0,d0,d0,d0,dN,dN,dS [],dS [],dN,d0,d0,dN,d0,dN,dN,dN,dN,dN,d0,d0,d0])]):=di rfl rfl ⟨rfl,rfl,rfl,rfl,rfl,trivial⟩
 have gh:q.ay.length=((p.aU [c6]).name.2.bw cg).ay.length:=by rw[A.ay]
 refine dy _ _ hV Z (aM (ai (ae 1 aa (bh (sign F A.ok cE) aa aa aa aa aa (af (aJ aa (fun Bm=>?_) (fun Bm=>?_)))))))
 ·have h2:=A.top.sign cE
  have pc:=ot A.ok Bm
  have fi:=A.ok.dY
  obtain⟨k,rfl⟩:∃k',k=k'+1:=⟨k-1,by have:=pc.2;omega⟩
  rw[ou Bm] at z
  have h3:=h2.trans (oa _ h2.top)
  refine aT (bN (iK (bm 3 aa (mR (Gw F h2.top) aa aa aa aa aa aa (bm 1 aa ?_)))))
  refine eJ rfl (eu (rows:=l.map cP) (ys:=[cP ((PS.column (q.sign cE).2).1)]) rfl rfl rfl (.bs (rows:=[cP ((PS.column (q.sign cE).2).1)]) rfl) (bS rfl) (by simp only[bJ,cF,dj,dJ];omega) (fun h=>by rw[h];rfl) (fun h=>by rw[h];rfl) ?_)
  refine bm 2 aa (da ?_)
  refine⟨k,fS k,l++[(PS.column (q.sign cE).2).1],(PS.column (q.sign cE).2).2,z,mh lk _,?_,?_,A.trans h3,?_,?_⟩
  ·have:=h3.aI;have:=pc.1;have:=(oa _ h2.top).aI;rw[bJ,eG];show l.length+1≤(PS.column (q.sign cE).2).2.aI+1;omega
  ·have:=(oa _ h2.top).aI;have:=pc.1;show((p.aU [c6]).name.2.bw cg).ay.length≤k+(PS.column (q.sign cE).2).2.aI;omega
  ·try simp only[dX,ez,fw]
   exact⟨aa,aa,aa,trivial⟩
  try simp only[dX,ez,fw]
  exact di aa aa ⟨aa,aa,aa,aa,aa,trivial⟩
 rw[ov Bm] at z
 rw[PS.ic Bm]
 have hI:p.sB=(l,q):=by unfold PS.sB;rw[←z]
 have PB:p.il=q.bw dG:=by unfold PS.il;rw[hI]
 obtain⟨I,uT⟩:∃I,l=I:=⟨_,rfl⟩
 rw[uT] at hI⊢
 refine dM (ai (ae 1 aa (bh (bw F A.ok dG) aa aa aa aa aa (af (aM (ai ?_))))))
 rw[←PB]
 clear hV Z z lk jk hk gh PB uT
 refine ae 1 aa (bh (keyword F hp.il.ok rl) aa aa aa aa aa (af (aJ aa (fun pd=>?_) (fun pd=>?_))))
 ·have j1:=hp.il.top.kw rl
  obtain⟨K,yF⟩:∃K,(p.il.keyword rl).2.names.1=K:=⟨_,rfl⟩
  have hK:p.il.key=(K,(p.il.keyword rl).2.names.2):=by unfold PS.key;rw[aq pd,←yF]
  have hz:p.il.key.2=(p.il.keyword rl).2.names.2:=by rw[hK]
  refine bG (ae 1 aa (bh (sa F j1.top) aa aa aa aa aa (ae 2 aa (af ?_))))
  refine aM ?_
  (refine ey (PS.bi p.il.key.2++[(3,.one 38 328 [dI 5,d0,d0,d0,dN,dN,dS (p.aU [c6]).name.1,dS [],dN,d0,d0,dN,d0,dN,.ac 1114 (I.map cP).length 3,.d (fP K),.ac 1116 (([]:List Fk).map Fk.enc).length 3,.ac 1117 0 2,d0,d0,d0]),(1114,.acc 77 32 3 (I.map cP)),(1116,.acc 79 64 3 (([]:List Fk).map Fk.enc)),(1117,.acc 81 32 2 []),(2,.one 38 328 [d0,d0,d0,d0,dN,dN,dS [],dS [],dN,d0,d0,dN,d0,dN,dN,dN,dN,dN,d0,d0,d0])]) ?_ ?_; · exact di (by rw[hz];rfl) (by rw[hz];rfl) ⟨by rw[←yF];rfl,rfl,rfl,rfl,rfl,trivial⟩)
  refine bN (d7 (fun k VE B=>∃(l:List Fk)(q:PS),o5 k l q=p.o6∧l.length≤q.aI+1∧p.ay.length≤k+q.aI∧bO p q∧bu [(0,.vp 1000 0),(2,.vp 2 0),(3,.vp 3 0)] VE∧bu (PS.bi q++[(3,.one 38 328 [dI 5,d0,d0,d0,dN,dN,dS (p.aU [c6]).name.1,dS [],dN,d0,d0,dN,d0,dN,.ac 1114 (I.map cP).length 3,.d (fP K),.ac 1116 (l.map Fk.enc).length 3,.ac 1117 0 2,d0,d0,d0]),(1114,.acc 77 32 3 (I.map cP)),(1116,.acc 79 64 3 (l.map Fk.enc)),(1117,.acc 81 32 2 []),(2,.one 38 328 [d0,d0,d0,d0,dN,dN,dS [],dS [],dN,d0,d0,dN,d0,dN,dN,dN,dN,dN,d0,d0,d0])]) B) ?_ (k:=p.ay.length) ⟨[],p.il.key.2,aa,dh _,jP _ _,hp.x7,⟨aa,aa,aa,trivial⟩,di aa aa ⟨aa,aa,aa,aa,aa,trivial⟩⟩)
  clear A
  rintro k VE B⟨l,q,z,jk,hk,A,hV,Z⟩
  refine ey (PS.bi q++[(3,.one 38 328 [dI 5,d0,d0,d0,dN,dN,dS (p.aU [c6]).name.1,dS [],dN,d0,d0,dN,d0,dN,.ac 1114 (I.map cP).length 3,.d (fP K),.ac 1116 (l.map Fk.enc).length 3,.ac 1117 0 2,d0,d0,d0]),(1114,.acc 77 32 3 (I.map cP)),(1116,.acc 79 64 3 (l.map Fk.enc)),(1117,.acc 81 32 2 []),(2,.one 38 328 [d0,d0,d0,d0,dN,dN,dS [],dS [],dN,d0,d0,dN,d0,dN,dN,dN,dN,dN,d0,d0,d0])]) Z ?_
  have Z:bu (PS.bi q++[(3,.one 38 328 [dI 5,d0,d0,d0,dN,dN,dS (p.aU [c6]).name.1,dS [],dN,d0,d0,dN,d0,dN,.ac 1114 (I.map cP).length 3,.d (fP K),.ac 1116 (l.map Fk.enc).length 3,.ac 1117 0 2,d0,d0,d0]),(1114,.acc 77 32 3 (I.map cP)),(1116,.acc 79 64 3 (l.map Fk.enc)),(1117,.acc 81 32 2 []),(2,.one 38 328 [d0,d0,d0,d0,dN,dN,dS [],dS [],dN,d0,d0,dN,d0,dN,dN,dN,dN,dN,d0,d0,d0])]) (PS.bi q++[(3,.one 38 328 [dI 5,d0,d0,d0,dN,dN,dS (p.aU [c6]).name.1,dS [],dN,d0,d0,dN,d0,dN,.ac 1114 (I.map cP).length 3,.d (fP K),.ac 1116 (l.map Fk.enc).length 3,.ac 1117 0 2,d0,d0,d0]),(1114,.acc 77 32 3 (I.map cP)),(1116,.acc 79 64 3 (l.map Fk.enc)),(1117,.acc 81 32 2 []),(2,.one 38 328 [d0,d0,d0,d0,dN,dN,dS [],dS [],dN,d0,d0,dN,d0,dN,dN,dN,dN,dN,d0,d0,d0])]):=di rfl rfl ⟨rfl,rfl,rfl,rfl,rfl,trivial⟩
  have gh:q.ay.length=p.ay.length:=by rw[A.ay]
  have fi:=A.ok.dY
  refine dy _ _ hV Z (aM (ai (ae 1 aa (bh (keyword F A.ok lP) aa aa aa aa aa (af (aJ aa (fun O=>?_) (fun O=>?_)))))))
  ·have U:=nd A.ok O
   obtain⟨k,rfl⟩:∃k',k=k'+1:=⟨k-1,by omega⟩
   rw[GP O] at z
   have G:=A.top.kw lP
   have jY:=U.1
   generalize (q.keyword lP).2=J at z G jY⊢
   have j1:=G.top.names
   have j2:=G.top.sT
   have j3:=j2.top.name
   refine aT (bN (ai (ae 1 aa (bh (sa F G.top) aa aa aa aa aa (ae 3 aa (af ?_))))))
   refine ai (ae 2 aa (gB 42 42 aa aa (fun _=>⟨aa,aa⟩) ?_))
   refine bh (aU F j1.ok [yQ] (by decide)) rfl rfl rfl rfl rfl ?_
   refine af (ai (ae 1 aa (bh (name F j2.st) aa aa aa aa aa (ae 2 aa (af ?_)))))
   refine ai (ae 1 aa (bh (sa F j3.top) aa aa aa aa aa (ae 2 aa (af ?_))))
   refine bG (ae 4 aa ?_)
   refine al (eu (rows:=l.map Fk.enc) (ys:=[J.fk.1.enc]) rfl rfl rfl (.bs (rows:=[J.fk.1.enc]) rfl) (bS rfl) (by simp only[bJ,cF,dj,dJ];omega) (fun h=>by rw[h];rfl) (fun h=>by rw[h];rfl) ?_)
   refine ae 2 aa (af ?_)
   refine⟨k,fS k,l++[J.fk.1],J.fk.2,z,?_,?_,(A.trans G).trans G.top.fk,⟨aa,aa,aa,trivial⟩,?_⟩
   ·have:=G.top.fk.aI;rw[bJ,eG];omega
   ·have:=G.top.fk.aI;omega
   simp only[dX,ez,fw]
   exact di aa aa ⟨aa,aa,aa,aa,aa,trivial⟩
  rw[GQ O] at z
  rw[PS.cK O]
  obtain⟨lf,Bo⟩:∃lf,l=lf:=⟨_,rfl⟩
  rw[Bo] at z⊢
  clear hV Z jk hk gh Bo
  refine dM (bN ?_)
  refine d7 (fun k VE B=>∃(l:List (Int×List (List UInt8)))(q:PS),nL k l q=p.uO∧l.length≤q.aI+1∧p.ay.length≤k+q.aI∧bO p q∧bu [(0,.vp 1000 0),(2,.vp 2 0),(3,.vp 3 0)] VE∧bu (PS.bi q++[(3,.one 38 328 [dI 5,d0,d0,d0,dN,dN,dS (p.aU [c6]).name.1,dS [],dN,d0,d0,dN,d0,dN,.ac 1114 (I.map cP).length 3,.d (fP K),.ac 1116 (lf.map Fk.enc).length 3,.ac 1117 (l.map dQ).length 2,d0,d0,d0]),(1114,.acc 77 32 3 (I.map cP)),(1116,.acc 79 64 3 (lf.map Fk.enc)),(1117,.acc 81 32 2 (l.map dQ)),(2,.one 38 328 [d0,d0,d0,d0,dN,dN,dS [],dS [],dN,d0,d0,dN,d0,dN,dN,dN,dN,dN,d0,d0,d0])]) B) ?_ (k:=p.ay.length) ⟨[],q,by unfold PS.uO;rw[←z],dh _,jP _ _,A,⟨rfl,rfl,rfl,trivial⟩,di rfl rfl ⟨rfl,rfl,rfl,rfl,rfl,trivial⟩⟩
  have hR:p.o6.1=lf:=by rw[←z]
  clear z A fi
  rintro k VE B⟨l,q,z,jk,hk,A,hV,Z⟩
  refine ey (PS.bi q++[(3,.one 38 328 [dI 5,d0,d0,d0,dN,dN,dS (p.aU [c6]).name.1,dS [],dN,d0,d0,dN,d0,dN,.ac 1114 (I.map cP).length 3,.d (fP K),.ac 1116 (lf.map Fk.enc).length 3,.ac 1117 (l.map dQ).length 2,d0,d0,d0]),(1114,.acc 77 32 3 (I.map cP)),(1116,.acc 79 64 3 (lf.map Fk.enc)),(1117,.acc 81 32 2 (l.map dQ)),(2,.one 38 328 [d0,d0,d0,d0,dN,dN,dS [],dS [],dN,d0,d0,dN,d0,dN,dN,dN,dN,dN,d0,d0,d0])]) Z ?_
  have Z:bu (PS.bi q++[(3,.one 38 328 [dI 5,d0,d0,d0,dN,dN,dS (p.aU [c6]).name.1,dS [],dN,d0,d0,dN,d0,dN,.ac 1114 (I.map cP).length 3,.d (fP K),.ac 1116 (lf.map Fk.enc).length 3,.ac 1117 (l.map dQ).length 2,d0,d0,d0]),(1114,.acc 77 32 3 (I.map cP)),(1116,.acc 79 64 3 (lf.map Fk.enc)),(1117,.acc 81 32 2 (l.map dQ)),(2,.one 38 328 [d0,d0,d0,d0,dN,dN,dS [],dS [],dN,d0,d0,dN,d0,dN,dN,dN,dN,dN,d0,d0,d0])]) (PS.bi q++[(3,.one 38 328 [dI 5,d0,d0,d0,dN,dN,dS (p.aU [c6]).name.1,dS [],dN,d0,d0,dN,d0,dN,.ac 1114 (I.map cP).length 3,.d (fP K),.ac 1116 (lf.map Fk.enc).length 3,.ac 1117 (l.map dQ).length 2,d0,d0,d0]),(1114,.acc 77 32 3 (I.map cP)),(1116,.acc 79 64 3 (lf.map Fk.enc)),(1117,.acc 81 32 2 (l.map dQ)),(2,.one 38 328 [d0,d0,d0,d0,dN,dN,dS [],dS [],dN,d0,d0,dN,d0,dN,dN,dN,dN,dN,d0,d0,d0])]):=di rfl rfl ⟨rfl,rfl,rfl,rfl,rfl,trivial⟩
  have gh:q.ay.length=p.ay.length:=by rw[A.ay]
  have fi:=A.ok.dY
  refine dy _ _ hV Z (bN (bN (ai (ae 1 aa (bh (keyword F A.ok pI) aa aa aa aa aa (ae 1 aa (af ?_)))))))
  refine aJ aa (fun Y=>?_) (fun Y=>?_)
  ·have hj:q.gS=some (1,(q.keyword pI).2):=by unfold PS.gS;rw[aq Y]
   obtain⟨G,U,jY⟩:=A.top.gS hj
   obtain⟨k,rfl⟩:∃k',k=k'+1:=⟨k-1,by omega⟩
   rw[ve hj] at z
   generalize (q.keyword pI).2=J at hj G U z⊢
   refine iK (bm 3 aa (mR (sa F G.top) aa aa aa aa aa aa (bm 2 aa ?_)))
   refine eJ rfl (eu (rows:=l.map dQ) (ys:=[dQ (1,J.names.1)]) rfl rfl rfl (.bs (rows:=[dQ (1,J.names.1)]) rfl) (bS rfl) (by simp only[bJ,cF,dj,dJ];omega) (fun h=>by rw[h];rfl) (fun h=>by rw[h];rfl) ?_)
   refine bm 2 aa (da ?_)
   refine⟨k,fS k,l++[(1,J.names.1)],J.names.2,z,?_,?_,(A.trans G).trans G.top.names,⟨aa,aa,aa,trivial⟩,?_⟩
   ·have:=G.top.names.aI;rw[bJ,eG];omega
   ·have:=G.top.names.aI;omega
   simp only[dX,ez,fw]
   exact di aa aa ⟨aa,aa,aa,aa,aa,trivial⟩
  rw[PS.cK Y]
  refine ai (ae 1 aa (bh (keyword F A.ok ph) aa aa aa aa aa (ae 1 aa (af ?_))))
  refine aJ aa (fun sV=>?_) (fun sV=>?_)
  ·have hj:q.gS=some (2,(q.keyword ph).2):=by unfold PS.gS;rw[aj (by rw[Y];decide),aq sV]
   obtain⟨G,U,jY⟩:=A.top.gS hj
   obtain⟨k,rfl⟩:∃k',k=k'+1:=⟨k-1,by omega⟩
   rw[ve hj] at z
   generalize (q.keyword ph).2=J at hj G U z⊢
   refine iK (bm 3 aa (mR (sa F G.top) aa aa aa aa aa aa (bm 2 aa ?_)))
   refine eJ rfl (eu (rows:=l.map dQ) (ys:=[dQ (2,J.names.1)]) rfl rfl rfl (.bs (rows:=[dQ (2,J.names.1)]) rfl) (bS rfl) (by simp only[bJ,cF,dj,dJ];omega) (fun h=>by rw[h];rfl) (fun h=>by rw[h];rfl) ?_)
   refine bm 2 aa (da ?_)
   refine⟨k,fS k,l++[(2,J.names.1)],J.names.2,z,?_,?_,(A.trans G).trans G.top.names,⟨aa,aa,aa,trivial⟩,?_⟩
   ·have:=G.top.names.aI;rw[bJ,eG];omega
   ·have:=G.top.names.aI;omega
   simp only[dX,ez,fw]
   exact di aa aa ⟨aa,aa,aa,aa,aa,trivial⟩
  have hj:q.gS=none:=by unfold PS.gS;rw[aj (by rw[Y];decide),aj (by rw[sV];decide)]
  rw[y4 hj] at z
  rw[PS.cK sV]
  have hm:p.create=({kind:=5,table:=(p.aU [c6]).name.1,ji:=I,key:=K,ma:=lf,cons:=l},q):=by unfold PS.create;rw[hI,hK,hR,←z]
  refine ai (ae 1 aa ?_)
  refine fu 56 1114 rfl rfl ⟨trivial,trivial,trivial,trivial,trivial,trivial,trivial,trivial,trivial,trivial,trivial,trivial,trivial,trivial,fun _=>⟨rfl,rfl⟩,trivial,fun h=>absurd h (by decide),fun h=>absurd h (by decide),trivial,trivial,trivial,trivial⟩ ?_
  refine fu 56 1116 rfl rfl ⟨trivial,trivial,trivial,trivial,trivial,trivial,trivial,trivial,trivial,trivial,trivial,trivial,trivial,trivial,trivial,trivial,fun _=>⟨rfl,rfl⟩,fun h=>absurd h (by decide),trivial,trivial,trivial,trivial⟩ ?_
  refine fu 56 1117 aa aa ⟨trivial,trivial,trivial,trivial,trivial,trivial,trivial,trivial,trivial,trivial,trivial,trivial,trivial,trivial,trivial,trivial,trivial,fun _=>⟨aa,aa⟩,trivial,trivial,trivial,trivial⟩ (ae 1 aa (af ?_))
  refine ax ?_
  rw[hm]
  exact⟨_,PS.bi _,aa,cH aa aa,aa,aa⟩
 rw[PS.cK pd]
 obtain⟨K,yF⟩:∃K:List (List UInt8),[]=K:=⟨_,rfl⟩
 have hK:p.il.key=(K,p.il):=by unfold PS.key;rw[aj (by rw[pd];decide),←yF]
 have hz:p.il.key.2=p.il:=by rw[hK]
 refine aT (aM ?_)
 (refine ey (PS.bi p.il.key.2++[(3,.one 38 328 [dI 5,d0,d0,d0,dN,dN,dS (p.aU [c6]).name.1,dS [],dN,d0,d0,dN,d0,dN,.ac 1114 (I.map cP).length 3,.d (fP K),.ac 1116 (([]:List Fk).map Fk.enc).length 3,.ac 1117 0 2,d0,d0,d0]),(1114,.acc 77 32 3 (I.map cP)),(1116,.acc 79 64 3 (([]:List Fk).map Fk.enc)),(1117,.acc 81 32 2 []),(2,.one 38 328 [d0,d0,d0,d0,dN,dN,dS [],dS [],dN,d0,d0,dN,d0,dN,dN,dN,dN,dN,d0,d0,d0])]) ?_ ?_; · exact di (by rw[hz];rfl) (by rw[hz];rfl) ⟨by rw[←yF];rfl,rfl,rfl,rfl,rfl,trivial⟩)
 refine bN (d7 (fun k VE B=>∃(l:List Fk)(q:PS),o5 k l q=p.o6∧l.length≤q.aI+1∧p.ay.length≤k+q.aI∧bO p q∧bu [(0,.vp 1000 0),(2,.vp 2 0),(3,.vp 3 0)] VE∧bu (PS.bi q++[(3,.one 38 328 [dI 5,d0,d0,d0,dN,dN,dS (p.aU [c6]).name.1,dS [],dN,d0,d0,dN,d0,dN,.ac 1114 (I.map cP).length 3,.d (fP K),.ac 1116 (l.map Fk.enc).length 3,.ac 1117 0 2,d0,d0,d0]),(1114,.acc 77 32 3 (I.map cP)),(1116,.acc 79 64 3 (l.map Fk.enc)),(1117,.acc 81 32 2 []),(2,.one 38 328 [d0,d0,d0,d0,dN,dN,dS [],dS [],dN,d0,d0,dN,d0,dN,dN,dN,dN,dN,d0,d0,d0])]) B) ?_ (k:=p.ay.length) ⟨[],p.il.key.2,aa,dh _,jP _ _,hp.x7,⟨aa,aa,aa,trivial⟩,di aa aa ⟨aa,aa,aa,aa,aa,trivial⟩⟩)
 clear A
 rintro k VE B⟨l,q,z,jk,hk,A,hV,Z⟩
 refine ey (PS.bi q++[(3,.one 38 328 [dI 5,d0,d0,d0,dN,dN,dS (p.aU [c6]).name.1,dS [],dN,d0,d0,dN,d0,dN,.ac 1114 (I.map cP).length 3,.d (fP K),.ac 1116 (l.map Fk.enc).length 3,.ac 1117 0 2,d0,d0,d0]),(1114,.acc 77 32 3 (I.map cP)),(1116,.acc 79 64 3 (l.map Fk.enc)),(1117,.acc 81 32 2 []),(2,.one 38 328 [d0,d0,d0,d0,dN,dN,dS [],dS [],dN,d0,d0,dN,d0,dN,dN,dN,dN,dN,d0,d0,d0])]) Z ?_
 have Z:bu (PS.bi q++[(3,.one 38 328 [dI 5,d0,d0,d0,dN,dN,dS (p.aU [c6]).name.1,dS [],dN,d0,d0,dN,d0,dN,.ac 1114 (I.map cP).length 3,.d (fP K),.ac 1116 (l.map Fk.enc).length 3,.ac 1117 0 2,d0,d0,d0]),(1114,.acc 77 32 3 (I.map cP)),(1116,.acc 79 64 3 (l.map Fk.enc)),(1117,.acc 81 32 2 []),(2,.one 38 328 [d0,d0,d0,d0,dN,dN,dS [],dS [],dN,d0,d0,dN,d0,dN,dN,dN,dN,dN,d0,d0,d0])]) (PS.bi q++[(3,.one 38 328 [dI 5,d0,d0,d0,dN,dN,dS (p.aU [c6]).name.1,dS [],dN,d0,d0,dN,d0,dN,.ac 1114 (I.map cP).length 3,.d (fP K),.ac 1116 (l.map Fk.enc).length 3,.ac 1117 0 2,d0,d0,d0]),(1114,.acc 77 32 3 (I.map cP)),(1116,.acc 79 64 3 (l.map Fk.enc)),(1117,.acc 81 32 2 []),(2,.one 38 328 [d0,d0,d0,d0,dN,dN,dS [],dS [],dN,d0,d0,dN,d0,dN,dN,dN,dN,dN,d0,d0,d0])]):=di rfl rfl ⟨rfl,rfl,rfl,rfl,rfl,trivial⟩
 have gh:q.ay.length=p.ay.length:=by rw[A.ay]
 have fi:=A.ok.dY
 refine dy _ _ hV Z (aM (ai (ae 1 aa (bh (keyword F A.ok lP) aa aa aa aa aa (af (aJ aa (fun O=>?_) (fun O=>?_)))))))
 ·have U:=nd A.ok O
  obtain⟨k,rfl⟩:∃k',k=k'+1:=⟨k-1,by omega⟩
  rw[GP O] at z
  have G:=A.top.kw lP
  have jY:=U.1
  generalize (q.keyword lP).2=J at z G jY⊢
  have j1:=G.top.names
  have j2:=G.top.sT
  have j3:=j2.top.name
  refine aT (bN (ai (ae 1 aa (bh (sa F G.top) aa aa aa aa aa (ae 3 aa (af ?_))))))
  refine ai (ae 2 aa (gB 42 42 aa aa (fun _=>⟨aa,aa⟩) ?_))
  refine bh (aU F j1.ok [yQ] (by decide)) rfl rfl rfl rfl rfl ?_
  refine af (ai (ae 1 aa (bh (name F j2.st) aa aa aa aa aa (ae 2 aa (af ?_)))))
  refine ai (ae 1 aa (bh (sa F j3.top) aa aa aa aa aa (ae 2 aa (af ?_))))
  refine bG (ae 4 aa ?_)
  refine al (eu (rows:=l.map Fk.enc) (ys:=[J.fk.1.enc]) rfl rfl rfl (.bs (rows:=[J.fk.1.enc]) rfl) (bS rfl) (by simp only[bJ,cF,dj,dJ];omega) (fun h=>by rw[h];rfl) (fun h=>by rw[h];rfl) ?_)
  refine ae 2 aa (af ?_)
  refine⟨k,fS k,l++[J.fk.1],J.fk.2,z,?_,?_,(A.trans G).trans G.top.fk,⟨aa,aa,aa,trivial⟩,?_⟩
  ·have:=G.top.fk.aI;rw[bJ,eG];omega
  ·have:=G.top.fk.aI;omega
  simp only[dX,ez,fw]
  exact di aa aa ⟨aa,aa,aa,aa,aa,trivial⟩
 rw[GQ O] at z
 rw[PS.cK O]
 obtain⟨lf,Bo⟩:∃lf,l=lf:=⟨_,rfl⟩
 rw[Bo] at z⊢
 clear hV Z jk hk gh Bo
 refine dM (bN ?_)
 refine d7 (fun k VE B=>∃(l:List (Int×List (List UInt8)))(q:PS),nL k l q=p.uO∧l.length≤q.aI+1∧p.ay.length≤k+q.aI∧bO p q∧bu [(0,.vp 1000 0),(2,.vp 2 0),(3,.vp 3 0)] VE∧bu (PS.bi q++[(3,.one 38 328 [dI 5,d0,d0,d0,dN,dN,dS (p.aU [c6]).name.1,dS [],dN,d0,d0,dN,d0,dN,.ac 1114 (I.map cP).length 3,.d (fP K),.ac 1116 (lf.map Fk.enc).length 3,.ac 1117 (l.map dQ).length 2,d0,d0,d0]),(1114,.acc 77 32 3 (I.map cP)),(1116,.acc 79 64 3 (lf.map Fk.enc)),(1117,.acc 81 32 2 (l.map dQ)),(2,.one 38 328 [d0,d0,d0,d0,dN,dN,dS [],dS [],dN,d0,d0,dN,d0,dN,dN,dN,dN,dN,d0,d0,d0])]) B) ?_ (k:=p.ay.length) ⟨[],q,by unfold PS.uO;rw[←z],dh _,jP _ _,A,⟨rfl,rfl,rfl,trivial⟩,di rfl rfl ⟨rfl,rfl,rfl,rfl,rfl,trivial⟩⟩
 have hR:p.o6.1=lf:=by rw[←z]
 clear z A fi
 rintro k VE B⟨l,q,z,jk,hk,A,hV,Z⟩
 refine ey (PS.bi q++[(3,.one 38 328 [dI 5,d0,d0,d0,dN,dN,dS (p.aU [c6]).name.1,dS [],dN,d0,d0,dN,d0,dN,.ac 1114 (I.map cP).length 3,.d (fP K),.ac 1116 (lf.map Fk.enc).length 3,.ac 1117 (l.map dQ).length 2,d0,d0,d0]),(1114,.acc 77 32 3 (I.map cP)),(1116,.acc 79 64 3 (lf.map Fk.enc)),(1117,.acc 81 32 2 (l.map dQ)),(2,.one 38 328 [d0,d0,d0,d0,dN,dN,dS [],dS [],dN,d0,d0,dN,d0,dN,dN,dN,dN,dN,d0,d0,d0])]) Z ?_
 have Z:bu (PS.bi q++[(3,.one 38 328 [dI 5,d0,d0,d0,dN,dN,dS (p.aU [c6]).name.1,dS [],dN,d0,d0,dN,d0,dN,.ac 1114 (I.map cP).length 3,.d (fP K),.ac 1116 (lf.map Fk.enc).length 3,.ac 1117 (l.map dQ).length 2,d0,d0,d0]),(1114,.acc 77 32 3 (I.map cP)),(1116,.acc 79 64 3 (lf.map Fk.enc)),(1117,.acc 81 32 2 (l.map dQ)),(2,.one 38 328 [d0,d0,d0,d0,dN,dN,dS [],dS [],dN,d0,d0,dN,d0,dN,dN,dN,dN,dN,d0,d0,d0])]) (PS.bi q++[(3,.one 38 328 [dI 5,d0,d0,d0,dN,dN,dS (p.aU [c6]).name.1,dS [],dN,d0,d0,dN,d0,dN,.ac 1114 (I.map cP).length 3,.d (fP K),.ac 1116 (lf.map Fk.enc).length 3,.ac 1117 (l.map dQ).length 2,d0,d0,d0]),(1114,.acc 77 32 3 (I.map cP)),(1116,.acc 79 64 3 (lf.map Fk.enc)),(1117,.acc 81 32 2 (l.map dQ)),(2,.one 38 328 [d0,d0,d0,d0,dN,dN,dS [],dS [],dN,d0,d0,dN,d0,dN,dN,dN,dN,dN,d0,d0,d0])]):=di rfl rfl ⟨rfl,rfl,rfl,rfl,rfl,trivial⟩
 have gh:q.ay.length=p.ay.length:=by rw[A.ay]
 have fi:=A.ok.dY
 refine dy _ _ hV Z (bN (bN (ai (ae 1 aa (bh (keyword F A.ok pI) aa aa aa aa aa (ae 1 aa (af ?_)))))))
 refine aJ aa (fun Y=>?_) (fun Y=>?_)
 ·have hj:q.gS=some (1,(q.keyword pI).2):=by unfold PS.gS;rw[aq Y]
  obtain⟨G,U,jY⟩:=A.top.gS hj
  obtain⟨k,rfl⟩:∃k',k=k'+1:=⟨k-1,by omega⟩
  rw[ve hj] at z
  generalize (q.keyword pI).2=J at hj G U z⊢
  refine iK (bm 3 aa (mR (sa F G.top) aa aa aa aa aa aa (bm 2 aa ?_)))
  refine eJ rfl (eu (rows:=l.map dQ) (ys:=[dQ (1,J.names.1)]) rfl rfl rfl (.bs (rows:=[dQ (1,J.names.1)]) rfl) (bS rfl) (by simp only[bJ,cF,dj,dJ];omega) (fun h=>by rw[h];rfl) (fun h=>by rw[h];rfl) ?_)
  refine bm 2 aa (da ?_)
  refine⟨k,fS k,l++[(1,J.names.1)],J.names.2,z,?_,?_,(A.trans G).trans G.top.names,⟨aa,aa,aa,trivial⟩,?_⟩
  ·have:=G.top.names.aI;rw[bJ,eG];omega
  ·have:=G.top.names.aI;omega
  simp only[dX,ez,fw]
  exact di aa aa ⟨aa,aa,aa,aa,aa,trivial⟩
 rw[PS.cK Y]
 refine ai (ae 1 aa (bh (keyword F A.ok ph) aa aa aa aa aa (ae 1 aa (af ?_))))
 refine aJ aa (fun sV=>?_) (fun sV=>?_)
 ·have hj:q.gS=some (2,(q.keyword ph).2):=by unfold PS.gS;rw[aj (by rw[Y];decide),aq sV]
  obtain⟨G,U,jY⟩:=A.top.gS hj
  obtain⟨k,rfl⟩:∃k',k=k'+1:=⟨k-1,by omega⟩
  rw[ve hj] at z
  generalize (q.keyword ph).2=J at hj G U z⊢
  refine iK (bm 3 aa (mR (sa F G.top) aa aa aa aa aa aa (bm 2 aa ?_)))
  refine eJ rfl (eu (rows:=l.map dQ) (ys:=[dQ (2,J.names.1)]) rfl rfl rfl (.bs (rows:=[dQ (2,J.names.1)]) rfl) (bS rfl) (by simp only[bJ,cF,dj,dJ];omega) (fun h=>by rw[h];rfl) (fun h=>by rw[h];rfl) ?_)
  refine bm 2 aa (da ?_)
  refine⟨k,fS k,l++[(2,J.names.1)],J.names.2,z,?_,?_,(A.trans G).trans G.top.names,⟨aa,aa,aa,trivial⟩,?_⟩
  ·have:=G.top.names.aI;rw[bJ,eG];omega
  ·have:=G.top.names.aI;omega
  simp only[dX,ez,fw]
  exact di aa aa ⟨aa,aa,aa,aa,aa,trivial⟩
 have hj:q.gS=none:=by unfold PS.gS;rw[aj (by rw[Y];decide),aj (by rw[sV];decide)]
 rw[y4 hj] at z
 rw[PS.cK sV]
 have hm:p.create=({kind:=5,table:=(p.aU [c6]).name.1,ji:=I,key:=K,ma:=lf,cons:=l},q):=by unfold PS.create;rw[hI,hK,hR,←z]
 refine ai (ae 1 aa ?_)
 refine fu 56 1114 rfl rfl ⟨trivial,trivial,trivial,trivial,trivial,trivial,trivial,trivial,trivial,trivial,trivial,trivial,trivial,trivial,fun _=>⟨rfl,rfl⟩,trivial,fun h=>absurd h (by decide),fun h=>absurd h (by decide),trivial,trivial,trivial,trivial⟩ ?_
 refine fu 56 1116 rfl rfl ⟨trivial,trivial,trivial,trivial,trivial,trivial,trivial,trivial,trivial,trivial,trivial,trivial,trivial,trivial,trivial,trivial,fun _=>⟨rfl,rfl⟩,fun h=>absurd h (by decide),trivial,trivial,trivial,trivial⟩ ?_
 refine fu 56 1117 aa aa ⟨trivial,trivial,trivial,trivial,trivial,trivial,trivial,trivial,trivial,trivial,trivial,trivial,trivial,trivial,trivial,trivial,trivial,fun _=>⟨aa,aa⟩,trivial,trivial,trivial,trivial⟩ (ae 1 aa (af ?_))
 refine ax ?_
 rw[hm]
 exact⟨_,PS.bi _,aa,cH aa aa,aa,aa⟩
open Go
def PS.fin(q:PS):PS:=if q.err=0∧q.tok.kind≠6 then q.fail 5 else q
theorem bd.fin{q:PS}(h:bd q):bO q q.fin:=by
 unfold PS.fin
 split
 ·exact h.fail (by decide)
 exact .refl h
def start(ay:List cL):PS:=⟨ay,0,0,0,0,[]⟩
structure q8(ay:List cL):Prop where
 ne:0<ay.length
 dY:ay.length≤2000
 last:∀(i:Nat)t,ay[i]?=some t→(t.kind=6↔i+1=ay.length)
 num:∀t,t∈ay→t.kind=3→nA t.text
 text:∀t,t∈ay→t.text.length≤200
theorem q8.top{ay:List cL}(h:q8 ay):bd (start ay):=⟨⟨⟨h.ne,h.dY,h.last,dh _,dh _⟩,h.num,h.text⟩,rfl⟩
def jy(D:Rd)(ay:List cL):PS:=((start ay).cT D).2.fin
def lv(D:Rd)(ay:List cL):Stmt×Int×Int:=if(jy D ay).err≠0 then({},(jy D ay).pos,(jy D ay).err) else(((start ay).cT D).1,0,0)
def jD(D:Rd)(ay:List cL):PS:=((start ay).cQ D false).2.fin
def lq(D:Rd)(ay:List cL):js×Int×Int:=if(jD D ay).err≠0 then(⟨[],[]⟩,(jD D ay).pos,(jD D ay).err) else(((start ay).cQ D false).1,0,0)
open Go
set_option maxRecDepth 10000
set_option maxHeartbeats 8000000 in
theorem Rg{T:bf}(F:FT T){D:Rd}(Lf:g7 T D){p:PS}(hp:bd p):bV T 40 [.vp 1000 0] (PS.bi p) fun r Bn=>r=ep (p.cT D).1.enc∧Bn=PS.bz (p.cT D).2:=by
 refine cl F.f40 aa (ak 1 aa (aM (bN (ai (ae 1 aa (bh (keyword F hp.ok rU) aa aa aa aa aa (ae 1 aa (af ?_))))))))
 refine aJ aa (fun O=>?_) (fun O=>?_)
 ·have z:p.cT D=(p.keyword rU).2.insert D:=by unfold PS.cT;rw[aq O]
  have G:=hp.kw rU
  refine ai (ae 1 aa (bh (insertC F Lf G.top) aa aa aa aa aa (jt 1000 5 aa aa (ae 1 aa (af ?_)))))
  refine ax ?_
  rw[z]
  exact⟨_,PS.bz _,aa,fA aa,aa,aa⟩
 rw[PS.cK O]
 refine ai (ae 1 aa (bh (keyword F hp.ok rV) aa aa aa aa aa (ae 1 aa (af ?_))))
 refine aJ aa (fun Y=>?_) (fun Y=>?_)
 ·have z:p.cT D=(p.keyword rV).2.remove D:=by unfold PS.cT;rw[aj (by rw[O];decide),aq Y]
  have G:=hp.kw rV
  refine ai (ae 1 aa (HZ (T2 F Lf G.top) aa aa aa aa aa (ae 1 aa (af ?_))))
  refine ax ?_
  rw[z]
  exact⟨_,PS.bz _,aa,fA aa,aa,aa⟩
 rw[PS.cK Y]
 refine ai (ae 1 aa (bh (keyword F hp.ok rW) aa aa aa aa aa (ae 1 aa (af ?_))))
 refine aJ aa (fun bI=>?_) (fun bI=>?_)
 ·have z:p.cT D=(p.keyword rW).2.update D:=by unfold PS.cT;rw[aj (by rw[O];decide),aj (by rw[Y];decide),aq bI]
  have G:=hp.kw rW
  refine ai (ae 1 aa (HZ (T3 F Lf G.top) aa aa aa aa aa (ae 1 aa (af ?_))))
  refine ax ?_
  rw[z]
  exact⟨_,PS.bz _,aa,fA aa,aa,aa⟩
 rw[PS.cK bI]
 refine ai (ae 1 aa (bh (keyword F hp.ok rX) aa aa aa aa aa (ae 1 aa (af ?_))))
 refine aJ aa (fun A=>?_) (fun A=>?_)
 ·have z:p.cT D=(p.keyword rX).2.create:=by unfold PS.cT;rw[aj (by rw[O];decide),aj (by rw[Y];decide),aj (by rw[bI];decide),aq A]
  have G:=hp.kw rX
  refine ai (ae 1 aa (bh (T5 F G.top) aa aa aa aa aa (jt 1000 5 aa aa (ae 1 aa (af ?_)))))
  refine ax ?_
  rw[z]
  exact⟨_,PS.bz _,aa,fA aa,aa,aa⟩
 rw[PS.cK A]
 refine ai (ae 1 aa (bh (keyword F hp.ok r9) aa aa aa aa aa (ae 1 aa (af ?_))))
 refine aJ aa (fun I=>?_) (fun I=>?_)
 ·have z:p.cT D=(p.keyword r9).2.alter:=by unfold PS.cT;rw[aj (by rw[O];decide),aj (by rw[Y];decide),aj (by rw[bI];decide),aj (by rw[A];decide),aq I]
  have G:=hp.kw r9
  refine ai (ae 1 aa (bh (U9 F G.top) aa aa aa aa aa (jt 1000 5 aa aa (ae 1 aa (af ?_)))))
  refine ax ?_
  rw[z]
  exact⟨_,PS.bz _,aa,fA aa,aa,aa⟩
 rw[PS.cK I]
 refine ai (ae 1 aa (bh (keyword F hp.ok se) aa aa aa aa aa (ae 1 aa (af ?_))))
 refine aJ aa (fun J=>?_) (fun J=>?_)
 ·have z:p.cT D=(p.keyword se).2.qz D:=by unfold PS.cT;rw[aj (by rw[O];decide),aj (by rw[Y];decide),aj (by rw[bI];decide),aj (by rw[A];decide),aj (by rw[I];decide),aq J]
  have G:=hp.kw se
  refine ai (jt 1000 5 aa aa (ae 1 aa (dU (V9 F Lf G.top) aa aa aa aa (ae 1 aa (af ?_)))))
  refine ax ?_
  rw[z]
  exact⟨_,PS.bz _,aa,fA aa,aa,aa⟩
 rw[PS.cK J]
 refine ai (ae 1 aa (bh (keyword F hp.ok rY) aa aa aa aa aa (ae 1 aa (af ?_))))
 refine aJ aa (fun K=>?_) (fun K=>?_)
 ·have z:p.cT D=(({kind:=9}:Stmt),(p.keyword rY).2):=by unfold PS.cT;rw[aj (by rw[O];decide),aj (by rw[Y];decide),aj (by rw[bI];decide),aj (by rw[A];decide),aj (by rw[I];decide),aj (by rw[J];decide),aq K]
  have G:=hp.kw rY
  refine ai (jt 1000 5 aa aa (ae 2 aa (af ?_)))
  refine ax ?_
  rw[z]
  exact⟨_,PS.bz _,aa,fA aa,aa,aa⟩
 rw[PS.cK K]
 refine ai (ae 1 aa (bh (keyword F hp.ok sf) aa aa aa aa aa (ae 1 aa (af ?_))))
 refine aJ aa (fun U=>?_) (fun U=>?_)
 ·have z:p.cT D=(p.keyword sf).2.hold:=by unfold PS.cT;rw[aj (by rw[O];decide),aj (by rw[Y];decide),aj (by rw[bI];decide),aj (by rw[A];decide),aj (by rw[I];decide),aj (by rw[J];decide),aj (by rw[K];decide),aq U]
  have G:=hp.kw sf
  refine ai (ae 1 aa (bh (V' F Lf G.top) aa aa aa aa aa (jt 1000 5 aa aa (ae 1 aa (af ?_)))))
  refine ax ?_
  rw[z]
  exact⟨_,PS.bz _,aa,fA aa,aa,aa⟩
 rw[PS.cK U]
 refine ai (ae 1 aa (bh (keyword F hp.ok pv) aa aa aa aa aa (ae 1 aa (af ?_))))
 refine aJ aa (fun Z=>?_) (fun Z=>?_)
 ·have z:p.cT D=({kind:=11,n:=((p.keyword pv).2.number (-1)).1},((p.keyword pv).2.number (-1)).2):=by unfold PS.cT;rw[aj (by rw[O];decide),aj (by rw[Y];decide),aj (by rw[bI];decide),aj (by rw[A];decide),aj (by rw[I];decide),aj (by rw[J];decide),aj (by rw[K];decide),aj (by rw[U];decide),aq Z]
  have G:=hp.kw pv
  refine ai (ae 1 aa (bh (number F Lf G.st (-1)) aa aa aa aa aa (jt 1000 5 aa aa (ae 2 aa (af ?_)))))
  refine ax ?_
  rw[z]
  exact⟨_,PS.bz _,aa,fA aa,aa,aa⟩
 rw[PS.cK Z]
 refine ai (ae 1 aa (bh (keyword F hp.ok pB) aa aa aa aa aa (ae 1 aa (af ?_))))
 refine aJ aa (fun vb=>?_) (fun vb=>?_)
 ·have z:p.cT D=({kind:=12,n:=(((p.keyword pB).2.aU [oA]).number (-1)).1},(((p.keyword pB).2.aU [oA]).number (-1)).2):=by unfold PS.cT;rw[aj (by rw[O];decide),aj (by rw[Y];decide),aj (by rw[bI];decide),aj (by rw[A];decide),aj (by rw[I];decide),aj (by rw[J];decide),aj (by rw[K];decide),aj (by rw[U];decide),aj (by rw[Z];decide),aq vb]
  have G:=hp.kw pB
  refine ai (ae 2 aa (gB 52 52 aa aa (fun _=>⟨aa,aa⟩) ?_))
  refine bh (aU F G.ok [oA] (by decide)) rfl rfl rfl rfl rfl ?_
  refine af (ai (ae 1 aa (bh (number F Lf (G.top.dD [oA]).st (-1)) aa aa aa aa aa (jt 1000 5 aa aa (ae 2 aa (af ?_))))))
  refine ax ?_
  rw[z]
  exact⟨_,PS.bz _,aa,fA aa,aa,aa⟩
 rw[PS.cK vb]
 have z:p.cT D=p.query D:=by unfold PS.cT;rw[aj (by rw[O];decide),aj (by rw[Y];decide),aj (by rw[bI];decide),aj (by rw[A];decide),aj (by rw[I];decide),aj (by rw[J];decide),aj (by rw[K];decide),aj (by rw[U];decide),aj (by rw[Z];decide),aj (by rw[vb];decide)]
 refine aT (ai (jt 1000 5 aa aa (ae 1 aa (dU (U8 F Lf hp) aa aa aa aa (ae 1 aa (af ?_))))))
 refine ax ?_
 rw[z]
 exact⟨_,PS.bz _,aa,fA aa,aa,aa⟩
set_option maxHeartbeats 4000000 in
theorem SW{T:bf}(F:FT T){D:Rd}(z:g7 T D){p:PS}(hp:bd p):bV T 39 [.vp 1001 0,.vp 1002 0] (PS.bi p++[(1001,.one 95 8 [.vp 1000 0]),(1002,.one 38 328 [d0,d0,d0,d0,dN,dN,dS [],dS [],dN,d0,d0,dN,d0,dN,dN,dN,dN,dN,d0,d0,d0])]) fun r Bn=>r= .tuple []∧Bn=PS.bz (p.cT D).2++[(1001,.one 95 8 [.vp 1000 0]),(1002,.one 38 328 ((p.cT D).1.enc.map .d))]:=by
 refine cl F.f39 aa (bG (ae 1 aa (HZ (Rg F z hp) aa aa aa aa aa (ae 1 aa (af ?_)))))
 exact⟨_,PS.bz (p.cT D).2++[(1001,.one 95 8 [.vp 1000 0]),(1002,.one 38 328 ((p.cT D).1.enc.map .d))],aa,gg aa ⟨aa,aa,trivial⟩,aa,aa⟩
set_option maxHeartbeats 4000000 in
theorem U'{T:bf}(F:FT T){D:Rd}(I:g7 T D){p:PS}(hp:bd p):bV T 38 [.vp 1000 0,.fn 39 [.vp 1001 0,.vp 1002 0]] (PS.bi p++[(1001,.one 95 8 [.vp 1000 0]),(1002,.one 38 328 [d0,d0,d0,d0,dN,dN,dS [],dS [],dN,d0,d0,dN,d0,dN,dN,dN,dN,dN,d0,d0,d0])]) fun r Bn=>r= .tuple [dI (PS.fin (p.cT D).2).pos,dI (PS.fin (p.cT D).2).err]∧Bn=PS.bz (PS.fin (p.cT D).2)++[(1001,.one 95 8 [.vp 1000 0]),(1002,.one 38 328 ((p.cT D).1.enc.map .d))]:=by
 refine cl F.Pw aa ?_
 have G:bO p (p.cT D).2:=hp.cT D
 refine ey (PS.bi p++[(1001,.one 95 8 [.vp 1000 0]),(1002,.one 38 328 [d0,d0,d0,d0,dN,dN,dS [],dS [],dN,d0,d0,dN,d0,dN,dN,dN,dN,dN,d0,d0,d0])]) (di aa aa ⟨aa,aa,trivial⟩) (ak 2 aa (ai (ae 1 aa (al (qI (eD:=[.vp 1001 0,.vp 1002 0]) (bZ:=[.vp 1001 0,.vp 1002 0]) (Bi:=PS.bi p++[(1001,.one 95 8 [.vp 1000 0]),(1002,.one 38 328 [d0,d0,d0,d0,dN,dN,dS [],dS [],dN,d0,d0,dN,d0,dN,dN,dN,dN,dN,d0,d0,d0])]) [(1000,1000),(1050,1050),(1001,1001),(1002,1002)] 2000 aa aa aa aa aa aa aa aa aa (vX aa aa aa aa ⟨aa,aa,aa,aa,trivial⟩) (SW F I hp) (fun r Bn fG=>?_))))))
 obtain⟨rfl,rfl⟩:=fG
 refine ew (PS.bz (p.cT D).2++[(1001,.one 95 8 [.vp 1000 0]),(1002,.one 38 328 ((p.cT D).1.enc.map .d))]) (gg aa ⟨aa,aa,trivial⟩) (af (aM (ai (ae 6 aa (cX (g:=aV) aa (fun bI=>?_) (fun bI=>?_))))))
 ·refine ao aa (bI) (bM aa ?_)
  refine ao aa (bI) (Ea (wv F G.ok) aa aa aa aa ?_)
  refine ao aa (bI) (Cn aa aa ?_)
  refine ao aa (bI) (iu aa aa ?_)
  refine al (cS aa (bI) aa ?_)
  refine af (aJ aa (fun z=>?_) (fun z=>?_))
  ·have A:PS.fin (p.cT D).2=PS.fail (p.cT D).2 5:=by unfold PS.fin;rw[aq ⟨by simpa using bI,by simpa using z⟩]
   refine bG (ae 1 aa (dU (sg F G.ok 5) aa aa aa aa (af (eU (bm 10 aa (da ?_))))))
   refine ax ?_
   rw[A]
   exact⟨_,PS.bz _++[(1001,.one 95 8 [.vp 1000 0]),(1002,.one 38 328 ((p.cT D).1.enc.map .d))],aa,gg aa ⟨aa,aa,trivial⟩,aa,aa⟩
  have A:PS.fin (p.cT D).2=(p.cT D).2:=by unfold PS.fin;rw[aj (fun k=>absurd k.2 (by simpa using z))]
  refine aT (eU (bm 10 aa (da ?_)))
  refine ax ?_
  rw[A]
  exact⟨_,PS.bz _++[(1001,.one 95 8 [.vp 1000 0]),(1002,.one 38 328 ((p.cT D).1.enc.map .d))],aa,gg aa ⟨aa,aa,trivial⟩,aa,aa⟩
 have A:PS.fin (p.cT D).2=(p.cT D).2:=by unfold PS.fin;rw[aj (fun k=>absurd k.1 (by simpa using bI))]
 refine d6 aa (bI) (d6 aa (bI) (d6 aa (bI) (d6 aa (bI) (al (cI aa (bI) aa ?_)))))
 refine af (eI aa aa (aT (eU (bm 10 aa (da ?_)))))
 refine ax ?_
 rw[A]
 exact⟨_,PS.bz _++[(1001,.one 95 8 [.vp 1000 0]),(1002,.one 38 328 ((p.cT D).1.enc.map .d))],aa,gg aa ⟨aa,aa,trivial⟩,aa,aa⟩
set_option maxHeartbeats 4000000 in
theorem SX{T:bf}(F:FT T){D:Rd}(z:g7 T D){p:PS}(hp:bd p):bV T 41 [.vp 1001 0,.vp 1002 0] (PS.bz p++[(1001,.one 95 8 [.vp 1000 0]),(1002,.one 27 48 [dN,dN])]) fun r Bn=>r= .tuple []∧Bn=PS.bz (p.cQ D false).2++[(1001,.one 95 8 [.vp 1000 0]),(1002,.one 27 48 ((p.cQ D false).1.enc.map .d))]:=by
 refine cl F.f41 aa (bG (ae 1 aa (dU (wx F z hp false) aa aa aa aa (ae 1 aa (af ?_)))))
 exact⟨_,PS.bz (p.cQ D false).2++[(1001,.one 95 8 [.vp 1000 0]),(1002,.one 27 48 ((p.cQ D false).1.enc.map .d))],aa,gg aa ⟨aa,aa,trivial⟩,aa,aa⟩
set_option maxHeartbeats 4000000 in
theorem Va{T:bf}(F:FT T){D:Rd}(I:g7 T D){p:PS}(hp:bd p):bV T 38 [.vp 1000 0,.fn 41 [.vp 1001 0,.vp 1002 0]] (PS.bz p++[(1001,.one 95 8 [.vp 1000 0]),(1002,.one 27 48 [dN,dN])]) fun r Bn=>r= .tuple [dI (PS.fin (p.cQ D false).2).pos,dI (PS.fin (p.cQ D false).2).err]∧Bn=PS.bz (PS.fin (p.cQ D false).2)++[(1001,.one 95 8 [.vp 1000 0]),(1002,.one 27 48 ((p.cQ D false).1.enc.map .d))]:=by
 refine cl F.Pw aa ?_
 have G:bO p (p.cQ D false).2:=hp.cQ D false
 refine ey (PS.bz p++[(1001,.one 95 8 [.vp 1000 0]),(1002,.one 27 48 [dN,dN])]) (gg aa ⟨aa,aa,trivial⟩) (ak 2 aa (ai (ae 1 aa (al (qI (eD:=[.vp 1001 0,.vp 1002 0]) (bZ:=[.vp 1001 0,.vp 1002 0]) (Bi:=PS.bz p++[(1001,.one 95 8 [.vp 1000 0]),(1002,.one 27 48 [dN,dN])]) [(1000,1000),(1001,1001),(1002,1002)] 2000 aa aa aa aa aa aa aa aa aa (D' aa aa ⟨aa,aa,aa,aa,trivial⟩) (SX F I hp) (fun r Bn fG=>?_))))))
 obtain⟨rfl,rfl⟩:=fG
 refine ew (PS.bz (p.cQ D false).2++[(1001,.one 95 8 [.vp 1000 0]),(1002,.one 27 48 ((p.cQ D false).1.enc.map .d))]) (gg aa ⟨aa,aa,trivial⟩) (af (aM (ai (ae 6 aa (cX (g:=aV) aa (fun bI=>?_) (fun bI=>?_))))))
 ·refine ao aa (bI) (bM aa ?_)
  refine ao aa (bI) (Ea (wv F G.ok) aa aa aa aa ?_)
  refine ao aa (bI) (Cn aa aa ?_)
  refine ao aa (bI) (iu aa aa ?_)
  refine al (cS aa (bI) aa ?_)
  refine af (aJ aa (fun z=>?_) (fun z=>?_))
  ·have A:PS.fin (p.cQ D false).2=PS.fail (p.cQ D false).2 5:=by unfold PS.fin;rw[aq ⟨by simpa using bI,by simpa using z⟩]
   refine bG (ae 1 aa (dU (sg F G.ok 5) aa aa aa aa (af (eU (bm 10 aa (da ?_))))))
   refine ax ?_
   rw[A]
   exact⟨_,PS.bz _++[(1001,.one 95 8 [.vp 1000 0]),(1002,.one 27 48 ((p.cQ D false).1.enc.map .d))],aa,gg aa ⟨aa,aa,trivial⟩,aa,aa⟩
  have A:PS.fin (p.cQ D false).2=(p.cQ D false).2:=by unfold PS.fin;rw[aj (fun k=>absurd k.2 (by simpa using z))]
  refine aT (eU (bm 10 aa (da ?_)))
  refine ax ?_
  rw[A]
  exact⟨_,PS.bz _++[(1001,.one 95 8 [.vp 1000 0]),(1002,.one 27 48 ((p.cQ D false).1.enc.map .d))],aa,gg aa ⟨aa,aa,trivial⟩,aa,aa⟩
 have A:PS.fin (p.cQ D false).2=(p.cQ D false).2:=by unfold PS.fin;rw[aj (fun k=>absurd k.1 (by simpa using bI))]
 refine d6 aa (bI) (d6 aa (bI) (d6 aa (bI) (d6 aa (bI) (al (cI aa (bI) aa ?_)))))
 refine af (eI aa aa (aT (eU (bm 10 aa (da ?_)))))
 refine ax ?_
 rw[A]
 exact⟨_,PS.bz _++[(1001,.one 95 8 [.vp 1000 0]),(1002,.one 27 48 ((p.cQ D false).1.enc.map .d))],aa,gg aa ⟨aa,aa,trivial⟩,aa,aa⟩
set_option maxHeartbeats 4000000 in
theorem Qm{T:bf}(F:FT T){D:Rd}(A:g7 T D){ay:List cL}(G:q8 ay):Sound T 15 [.d (.sl (ay.map cL.enc))] fun r=>r= .tuple [ep (lv D ay).1.enc,dI (lv D ay).2.1,dI (lv D ay).2.2]:=by
 refine eo F.f15 aa (ak 3 aa (ai (ae 3 aa (mW 11 5 1150 116 88 8 aa aa aa (ae 2 aa (af ?_))))))
 refine ak 1 aa (aM (ai (ae 2 aa (al (jI (bZ:=[.vp 1000 0,.fn 39 [.vp 1001 0,.vp 1002 0]]) (Bi:=PS.bi (start ay)++[(1001,.one 95 8 [.vp 1000 0]),(1002,.one 38 328 [d0,d0,d0,d0,dN,dN,dS [],dS [],dN,d0,d0,dN,d0,dN,dN,dN,dN,dN,d0,d0,d0])]) [(1000,11),(1050,1150),(1001,5),(1002,6)] 2000 aa aa aa aa aa aa aa (vX aa aa aa aa ⟨aa,aa,aa,aa,trivial⟩) (U' F A G.top) (fun r Bn fG=>?_))))))
 obtain⟨rfl,rfl⟩:=fG
 refine ew [(2,.one 38 328 [d0,d0,d0,d0,dN,dN,dS [],dS [],dN,d0,d0,dN,d0,dN,dN,dN,dN,dN,d0,d0,d0]),(6,.one 38 328 (((start ay).cT D).1.enc.map .d))] ⟨aa,aa,trivial⟩ (ae 5 aa (af ?_))
 refine ak 2 aa (aJ aa (fun et=>?_) (fun et=>?_))
 ·have z:lv D ay=({},(jy D ay).pos,(jy D ay).err):=by unfold lv;rw[aq (by unfold jy;simpa using et)]
  refine ak 6 aa (ax ?_)
  rw[z]
  exact⟨_,rfl,(by repeat(first|exact trivial|apply And.intro)),rfl⟩
 have z:lv D ay=(((start ay).cT D).1,0,0):=by unfold lv;rw[aj (by unfold jy;simpa using et)]
 refine aT (ak 4 aa (ax ?_))
 rw[z]
 exact⟨_,rfl,(by repeat(first|exact trivial|apply And.intro)),rfl⟩
set_option maxHeartbeats 4000000 in
theorem Qb{T:bf}(F:FT T){D:Rd}(A:g7 T D){ay:List cL}(G:q8 ay):Sound T 16 [.d (.sl (ay.map cL.enc))] fun r=>r= .tuple [ep (lq D ay).1.enc,dI (lq D ay).2.1,dI (lq D ay).2.2]:=by
 refine eo F.f16 aa (ak 3 aa (ai (ae 3 aa (jt 11 5 aa aa (ae 2 aa (af ?_))))))
 refine ak 1 aa (aM (ai (ae 2 aa (al (jI (bZ:=[.vp 1000 0,.fn 41 [.vp 1001 0,.vp 1002 0]]) (Bi:=PS.bz (start ay)++[(1001,.one 95 8 [.vp 1000 0]),(1002,.one 27 48 [dN,dN])]) [(1000,11),(1001,5),(1002,6)] 2000 aa aa aa aa aa aa aa (D' aa aa ⟨aa,aa,aa,aa,trivial⟩) (Va F A G.top) (fun r Bn fG=>?_))))))
 obtain⟨rfl,rfl⟩:=fG
 refine ew [(2,.one 27 48 [dN,dN]),(6,.one 27 48 (((start ay).cQ D false).1.enc.map .d))] ⟨aa,aa,trivial⟩ (ae 5 aa (af ?_))
 refine ak 2 aa (aJ aa (fun et=>?_) (fun et=>?_))
 ·have z:lq D ay=(⟨[],[]⟩,(jD D ay).pos,(jD D ay).err):=by unfold lq;rw[aq (by unfold jD;simpa using et)]
  refine ak 6 aa (ax ?_)
  rw[z]
  exact⟨_,rfl,(by repeat(first|exact trivial|apply And.intro)),rfl⟩
 have z:lq D ay=(((start ay).cQ D false).1,0,0):=by unfold lq;rw[aj (by unfold jD;simpa using et)]
 refine aT (ak 4 aa (ax ?_))
 rw[z]
 exact⟨_,rfl,(by repeat(first|exact trivial|apply And.intro)),rfl⟩
end Go.Ev.Pp
namespace Go.Ev
open Go
theorem Rh{T:bf}{f:Nat}(A:T.ft.get f=none)(h2:T.xt.get f=some 3){s:List UInt8}{u:Nat}(G:s.length≤1000)(I:Lib.parseUintB 64 s= .ok u):
  Sound T f [.d (cJ s),.d (.i .i64 10),.d (.i .i64 64)] fun r=>r= .tuple [.d (.i .u64 u),.k .gA]:=by
 intro H0 X H β l J z
 simp only[bk,aN,cJ,cM] at z
 obtain⟨_,_,rfl,rfl,_,_,rfl,rfl,_,_,rfl,rfl,rfl⟩:=z
 refine⟨1,.tuple [.int .u64 u,.gA],H,fun lf n _ h=>?_,.tuple [.d (.i .u64 u),.k .gA],[],β,.refl,J,by simp only[aN,cM,bk];exact⟨_,rfl,_,_,rfl,rfl,_,_,rfl,rfl,rfl⟩,by simp only[VV.nb,l8];exact⟨trivial,trivial,trivial⟩,rfl⟩
 obtain⟨n,rfl⟩:∃n',n=n'+1:=⟨n-1,by omega⟩
 show ob (T.ft.get f) (ob (T.xt.get f) (.err (Nat.add 10000 f)) fun c=>qv c _ H) _=_
 rw[A,h2]
 show ur [.str s.length (pack s),.int .i64 10,.int .i64 64] H=_
 simp only[ur]
 rw[aq ⟨trivial,trivial,trivial,trivial,G⟩,y8,I]
theorem R1{T:bf}{f t:Nat}(I:T.ft.get f=none)(h2:T.xt.get f=some (4+t)){s:List UInt8}(J:s.length≤1000)(K:(∃v,Lib.parseIntB 64 s= .ok v)∨Lib.parseIntB 64 s= .range):
  Sound T f [.d (cJ s),.d (.i .i64 10),.d (.i .i64 64)] fun r=>∃n e,r= .tuple [.d (.i .i64 n),e]∧((∃m,Lib.parseIntB 64 s= .ok m∧n=m∧e= .k .gA)∨(Lib.parseIntB 64 s= .range∧e= .jq)):=by
 intro H0 X H β l A G
 simp only[bk,aN,cJ,cM] at G
 obtain⟨_,_,rfl,rfl,_,_,rfl,rfl,_,_,rfl,rfl,rfl⟩:=G
 have key:∀lf n,1≤n→T.call lf n f [.str s.length (pack s),.int .i64 10,.int .i64 64] H=so t [.str s.length (pack s),.int .i64 10,.int .i64 64] H:=fun lf n h=>by
  obtain⟨n,rfl⟩:∃n',n=n'+1:=⟨n-1,by omega⟩
  show ob (T.ft.get f) (ob (T.xt.get f) (.err (Nat.add 10000 f)) fun c=>qv c _ H) _=_
  rw[I,h2,show 4+t=t+4 by omega]
  rfl
 have e:so t [.str s.length (pack s),.int .i64 10,.int .i64 64] H=(match Lib.parseIntB 64 s with
  |.ok v=>.ok (.tuple [.int .i64 v,.gA]) H
  |.range=>.ok (.tuple [.int .i64 (Lib.intSat 64 s),.iface t (.map 0)]) H
  |_=>.err 93):=by
  simp only[so]
  rw[aq ⟨trivial,trivial,trivial,trivial,J⟩,y8]
  cases Lib.parseIntB 64 s<;>rfl
 rcases K with⟨m,z⟩|z
 ·refine⟨1,.tuple [.int .i64 m,.gA],H,fun lf n _ h=>?_,.tuple [.d (.i .i64 m),.k .gA],[],β,.refl,A,by simp only[aN,cM,bk];exact⟨_,rfl,_,_,rfl,rfl,_,_,rfl,rfl,rfl⟩,by simp only[VV.nb,l8];exact⟨trivial,trivial,trivial⟩,_,_,rfl,.inl ⟨m,z,rfl,rfl⟩⟩
  rw[key lf n h,e,z]
 refine⟨1,.tuple [.int .i64 (Lib.intSat 64 s),.iface t (.map 0)],H,fun lf n _ h=>?_,.tuple [.d (.i .i64 (Lib.intSat 64 s)),.jq],[],β,.refl,A,by simp only[aN,cM,bk];exact⟨_,rfl,_,_,rfl,rfl,_,_,rfl,⟨_,_,rfl⟩,rfl⟩,by simp only[VV.nb,l8];exact⟨trivial,trivial,trivial⟩,_,_,rfl,.inr ⟨z,rfl⟩⟩
 rw[key lf n h,e,z]
section
variable{T:bf}{VE:b0}{B:br}{Q:b0→br→Prop}
theorem aO{d g:Key}{want t:Bool}{A:Option (List Nat)}{op:bE}{r:List bo}(G:aY VE g.n=some (.d (.b t)))(I:t=!want)(h:VO T r ((d.n,.k .undef)::VE) B Q):VO T (⟨some d,some (g,want),A,op⟩::r) VE B Q:=by
 intro H0 X0 E H β z
 refine KU (z.bool G) (by rw[I];cases want<;>decide) ?_
 exact h H0 X0 _ H β (z.set (by simp only[aN]))
theorem B4{d g:Key}{want:Bool}{A:Option (List Nat)}{op:bE}{r:List bo}(G:aY VE g.n=some (.k .undef))(h:VO T r ((d.n,.k .undef)::VE) B Q):VO T (⟨some d,some (g,want),A,op⟩::r) VE B Q:=by
 intro H0 X0 E H β z
 obtain⟨a,I,h2⟩:=z.env g _ G
 simp only[aN] at h2
 subst h2
 obtain⟨J,K,O,b,c⟩:=h H0 X0 (E.set d .undef) H β (z.set (by simp only[aN]))
 refine⟨J,K,O,fun lf n U Y=>?_,c⟩
 show ob (E.get g) (.err 51) (fun v=>wb v (ku (some d) E H fun E H=>mG (T.call lf n) r E H) fun b=>aH (Bool.xor b want) (ku (some d) E H fun E H=>mG (T.call lf n) r E H) (fin (some d) E (fun E H=>mG (T.call lf n) r E H) (op.ev (T.call lf n) E H)))=_
 rw[I,df]
 show ku (some d) E H (fun E H=>mG (T.call lf n) r E H)=_
 rw[vt]
 exact b lf n U Y
end
end Go.Ev
namespace Go.Ev.Pp
open Go
def PS.ea(p:PS):Nat:=if p.err=0 then 0 else p.aI
def PS.lI(a:Bool)(p:PS):List VV:=[.d (.sl (p.ay.map cL.enc)),dI (p.aI:Nat),dI p.err,dI (p.ea:Nat),dI (p.depth:Nat),dB a]
def PS.bq(a:Bool)(p:PS):br:=[(1000,.one 141 64 (p.lI a))]
def PS.be(a:Bool)(p:PS)(e:List aL):br:=[(1000,.one 141 64 (p.lI a)),(1050,.acc 116 88 8 (e.map aL.enc))]
section
variable{T:bf}{VE:b0}{B:br}{a a':Bool}
theorem vY{f:Nat}{l:List aF}{bZ:List VV}{p A:PS}{R:VV}{Q:VV→br→Prop}(h:bV T f bZ (p.bq a) fun r Bn=>r=R∧Bn=A.bq a')(G:aY B 1000=some (.one 141 64 (p.lI a)))
  (I:(kA 2000 VE&&(kB 2000 B&&clean VE (eE fT B) fT))=true) (J:iW VE l=some (iI fT 2000 bZ)) (K:R.cu fT 2000=R) (O:Q R (A.bq a'++eE fT B)):VI T (.call f l) VE B [1000] Q:=by
 obtain⟨U,z⟩:=iw I
 obtain⟨z,Y⟩:=iw z
 exact jI (Bi:=p.bq a) fT 2000 rfl rfl U z rfl Y J ⟨rfl,G,trivial⟩ h fun r Bn hp=>by
  obtain⟨rfl,rfl⟩:=hp
  rw[K]
  exact O
theorem bH{d:Key}{A:Option (List Nat)}{r:List bo}{f:Nat}{l:List aF}{bZ:List VV}{p z:PS}{R:VV}{Q:b0→br→Prop}(h:bV T f bZ (p.bq a) fun r Bn=>r=R∧Bn=z.bq a')(G:aY B 1000=some (.one 141 64 (p.lI a)))
  (I:(kA 2000 VE&&(kB 2000 B&&clean VE (eE fT B) fT))=true) (J:iW VE l=some (iI fT 2000 bZ)) (K:R.cu fT 2000=R) (O:VO T r ((d.n,R)::VE) (z.bq a'++eE fT B) Q):VO T (⟨some d,none,A,.call f l⟩::r) VE B Q:=al (vY h G I J K O)
theorem yu{d:Key}{m:List Nat}{fl:List FL}{r:List bo}{f:Nat}{l:List aF}{bZ:List VV}{p z:PS}{R:VV}{Q:b0→br→Prop}(h:bV T f bZ (p.bq a) fun r Bn=>r=R∧Bn=z.bq a')(hk:nG [1000] m fl=true)(A:aY B 1000=some (.one 141 64 (p.lI a)))
  (G:(kA 2000 VE&&(kB 2000 B&&clean VE (eE fT B) fT))=true) (I:iW VE l=some (iI fT 2000 bZ)) (J:R.cu fT 2000=R) (K:VQ T r ((d.n,R)::VE) (z.bq a'++eE fT B) (.un::fl) Q):VQ T (⟨some d,none,some m,.call f l⟩::r) VE B fl Q:=eJ hk (vY h A G I J K)
theorem pQ{f:Nat}{l:List aF}{bZ:List VV}{p A:PS}{P:VV→Prop}{Q:VV→br→Prop}(h:bV T f bZ (p.bq a) fun r Bn=>P r∧Bn=A.bq a')(G:aY B 1000=some (.one 141 64 (p.lI a)))
  (I:(kA 2000 VE&&(kB 2000 B&&clean VE (eE fT B) fT))=true) (J:iW VE l=some (iI fT 2000 bZ)) (K:∀r,P r→Q (r.cu fT 2000) (A.bq a'++eE fT B)):VI T (.call f l) VE B [1000] Q:=by
 obtain⟨O,z⟩:=iw I
 obtain⟨z,U⟩:=iw z
 exact jI (Bi:=p.bq a) fT 2000 rfl rfl O z rfl U J ⟨rfl,G,trivial⟩ h fun r Bn hp=>by
  obtain⟨Y,rfl⟩:=hp
  exact K r Y
end
open Go
variable{p:PS}{a:Bool}
theorem cG{B L:br}(z:aY B 1000=some (.one 141 64 (p.lI a)))(h2:bu L B):bu (p.bq a++L) B:=⟨z,h2⟩
theorem R2(h0:p.err=0){e:Int}(he:e≠0):(p.fail e).lI a=[.d (.sl (p.ay.map cL.enc)),dI (p.aI:Nat),dI e,dI (p.aI:Nat),dI (p.depth:Nat),dB a]:=by
 rw[show p.fail e={p with err:=e,pos:=p.tok.pos} from aq h0]
 show [VV.d (.sl (p.ay.map cL.enc)),dI (p.aI:Nat),dI e,dI ((if e=0 then 0 else p.aI:Nat):Nat),dI (p.depth:Nat),dB a]=_
 rw[aj he]
theorem td(h0:p.err=0):p.step.lI a=[.d (.sl (p.ay.map cL.enc)),dI ((p.aI+1:Nat):Int),dI p.err,dI (p.ea:Nat),dI (p.depth:Nat),dB a]:=by
 show [VV.d (.sl (p.ay.map cL.enc)),dI ((p.aI+1:Nat):Int),dI p.err,dI ((if p.err=0 then 0 else p.aI+1:Nat):Nat),dI (p.depth:Nat),dB a]=_
 unfold PS.ea
 rw[aq h0,aq h0]
theorem PS.wY{k:Int}{s:List UInt8}(h:p.next k s=true):p.err=0:=by
 unfold PS.next at h
 simp only[fv,eP] at h
 exact h.1
theorem SY(h0:¬p.err=0)(k:Int)(s:List UInt8):p.next k s=false:=by
 cases h:p.next k s
 ·rfl
 exact absurd (PS.wY h) h0
theorem rI(h0:¬p.err=0)(k:Int)(s:List UInt8):p.accept k s=(false,p):=aj (by rw[SY h0];decide)
theorem R3(h0:¬p.err=0)(s:List UInt8):p.aU [s]=p:=by
 show p.fM s=p
 rw[PS.zy (by rw[show p.keyword s=_ from rI h0 1 s]),show p.keyword s=_ from rI h0 1 s]
 exact aj h0
theorem Jg(h0:¬p.err=0)(s:List UInt8):p.bw s=p:=by
 unfold PS.bw
 rw[show p.sign s=_ from rI h0 5 s]
 exact aj h0
structure ka(T:bf)(D:Rd):Prop where
 day:∀s:List UInt8,s.length≤200→Sound T 173 [dS s] fun r=>r= .tuple [dI (D.day s).1,dI (D.day s).2]
 im:∀s:List UInt8,s.length≤200→Sound T 170 [dS s] fun r=>r= .tuple [.agg [dI (D.im s).1.1,dI (D.im s).1.2],dI (D.im s).2]
 kD:∀s,(D.day s).1≤1000000
 int:∀(neg:Bool)s,D.int neg s=if(dV s:Int)<9223372036854775808∨(neg=true∧(dV s:Int)=9223372036854775808) then some (if neg=true then-(dV s:Int) else(dV s:Int)) else none
end Go.Ev.Pp
