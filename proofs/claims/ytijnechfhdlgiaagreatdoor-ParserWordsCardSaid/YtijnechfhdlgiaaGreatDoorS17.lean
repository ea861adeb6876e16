/- Part 17 of rules for walks through the code of a program, and of such walks; what each part proves is said by its theorems. -/
import Derived.Test.YtijnechfhdlgiaaGreatDoorS13
import Derived.Test.YtijnechfhdlgiaaGreatDoorS16
set_option linter.unusedVariables false
set_option linter.unusedSimpArgs false
namespace Go.Ev.Pp
open Go
set_option maxRecDepth 10000
set_option maxHeartbeats 4000000 in
theorem insertC{T:bf}(F:FT T){D:Rd}(K:gX T D){p:PS}(hp:bd p):bX T 122 [.vp 1000 0] (PS.bi p) fun r Bn=>r=et (p.insert D).1.enc∧Bn=PS.bi (p.insert D).2:=by
 refine cr F.Zd aa ?_
 have G:∀x:PS,bd x→bQ x (PS.literal x D).2:=fun _ h=>h.literal D
 refine ak 1 aa (ai (ae 2 aa (gn 5 5 aa aa (fun _=>⟨aa,aa⟩) ?_)))
 refine bj (aW F hp.ok [lE] (by decide)) rfl rfl rfl rfl rfl ?_
 refine af (ai (ae 1 aa (bj (name F (hp.dF [lE]).st) aa aa aa aa aa (ae 1 aa (rR 9 8 1108 92 32 3 aa aa aa (ae 2 aa (af ?_)))))))
 refine ai (ae 2 aa (gn 11 11 aa aa (fun _=>⟨aa,aa⟩) ?_))
 refine bj (aW F hp.kP.ok [lr] (by decide)) rfl rfl rfl rfl rfl ?_
 refine af (ai (ae 1 aa (bj (bx F (hp.kP.top.dF [lr]).ok cm) aa aa aa aa aa (af (eX (bo 3 aa (mQ (literal F K hp.sv.st) aa aa aa aa aa aa (bo 1 aa (eL aa (ey (rows:=[]) (ys:=[(((p.kP.aW [lr]).bx cm).literal D).1.enc]) aa aa aa (.bs (rows:=[(((p.kP.aW [lr]).bx cm).literal D).1.enc]) aa) (bW aa) (bW aa) (fun _=>aa) (fun _=>aa) ?_))))))))))
 refine bo 2 aa (dc ?_)
 refine aM (bN (d6 (fun k VE B=>∃(l:List _)(q:PS),kv (fun p=>PS.literal p D) k l q=(jc (fun p=>PS.literal p D) ((p.kP.aW [lr]).bx cm))∧l≠[]∧l.length≤q.aJ+1∧((p.kP.aW [lr]).bx cm).aA.length≤k+q.aJ∧bQ ((p.kP.aW [lr]).bx cm) q∧bw [(0,.vp 1000 0),(2,.vp 2 0),(3,.vp 3 0)] VE∧bw (PS.bi q++[(3,.one 50 328 [dI 2,d0,d0,d0,dN,dN,dS (p.aW [lE]).name.1,dS [],.ac 1108 (l.map gU.enc).length 3,d0,d0,dN,d0,dN,dN,dN,dN,dN,d0,d0,d0]),(1108,.acc 92 32 3 (l.map gU.enc)),(2,.one 50 328 [d0,d0,d0,d0,dN,dN,dS [],dS [],dN,d0,d0,dN,d0,dN,dN,dN,dN,dN,d0,d0,d0])]) B) ?_ (k:=((p.kP.aW [lr]).bx cm).aA.length) ⟨[(PS.literal ((p.kP.aW [lr]).bx cm) D).1],(PS.literal ((p.kP.aW [lr]).bx cm) D).2,aa,pO _ _,mG (df _),jQ _ _,G _ hp.sv.top,⟨aa,aa,aa,trivial⟩,dj aa aa ⟨aa,aa,aa,trivial⟩⟩))
 rintro k VE B⟨l,q,z,O,jj,hk,I,hV,U⟩
 refine eA (PS.bi q++[(3,.one 50 328 [dI 2,d0,d0,d0,dN,dN,dS (p.aW [lE]).name.1,dS [],.ac 1108 (l.map gU.enc).length 3,d0,d0,dN,d0,dN,dN,dN,dN,dN,d0,d0,d0]),(1108,.acc 92 32 3 (l.map gU.enc)),(2,.one 50 328 [d0,d0,d0,d0,dN,dN,dS [],dS [],dN,d0,d0,dN,d0,dN,dN,dN,dN,dN,d0,d0,d0])]) U ?_
 have U:bw (PS.bi q++[(3,.one 50 328 [dI 2,d0,d0,d0,dN,dN,dS (p.aW [lE]).name.1,dS [],.ac 1108 (l.map gU.enc).length 3,d0,d0,dN,d0,dN,dN,dN,dN,dN,d0,d0,d0]),(1108,.acc 92 32 3 (l.map gU.enc)),(2,.one 50 328 [d0,d0,d0,d0,dN,dN,dS [],dS [],dN,d0,d0,dN,d0,dN,dN,dN,dN,dN,d0,d0,d0])]) (PS.bi q++[(3,.one 50 328 [dI 2,d0,d0,d0,dN,dN,dS (p.aW [lE]).name.1,dS [],.ac 1108 (l.map gU.enc).length 3,d0,d0,dN,d0,dN,dN,dN,dN,dN,d0,d0,d0]),(1108,.acc 92 32 3 (l.map gU.enc)),(2,.one 50 328 [d0,d0,d0,d0,dN,dN,dS [],dS [],dN,d0,d0,dN,d0,dN,dN,dN,dN,dN,d0,d0,d0])]):=dj rfl rfl ⟨rfl,rfl,rfl,trivial⟩
 have gi:q.aA.length=((p.kP.aW [lr]).bx cm).aA.length:=by rw[I.aA]
 refine dx _ _ hV U (aM (ai (ae 1 aa (bj (sign F I.ok cF) aa aa aa aa aa (af (aK aa (fun A=>?_) (fun A=>?_)))))))
 ·have h2:=I.top.sign cF
  have J:=ov I.ok A
  have fu:=I.ok.dY
  obtain⟨k,rfl⟩:∃k',k=k'+1:=⟨k-1,by have:=J.2;omega⟩
  rw[ow A] at z
  have Z:=h2.trans (G _ h2.top)
  refine aU (bN (iK (bo 3 aa (mQ (literal F K h2.top.st) aa aa aa aa aa aa (bo 1 aa ?_)))))
  refine eL rfl (ey (rows:=l.map gU.enc) (ys:=[((PS.literal (q.sign cF).2 D).1).enc]) rfl rfl rfl (.bs (rows:=[((PS.literal (q.sign cF).2 D).1).enc]) rfl) (bW rfl) (by simp only[bK,cC,dk,dO];omega) (fun h=>by rw[h];rfl) (fun h=>by rw[h];rfl) ?_)
  refine bo 2 aa (dc ?_)
  refine⟨k,fZ k,l++[(PS.literal (q.sign cF).2 D).1],(PS.literal (q.sign cF).2 D).2,z,mo O _,?_,?_,I.trans Z,?_,?_⟩
  ·have:=Z.aJ;have:=J.1;have:=(G _ h2.top).aJ;rw[bK,eK];show l.length+1≤(PS.literal (q.sign cF).2 D).2.aJ+1;omega
  ·have:=(G _ h2.top).aJ;have:=J.1;show((p.kP.aW [lr]).bx cm).aA.length≤k+(PS.literal (q.sign cF).2 D).2.aJ;omega
  ·try simp only[dT,eB,fy]
   exact⟨aa,aa,aa,trivial⟩
  try simp only[dT,eB,fy]
  exact dj aa aa ⟨aa,aa,aa,trivial⟩
 rw[ox A] at z
 rw[PS.ig A]
 have hI:p.sM D=(l,q):=by unfold PS.sM;rw[←z]
 have Y:p.p5 D=(q.bx dL).aW [kO]:=by unfold PS.p5;rw[hI]
 have g1:=I.top.gK dL
 have hm:p.insert D=({kind:=2,table:=(p.aW [lE]).name.1,row:=l,valid:=((p.p5 D).period D).1},((p.p5 D).period D).2):=by unfold PS.insert;rw[hI]
 refine dM (ai (ae 1 aa (bj (bx F I.ok dL) aa aa aa aa aa (af (ai (ae 2 aa (gn 34 34 aa aa (fun _=>⟨aa,aa⟩) ?_)))))))
 refine bj (aW F g1.ok [kO] (by decide)) rfl rfl rfl rfl rfl ?_
 refine af (ai ?_)
 rw[←Y]
 refine ae 1 aa (bj (period F K (hp.p5 D).st) aa aa aa aa aa (ae 2 aa (af ?_)))
 refine ai (ae 1 aa (fx 39 1108 aa aa ⟨trivial,trivial,trivial,trivial,trivial,trivial,trivial,trivial,fun _=>⟨aa,aa⟩,trivial,trivial,trivial,trivial,trivial,trivial,trivial,trivial,trivial,trivial,trivial,trivial,trivial⟩ (ae 1 aa (af ?_))))
 refine ax ?_
 rw[hm]
 exact⟨_,PS.bi _,aa,cI aa aa,aa,aa⟩
set_option maxHeartbeats 4000000 in
theorem Uh{T:bf}(F:FT T){D:Rd}(z:gX T D){p:PS}(hp:bd p):bX T 123 [.vp 1000 0] (PS.bi p) fun r Bn=>r=et (p.remove D).1.enc∧Bn=PS.bz (p.remove D).2:=by
 refine cr F.Ze aa (ak 1 aa (ai (ae 2 aa (gn 5 5 aa aa (fun _=>⟨aa,aa⟩) ?_))))
 refine bj (aW F hp.ok [hY] (by decide)) rfl rfl rfl rfl rfl ?_
 refine af (ai (ae 1 aa (bj (name F (hp.dF [hY]).st) aa aa aa aa aa (ae 3 aa (af ?_)))))
 refine ai (ae 2 aa (gn 11 11 aa aa (fun _=>⟨aa,aa⟩) ?_))
 refine bj (aW F (hp.dF [hY]).top.name.ok [kO,oq,j6] (by decide)) rfl rfl rfl rfl rfl ?_
 refine af (ai (ae 1 aa (bj (period F z hp.wt.st) aa aa aa aa aa (ae 2 aa (af ?_)))))
 refine ai (ae 1 aa (bj (CL F z (hp.nq D).top) aa aa aa aa aa (ae 2 aa (af ?_))))
 refine ai (ae 4 aa (fx 22 1050 aa aa (fun _=>⟨aa,aa⟩) (ae 2 aa (af ?_))))
 refine ai (js 1000 5 aa aa (ae 2 aa (af ?_)))
 exact ax (⟨_,PS.bz (p.remove D).2,aa,fC aa,aa,aa⟩)
set_option maxHeartbeats 4000000 in
theorem Ui{T:bf}(F:FT T){D:Rd}(K:gX T D){p:PS}(hp:bd p):bX T 124 [.vp 1000 0] (PS.bi p) fun r Bn=>r=et (p.update D).1.enc∧Bn=PS.bz (p.update D).2:=by
 refine cr F.Zf aa ?_
 have G:∀x:PS,bd x→bQ x (PS.set x D).2:=fun _ h=>h.set D
 refine ak 1 aa (ai (ae 1 aa (bj (name F hp.st) aa aa aa aa aa (ae 1 aa (rR 6 13 1113 94 24 2 aa aa aa (ae 2 aa (af ?_)))))))
 refine ai (ae 2 aa (gn 8 8 aa aa (fun _=>⟨aa,aa⟩) ?_))
 refine bj (aW F hp.name.ok [kO,oq,j6] (by decide)) rfl rfl rfl rfl rfl ?_
 refine af (ai (ae 1 aa (bj (period F K hp.gA.st) aa aa aa aa aa (ae 2 aa (af ?_)))))
 refine ai (ae 2 aa (gn 14 14 aa aa (fun _=>⟨aa,aa⟩) ?_))
 refine bj (aW F (hp.gA.top.period D).ok [kz] (by decide)) rfl rfl rfl rfl rfl ?_
 refine af (eX (bo 3 aa (mQ (gq F K (hp.x8 D).top) aa aa aa aa aa aa (bo 1 aa (eL aa (ey (rows:=[]) (ys:=[eM (((p.gA.period D).2.aW [kz]).set D).1]) aa aa aa (.bs (rows:=[eM (((p.gA.period D).2.aW [kz]).set D).1]) aa) (bW aa) (bW aa) (fun _=>aa) (fun _=>aa) ?_))))))
 refine bo 2 aa (dc ?_)
 refine aM (bN (d6 (fun k VE B=>∃(l:List _)(q:PS),kv (fun p=>PS.set p D) k l q=(jc (fun p=>PS.set p D) ((p.gA.period D).2.aW [kz]))∧l≠[]∧l.length≤q.aJ+1∧((p.gA.period D).2.aW [kz]).aA.length≤k+q.aJ∧bQ ((p.gA.period D).2.aW [kz]) q∧bw [(0,.vp 1000 0),(2,.vp 2 0),(3,.vp 3 0)] VE∧bw (PS.bi q++[(3,.one 50 328 [dI 4,d0,d0,d0,dN,dN,dS p.name.1,dS [],dN,dI (p.gA.period D).1.1,dI (p.gA.period D).1.2,dN,d0,.ac 1113 (l.map eM).length 2,dN,dN,dN,dN,d0,d0,d0]),(1113,.acc 94 24 2 (l.map eM)),(2,.one 50 328 [d0,d0,d0,d0,dN,dN,dS [],dS [],dN,d0,d0,dN,d0,dN,dN,dN,dN,dN,d0,d0,d0])]) B) ?_ (k:=((p.gA.period D).2.aW [kz]).aA.length) ⟨[(PS.set ((p.gA.period D).2.aW [kz]) D).1],(PS.set ((p.gA.period D).2.aW [kz]) D).2,aa,pO _ _,mG (df _),jQ _ _,G _ (hp.x8 D).top,⟨aa,aa,aa,trivial⟩,dj aa aa ⟨aa,aa,aa,trivial⟩⟩))
 rintro k VE B⟨l,q,z,O,Z,hk,I,hV,U⟩
 refine eA (PS.bi q++[(3,.one 50 328 [dI 4,d0,d0,d0,dN,dN,dS p.name.1,dS [],dN,dI (p.gA.period D).1.1,dI (p.gA.period D).1.2,dN,d0,.ac 1113 (l.map eM).length 2,dN,dN,dN,dN,d0,d0,d0]),(1113,.acc 94 24 2 (l.map eM)),(2,.one 50 328 [d0,d0,d0,d0,dN,dN,dS [],dS [],dN,d0,d0,dN,d0,dN,dN,dN,dN,dN,d0,d0,d0])]) U ?_
 have U:bw (PS.bi q++[(3,.one 50 328 [dI 4,d0,d0,d0,dN,dN,dS p.name.1,dS [],dN,dI (p.gA.period D).1.1,dI (p.gA.period D).1.2,dN,d0,.ac 1113 (l.map eM).length 2,dN,dN,dN,dN,d0,d0,d0]),(1113,.acc 94 24 2 (l.map eM)),(2,.one 50 328 [d0,d0,d0,d0,dN,dN,dS [],dS [],dN,d0,d0,dN,d0,dN,dN,dN,dN,dN,d0,d0,d0])]) (PS.bi q++[(3,.one 50 328 [dI 4,d0,d0,d0,dN,dN,dS p.name.1,dS [],dN,dI (p.gA.period D).1.1,dI (p.gA.period D).1.2,dN,d0,.ac 1113 (l.map eM).length 2,dN,dN,dN,dN,d0,d0,d0]),(1113,.acc 94 24 2 (l.map eM)),(2,.one 50 328 [d0,d0,d0,d0,dN,dN,dS [],dS [],dN,d0,d0,dN,d0,dN,dN,dN,dN,dN,d0,d0,d0])]):=dj rfl rfl ⟨rfl,rfl,rfl,trivial⟩
 have gi:q.aA.length=((p.gA.period D).2.aW [kz]).aA.length:=by rw[I.aA]
 refine dx _ _ hV U (aM (ai (ae 1 aa (bj (sign F I.ok cF) aa aa aa aa aa (af (aK aa (fun A=>?_) (fun A=>?_)))))))
 ·have h2:=I.top.sign cF
  have J:=ov I.ok A
  have fu:=I.ok.dY
  obtain⟨k,rfl⟩:∃k',k=k'+1:=⟨k-1,by have:=J.2;omega⟩
  rw[ow A] at z
  have Y:=h2.trans (G _ h2.top)
  refine aU (bN (iK (bo 3 aa (mQ (gq F K h2.top) aa aa aa aa aa aa (bo 1 aa ?_)))))
  refine eL rfl (ey (rows:=l.map eM) (ys:=[eM ((PS.set (q.sign cF).2 D).1)]) rfl rfl rfl (.bs (rows:=[eM ((PS.set (q.sign cF).2 D).1)]) rfl) (bW rfl) (by simp only[bK,cC,dk,dO];omega) (fun h=>by rw[h];rfl) (fun h=>by rw[h];rfl) ?_)
  refine bo 2 aa (dc ?_)
  refine⟨k,fZ k,l++[(PS.set (q.sign cF).2 D).1],(PS.set (q.sign cF).2 D).2,z,mo O _,?_,?_,I.trans Y,?_,?_⟩
  ·have:=Y.aJ;have:=J.1;have:=(G _ h2.top).aJ;rw[bK,eK];show l.length+1≤(PS.set (q.sign cF).2 D).2.aJ+1;omega
  ·have:=(G _ h2.top).aJ;have:=J.1;show((p.gA.period D).2.aW [kz]).aA.length≤k+(PS.set (q.sign cF).2 D).2.aJ;omega
  ·try simp only[dT,eB,fy]
   exact⟨aa,aa,aa,trivial⟩
  try simp only[dT,eB,fy]
  exact dj aa aa ⟨aa,aa,aa,trivial⟩
 rw[ox A] at z
 rw[PS.ig A]
 have hI:p.o7 D=(l,q):=by unfold PS.o7;rw[←z]
 have hm:p.update D=({kind:=4,table:=p.name.1,valid:=(p.gA.period D).1,mR:=l,wh:=(q.dX D).1,exprs:=(q.dX D).2.ex},(q.dX D).2):=by unfold PS.update;rw[hI]
 refine dM (ai (ae 1 aa (bj (CL F K I.top) aa aa aa aa aa (ae 2 aa (af ?_)))))
 refine ai (ae 4 aa (fx 38 1050 aa aa (fun _=>⟨aa,aa⟩) (ae 2 aa (af ?_))))
 refine ai (js 1000 5 aa aa (ae 1 aa (fx 40 1113 aa aa ⟨trivial,trivial,trivial,trivial,trivial,trivial,trivial,trivial,trivial,trivial,trivial,trivial,trivial,fun _=>⟨aa,aa⟩,trivial,trivial,trivial,trivial,trivial,trivial,trivial,trivial⟩ (ae 1 aa (af ?_)))))
 refine ax ?_
 rw[hm]
 exact⟨_,PS.bz _,aa,fC aa,aa,aa⟩
set_option maxHeartbeats 4000000 in
theorem Vo{T:bf}(F:FT T){p:PS}(hp:bd p):bX T 126 [.vp 1000 0] (PS.bi p) fun r Bn=>r=et p.alter.1.enc∧Bn=PS.bi p.alter.2:=by
 refine cr F.Zh aa (ak 1 aa (ai (ae 2 aa (gn 5 5 aa aa (fun _=>⟨aa,aa⟩) ?_))))
 refine bj (aW F hp.ok [db] (by decide)) rfl rfl rfl rfl rfl ?_
 refine af (ai (ae 1 aa (bj (name F (hp.dF [db]).st) aa aa aa aa aa (ae 1 aa (af ?_)))))
 refine aM (bN (ai (ae 1 aa (bj (keyword F hp.gm.ok nV) aa aa aa aa aa (ae 1 aa (af ?_))))))
 refine aK aa (fun A=>?_) (fun A=>?_)
 ·have I:=hp.gm.top.kw nV
  have G:p.alter=({kind:=6,table:=(p.aW [db]).name.1,jh:=[(p.gm.keyword nV).2.column.1]},(p.gm.keyword nV).2.column.2):=by unfold PS.alter;rw[aw A]
  refine ai (ae 2 aa (bj (GF F I.top) aa aa aa aa aa (ae 1 aa (gn 15 15 aa aa (fun _=>⟨aa,aa⟩) (ae 2 aa (af ?_))))))
  refine ax ?_
  rw[G]
  exact⟨_,PS.bi _,aa,cI aa aa,aa,aa⟩
 rw[PS.cL A]
 refine ai (ae 1 aa (bj (keyword F hp.gm.ok pR) aa aa aa aa aa (ae 1 aa (af ?_))))
 refine aK aa (fun z=>?_) (fun z=>?_)
 ·have I:=hp.gm.top.kw pR
  have G:p.alter=({kind:=7,table:=(p.aW [db]).name.1,name:=(p.gm.keyword pR).2.name.1},(p.gm.keyword pR).2.name.2):=by unfold PS.alter;rw[aj (by rw[A];decide),aw z]
  refine ai (ae 2 aa (bj (name F I.st) aa aa aa aa aa (ae 2 aa (af ?_))))
  refine ax ?_
  rw[G]
  exact⟨_,PS.bi _,aa,cI aa aa,aa,aa⟩
 rw[PS.cL z]
 have G:p.alter=(({}:Stmt),p.gm.fail 5):=by unfold PS.alter;rw[aj (by rw[A];decide),aj (by rw[z];decide)]
 refine aU (ai (ae 1 aa (bj (fail F hp.gm.ok 5) aa aa aa aa aa (af (ak 2 aa (ax ?_))))))
 rw[G]
 exact⟨_,PS.bi _,aa,cI aa aa,aa,aa⟩
open Go
set_option maxRecDepth 10000
set_option maxHeartbeats 8000000 in
theorem Uj{T:bf}(F:FT T){p:PS}(hp:bd p):bX T 125 [.vp 1000 0] (PS.bi p) fun r Bn=>r=et p.create.1.enc∧Bn=PS.bi p.create.2:=by
 refine cr F.Zg aa ?_
 have od:∀x:PS,bd x→bQ x (PS.column x).2:=fun _ h=>h.column
 refine ak 1 aa (ai (ae 2 aa (gn 6 6 aa aa (fun _=>⟨aa,aa⟩) ?_)))
 refine bj (aW F hp.ok [db] (by decide)) rfl rfl rfl rfl rfl ?_
 refine af (ai (ae 1 aa (bj (name F (hp.dF [db]).st) aa aa aa aa aa (ae 1 aa (rR 10 14 1114 96 32 3 aa aa aa (rR 10 16 1116 98 64 3 aa aa aa (rR 10 17 1117 100 32 2 aa aa aa (ae 2 aa (af ?_)))))))))
 refine ai (ae 1 aa (bj (bx F (hp.dF [db]).top.name.ok cm) aa aa aa aa aa (af (eX (bo 3 aa (mQ (GF F hp.Ar.top) aa aa aa aa aa aa (bo 1 aa (eL aa (ey (rows:=[]) (ys:=[cS ((p.aW [db]).name.2.bx cm).column.1]) aa aa aa (.bs (rows:=[cS ((p.aW [db]).name.2.bx cm).column.1]) aa) (bW aa) (bW aa) (fun _=>aa) (fun _=>aa) ?_)))))))))
 refine bo 2 aa (dc ?_)
 refine aM (bN (d6 (fun k VE B=>∃(l:List _)(q:PS),kv PS.column k l q=(jc PS.column ((p.aW [db]).name.2.bx cm))∧l≠[]∧l.length≤q.aJ+1∧((p.aW [db]).name.2.bx cm).aA.length≤k+q.aJ∧bQ ((p.aW [db]).name.2.bx cm) q∧bw [(0,.vp 1000 0),(2,.vp 2 0),(3,.vp 3 0)] VE∧bw (PS.bi q++[(3,.one 50 328 [dI 5,d0,d0,d0,dN,dN,dS (p.aW [db]).name.1,dS [],dN,d0,d0,dN,d0,dN,.ac 1114 (l.map cS).length 3,dN,.ac 1116 0 3,.ac 1117 0 2,d0,d0,d0]),(1114,.acc 96 32 3 (l.map cS)),(1116,.acc 98 64 3 []),(1117,.acc 100 32 2 []),(2,.one 50 328 [d0,d0,d0,d0,dN,dN,dS [],dS [],dN,d0,d0,dN,d0,dN,dN,dN,dN,dN,d0,d0,d0])]) B) ?_ (k:=((p.aW [db]).name.2.bx cm).aA.length) ⟨[(PS.column ((p.aW [db]).name.2.bx cm)).1],(PS.column ((p.aW [db]).name.2.bx cm)).2,aa,pO _ _,mG (df _),jQ _ _,od _ hp.Ar.top,⟨aa,aa,aa,trivial⟩,dj aa aa ⟨aa,aa,aa,aa,aa,trivial⟩⟩))
 rintro k VE B⟨l,q,z,lp,jj,hk,A,hV,Z⟩
 refine eA (PS.bi q++[(3,.one 50 328 [dI 5,d0,d0,d0,dN,dN,dS (p.aW [db]).name.1,dS [],dN,d0,d0,dN,d0,dN,.ac 1114 (l.map cS).length 3,dN,.ac 1116 0 3,.ac 1117 0 2,d0,d0,d0]),(1114,.acc 96 32 3 (l.map cS)),(1116,.acc 98 64 3 []),(1117,.acc 100 32 2 []),(2,.one 50 328 [d0,d0,d0,d0,dN,dN,dS [],dS [],dN,d0,d0,dN,d0,dN,dN,dN,dN,dN,d0,d0,d0])]) Z ?_
 have Z:bw (PS.bi q++[(3,.one 50 328 [dI 5,d0,d0,d0,dN,dN,dS (p.aW [db]).name.1,dS [],dN,d0,d0,dN,d0,dN,.ac 1114 (l.map cS).length 3,dN,.ac 1116 0 3,.ac 1117 0 2,d0,d0,d0]),(1114,.acc 96 32 3 (l.map cS)),(1116,.acc 98 64 3 []),(1117,.acc 100 32 2 []),(2,.one 50 328 [d0,d0,d0,d0,dN,dN,dS [],dS [],dN,d0,d0,dN,d0,dN,dN,dN,dN,dN,d0,d0,d0])]) (PS.bi q++[(3,.one 50 328 [dI 5,d0,d0,d0,dN,dN,dS (p.aW [db]).name.1,dS [],dN,d0,d0,dN,d0,dN,.ac 1114 (l.map cS).length 3,dN,.ac 1116 0 3,.ac 1117 0 2,d0,d0,d0]),(1114,.acc 96 32 3 (l.map cS)),(1116,.acc 98 64 3 []),(1117,.acc 100 32 2 []),(2,.one 50 328 [d0,d0,d0,d0,dN,dN,dS [],dS [],dN,d0,d0,dN,d0,dN,dN,dN,dN,dN,d0,d0,d0])]):=dj rfl rfl ⟨rfl,rfl,rfl,rfl,rfl,trivial⟩
 have gi:q.aA.length=((p.aW [db]).name.2.bx cm).aA.length:=by rw[A.aA]
 refine dx _ _ hV Z (aM (ai (ae 1 aa (bj (sign F A.ok cF) aa aa aa aa aa (af (aK aa (fun Bm=>?_) (fun Bm=>?_)))))))
 ·have h2:=A.top.sign cF
  have pg:=ov A.ok Bm
  have fu:=A.ok.dY
  obtain⟨k,rfl⟩:∃k',k=k'+1:=⟨k-1,by have:=pg.2;omega⟩
  rw[ow Bm] at z
  have h3:=h2.trans (od _ h2.top)
  refine aU (bN (iK (bo 3 aa (mQ (GF F h2.top) aa aa aa aa aa aa (bo 1 aa ?_)))))
  refine eL rfl (ey (rows:=l.map cS) (ys:=[cS ((PS.column (q.sign cF).2).1)]) rfl rfl rfl (.bs (rows:=[cS ((PS.column (q.sign cF).2).1)]) rfl) (bW rfl) (by simp only[bK,cC,dk,dO];omega) (fun h=>by rw[h];rfl) (fun h=>by rw[h];rfl) ?_)
  refine bo 2 aa (dc ?_)
  refine⟨k,fZ k,l++[(PS.column (q.sign cF).2).1],(PS.column (q.sign cF).2).2,z,mo lp _,?_,?_,A.trans h3,?_,?_⟩
  ·have:=h3.aJ;have:=pg.1;have:=(od _ h2.top).aJ;rw[bK,eK];show l.length+1≤(PS.column (q.sign cF).2).2.aJ+1;omega
  ·have:=(od _ h2.top).aJ;have:=pg.1;show((p.aW [db]).name.2.bx cm).aA.length≤k+(PS.column (q.sign cF).2).2.aJ;omega
  ·try simp only[dT,eB,fy]
   exact⟨aa,aa,aa,trivial⟩
  try simp only[dT,eB,fy]
  exact dj aa aa ⟨aa,aa,aa,aa,aa,trivial⟩
 rw[ox Bm] at z
 rw[PS.ig Bm]
 have hI:p.sN=(l,q):=by unfold PS.sN;rw[←z]
 have PO:p.ik=q.bx dL:=by unfold PS.ik;rw[hI]
 obtain⟨I,uW⟩:∃I,l=I:=⟨_,rfl⟩
 rw[uW] at hI⊢
 refine dM (ai (ae 1 aa (bj (bx F A.ok dL) aa aa aa aa aa (af (aM (ai ?_))))))
 rw[←PO]
 clear hV Z z lp jj hk gi PO uW
 refine ae 1 aa (bj (keyword F hp.ik.ok rA) aa aa aa aa aa (af (aK aa (fun ph=>?_) (fun ph=>?_))))
 ·have j1:=hp.ik.top.kw rA
  obtain⟨K,yG⟩:∃K,(p.ik.keyword rA).2.names.1=K:=⟨_,rfl⟩
  have hK:p.ik.key=(K,(p.ik.keyword rA).2.names.2):=by unfold PS.key;rw[aw ph,←yG]
  have hz:p.ik.key.2=(p.ik.keyword rA).2.names.2:=by rw[hK]
  refine bG (ae 1 aa (bj (si F j1.top) aa aa aa aa aa (ae 2 aa (af ?_))))
  refine aM ?_
  (refine eA (PS.bi p.ik.key.2++[(3,.one 50 328 [dI 5,d0,d0,d0,dN,dN,dS (p.aW [db]).name.1,dS [],dN,d0,d0,dN,d0,dN,.ac 1114 (I.map cS).length 3,.d (fR K),.ac 1116 (([]:List Fk).map Fk.enc).length 3,.ac 1117 0 2,d0,d0,d0]),(1114,.acc 96 32 3 (I.map cS)),(1116,.acc 98 64 3 (([]:List Fk).map Fk.enc)),(1117,.acc 100 32 2 []),(2,.one 50 328 [d0,d0,d0,d0,dN,dN,dS [],dS [],dN,d0,d0,dN,d0,dN,dN,dN,dN,dN,d0,d0,d0])]) ?_ ?_; · exact dj (by rw[hz];rfl) (by rw[hz];rfl) ⟨by rw[←yG];rfl,rfl,rfl,rfl,rfl,trivial⟩)
  refine bN (d6 (fun k VE B=>∃(l:List Fk)(q:PS),o8 k l q=p.o9∧l.length≤q.aJ+1∧p.aA.length≤k+q.aJ∧bQ p q∧bw [(0,.vp 1000 0),(2,.vp 2 0),(3,.vp 3 0)] VE∧bw (PS.bi q++[(3,.one 50 328 [dI 5,d0,d0,d0,dN,dN,dS (p.aW [db]).name.1,dS [],dN,d0,d0,dN,d0,dN,.ac 1114 (I.map cS).length 3,.d (fR K),.ac 1116 (l.map Fk.enc).length 3,.ac 1117 0 2,d0,d0,d0]),(1114,.acc 96 32 3 (I.map cS)),(1116,.acc 98 64 3 (l.map Fk.enc)),(1117,.acc 100 32 2 []),(2,.one 50 328 [d0,d0,d0,d0,dN,dN,dS [],dS [],dN,d0,d0,dN,d0,dN,dN,dN,dN,dN,d0,d0,d0])]) B) ?_ (k:=p.aA.length) ⟨[],p.ik.key.2,aa,df _,jQ _ _,hp.x9,⟨aa,aa,aa,trivial⟩,dj aa aa ⟨aa,aa,aa,aa,aa,trivial⟩⟩)
  clear A
  rintro k VE B⟨l,q,z,jj,hk,A,hV,Z⟩
  refine eA (PS.bi q++[(3,.one 50 328 [dI 5,d0,d0,d0,dN,dN,dS (p.aW [db]).name.1,dS [],dN,d0,d0,dN,d0,dN,.ac 1114 (I.map cS).length 3,.d (fR K),.ac 1116 (l.map Fk.enc).length 3,.ac 1117 0 2,d0,d0,d0]),(1114,.acc 96 32 3 (I.map cS)),(1116,.acc 98 64 3 (l.map Fk.enc)),(1117,.acc 100 32 2 []),(2,.one 50 328 [d0,d0,d0,d0,dN,dN,dS [],dS [],dN,d0,d0,dN,d0,dN,dN,dN,dN,dN,d0,d0,d0])]) Z ?_
  have Z:bw (PS.bi q++[(3,.one 50 328 [dI 5,d0,d0,d0,dN,dN,dS (p.aW [db]).name.1,dS [],dN,d0,d0,dN,d0,dN,.ac 1114 (I.map cS).length 3,.d (fR K),.ac 1116 (l.map Fk.enc).length 3,.ac 1117 0 2,d0,d0,d0]),(1114,.acc 96 32 3 (I.map cS)),(1116,.acc 98 64 3 (l.map Fk.enc)),(1117,.acc 100 32 2 []),(2,.one 50 328 [d0,d0,d0,d0,dN,dN,dS [],dS [],dN,d0,d0,dN,d0,dN,dN,dN,dN,dN,d0,d0,d0])]) (PS.bi q++[(3,.one 50 328 [dI 5,d0,d0,d0,dN,dN,dS (p.aW [db]).name.1,dS [],dN,d0,d0,dN,d0,dN,.ac 1114 (I.map cS).length 3,.d (fR K),.ac 1116 (l.map Fk.enc).length 3,.ac 1117 0 2,d0,d0,d0]),(1114,.acc 96 32 3 (I.map cS)),(1116,.acc 98 64 3 (l.map Fk.enc)),(1117,.acc 100 32 2 []),(2,.one 50 328 [d0,d0,d0,d0,dN,dN,dS [],dS [],dN,d0,d0,dN,d0,dN,dN,dN,dN,dN,d0,d0,d0])]):=dj rfl rfl ⟨rfl,rfl,rfl,rfl,rfl,trivial⟩
  have gi:q.aA.length=p.aA.length:=by rw[A.aA]
  have fu:=A.ok.dY
  refine dx _ _ hV Z (aM (ai (ae 1 aa (bj (keyword F A.ok lS) aa aa aa aa aa (af (aK aa (fun O=>?_) (fun O=>?_)))))))
  ·have U:=nc A.ok O
   obtain⟨k,rfl⟩:∃k',k=k'+1:=⟨k-1,by omega⟩
   rw[GY O] at z
   have G:=A.top.kw lS
   have j0:=U.1
   generalize (q.keyword lS).2=J at z G j0⊢
   have j1:=G.top.names
   have j2:=G.top.tc
   have j3:=j2.top.name
   refine aU (bN (ai (ae 1 aa (bj (si F G.top) aa aa aa aa aa (ae 3 aa (af ?_))))))
   refine ai (ae 2 aa (gn 42 42 aa aa (fun _=>⟨aa,aa⟩) ?_))
   refine bj (aW F j1.ok [yR] (by decide)) rfl rfl rfl rfl rfl ?_
   refine af (ai (ae 1 aa (bj (name F j2.st) aa aa aa aa aa (ae 2 aa (af ?_)))))
   refine ai (ae 1 aa (bj (si F j3.top) aa aa aa aa aa (ae 2 aa (af ?_))))
   refine bG (ae 4 aa ?_)
   refine al (ey (rows:=l.map Fk.enc) (ys:=[J.fk.1.enc]) rfl rfl rfl (.bs (rows:=[J.fk.1.enc]) rfl) (bW rfl) (by simp only[bK,cC,dk,dO];omega) (fun h=>by rw[h];rfl) (fun h=>by rw[h];rfl) ?_)
   refine ae 2 aa (af ?_)
   refine⟨k,fZ k,l++[J.fk.1],J.fk.2,z,?_,?_,(A.trans G).trans G.top.fk,⟨aa,aa,aa,trivial⟩,?_⟩
   ·have:=G.top.fk.aJ;rw[bK,eK];omega
   ·have:=G.top.fk.aJ;omega
   simp only[dT,eB,fy]
   exact dj aa aa ⟨aa,aa,aa,aa,aa,trivial⟩
  rw[GZ O] at z
  rw[PS.cL O]
  obtain⟨lf,Bo⟩:∃lf,l=lf:=⟨_,rfl⟩
  rw[Bo] at z⊢
  clear hV Z jj hk gi Bo
  refine dM (bN ?_)
  refine d6 (fun k VE B=>∃(l:List (Int×List (List UInt8)))(q:PS),nM k l q=p.uR∧l.length≤q.aJ+1∧p.aA.length≤k+q.aJ∧bQ p q∧bw [(0,.vp 1000 0),(2,.vp 2 0),(3,.vp 3 0)] VE∧bw (PS.bi q++[(3,.one 50 328 [dI 5,d0,d0,d0,dN,dN,dS (p.aW [db]).name.1,dS [],dN,d0,d0,dN,d0,dN,.ac 1114 (I.map cS).length 3,.d (fR K),.ac 1116 (lf.map Fk.enc).length 3,.ac 1117 (l.map dQ).length 2,d0,d0,d0]),(1114,.acc 96 32 3 (I.map cS)),(1116,.acc 98 64 3 (lf.map Fk.enc)),(1117,.acc 100 32 2 (l.map dQ)),(2,.one 50 328 [d0,d0,d0,d0,dN,dN,dS [],dS [],dN,d0,d0,dN,d0,dN,dN,dN,dN,dN,d0,d0,d0])]) B) ?_ (k:=p.aA.length) ⟨[],q,by unfold PS.uR;rw[←z],df _,jQ _ _,A,⟨rfl,rfl,rfl,trivial⟩,dj rfl rfl ⟨rfl,rfl,rfl,rfl,rfl,trivial⟩⟩
  have hR:p.o9.1=lf:=by rw[←z]
  clear z A fu
  rintro k VE B⟨l,q,z,jj,hk,A,hV,Z⟩
  refine eA (PS.bi q++[(3,.one 50 328 [dI 5,d0,d0,d0,dN,dN,dS (p.aW [db]).name.1,dS [],dN,d0,d0,dN,d0,dN,.ac 1114 (I.map cS).length 3,.d (fR K),.ac 1116 (lf.map Fk.enc).length 3,.ac 1117 (l.map dQ).length 2,d0,d0,d0]),(1114,.acc 96 32 3 (I.map cS)),(1116,.acc 98 64 3 (lf.map Fk.enc)),(1117,.acc 100 32 2 (l.map dQ)),(2,.one 50 328 [d0,d0,d0,d0,dN,dN,dS [],dS [],dN,d0,d0,dN,d0,dN,dN,dN,dN,dN,d0,d0,d0])]) Z ?_
  have Z:bw (PS.bi q++[(3,.one 50 328 [dI 5,d0,d0,d0,dN,dN,dS (p.aW [db]).name.1,dS [],dN,d0,d0,dN,d0,dN,.ac 1114 (I.map cS).length 3,.d (fR K),.ac 1116 (lf.map Fk.enc).length 3,.ac 1117 (l.map dQ).length 2,d0,d0,d0]),(1114,.acc 96 32 3 (I.map cS)),(1116,.acc 98 64 3 (lf.map Fk.enc)),(1117,.acc 100 32 2 (l.map dQ)),(2,.one 50 328 [d0,d0,d0,d0,dN,dN,dS [],dS [],dN,d0,d0,dN,d0,dN,dN,dN,dN,dN,d0,d0,d0])]) (PS.bi q++[(3,.one 50 328 [dI 5,d0,d0,d0,dN,dN,dS (p.aW [db]).name.1,dS [],dN,d0,d0,dN,d0,dN,.ac 1114 (I.map cS).length 3,.d (fR K),.ac 1116 (lf.map Fk.enc).length 3,.ac 1117 (l.map dQ).length 2,d0,d0,d0]),(1114,.acc 96 32 3 (I.map cS)),(1116,.acc 98 64 3 (lf.map Fk.enc)),(1117,.acc 100 32 2 (l.map dQ)),(2,.one 50 328 [d0,d0,d0,d0,dN,dN,dS [],dS [],dN,d0,d0,dN,d0,dN,dN,dN,dN,dN,d0,d0,d0])]):=dj rfl rfl ⟨rfl,rfl,rfl,rfl,rfl,trivial⟩
  have gi:q.aA.length=p.aA.length:=by rw[A.aA]
  have fu:=A.ok.dY
  refine dx _ _ hV Z (bN (bN (ai (ae 1 aa (bj (keyword F A.ok pM) aa aa aa aa aa (ae 1 aa (af ?_)))))))
  refine aK aa (fun Y=>?_) (fun Y=>?_)
  ·have hj:q.gN=some (1,(q.keyword pM).2):=by unfold PS.gN;rw[aw Y]
   obtain⟨G,U,j0⟩:=A.top.gN hj
   obtain⟨k,rfl⟩:∃k',k=k'+1:=⟨k-1,by omega⟩
   rw[vh hj] at z
   generalize (q.keyword pM).2=J at hj G U z⊢
   refine iK (bo 3 aa (mQ (si F G.top) aa aa aa aa aa aa (bo 2 aa ?_)))
   refine eL rfl (ey (rows:=l.map dQ) (ys:=[dQ (1,J.names.1)]) rfl rfl rfl (.bs (rows:=[dQ (1,J.names.1)]) rfl) (bW rfl) (by simp only[bK,cC,dk,dO];omega) (fun h=>by rw[h];rfl) (fun h=>by rw[h];rfl) ?_)
   refine bo 2 aa (dc ?_)
   refine⟨k,fZ k,l++[(1,J.names.1)],J.names.2,z,?_,?_,(A.trans G).trans G.top.names,⟨aa,aa,aa,trivial⟩,?_⟩
   ·have:=G.top.names.aJ;rw[bK,eK];omega
   ·have:=G.top.names.aJ;omega
   simp only[dT,eB,fy]
   exact dj aa aa ⟨aa,aa,aa,aa,aa,trivial⟩
  rw[PS.cL Y]
  refine ai (ae 1 aa (bj (keyword F A.ok po) aa aa aa aa aa (ae 1 aa (af ?_))))
  refine aK aa (fun tf=>?_) (fun tf=>?_)
  ·have hj:q.gN=some (2,(q.keyword po).2):=by unfold PS.gN;rw[aj (by rw[Y];decide),aw tf]
   obtain⟨G,U,j0⟩:=A.top.gN hj
   obtain⟨k,rfl⟩:∃k',k=k'+1:=⟨k-1,by omega⟩
   rw[vh hj] at z
   generalize (q.keyword po).2=J at hj G U z⊢
   refine iK (bo 3 aa (mQ (si F G.top) aa aa aa aa aa aa (bo 2 aa ?_)))
   refine eL rfl (ey (rows:=l.map dQ) (ys:=[dQ (2,J.names.1)]) rfl rfl rfl (.bs (rows:=[dQ (2,J.names.1)]) rfl) (bW rfl) (by simp only[bK,cC,dk,dO];omega) (fun h=>by rw[h];rfl) (fun h=>by rw[h];rfl) ?_)
   refine bo 2 aa (dc ?_)
   refine⟨k,fZ k,l++[(2,J.names.1)],J.names.2,z,?_,?_,(A.trans G).trans G.top.names,⟨aa,aa,aa,trivial⟩,?_⟩
   ·have:=G.top.names.aJ;rw[bK,eK];omega
   ·have:=G.top.names.aJ;omega
   simp only[dT,eB,fy]
   exact dj aa aa ⟨aa,aa,aa,aa,aa,trivial⟩
  have hj:q.gN=none:=by unfold PS.gN;rw[aj (by rw[Y];decide),aj (by rw[tf];decide)]
  rw[y5 hj] at z
  rw[PS.cL tf]
  have hm:p.create=({kind:=5,table:=(p.aW [db]).name.1,jh:=I,key:=K,mh:=lf,cons:=l},q):=by unfold PS.create;rw[hI,hK,hR,←z]
  refine ai (ae 1 aa ?_)
  refine fx 56 1114 rfl rfl ⟨trivial,trivial,trivial,trivial,trivial,trivial,trivial,trivial,trivial,trivial,trivial,trivial,trivial,trivial,fun _=>⟨rfl,rfl⟩,trivial,fun h=>absurd h (by decide),fun h=>absurd h (by decide),trivial,trivial,trivial,trivial⟩ ?_
  refine fx 56 1116 rfl rfl ⟨trivial,trivial,trivial,trivial,trivial,trivial,trivial,trivial,trivial,trivial,trivial,trivial,trivial,trivial,trivial,trivial,fun _=>⟨rfl,rfl⟩,fun h=>absurd h (by decide),trivial,trivial,trivial,trivial⟩ ?_
  refine fx 56 1117 aa aa ⟨trivial,trivial,trivial,trivial,trivial,trivial,trivial,trivial,trivial,trivial,trivial,trivial,trivial,trivial,trivial,trivial,trivial,fun _=>⟨aa,aa⟩,trivial,trivial,trivial,trivial⟩ (ae 1 aa (af ?_))
  refine ax ?_
  rw[hm]
  exact⟨_,PS.bi _,aa,cI aa aa,aa,aa⟩
 rw[PS.cL ph]
 obtain⟨K,yG⟩:∃K:List (List UInt8),[]=K:=⟨_,rfl⟩
 have hK:p.ik.key=(K,p.ik):=by unfold PS.key;rw[aj (by rw[ph];decide),←yG]
 have hz:p.ik.key.2=p.ik:=by rw[hK]
 refine aU (aM ?_)
 (refine eA (PS.bi p.ik.key.2++[(3,.one 50 328 [dI 5,d0,d0,d0,dN,dN,dS (p.aW [db]).name.1,dS [],dN,d0,d0,dN,d0,dN,.ac 1114 (I.map cS).length 3,.d (fR K),.ac 1116 (([]:List Fk).map Fk.enc).length 3,.ac 1117 0 2,d0,d0,d0]),(1114,.acc 96 32 3 (I.map cS)),(1116,.acc 98 64 3 (([]:List Fk).map Fk.enc)),(1117,.acc 100 32 2 []),(2,.one 50 328 [d0,d0,d0,d0,dN,dN,dS [],dS [],dN,d0,d0,dN,d0,dN,dN,dN,dN,dN,d0,d0,d0])]) ?_ ?_; · exact dj (by rw[hz];rfl) (by rw[hz];rfl) ⟨by rw[←yG];rfl,rfl,rfl,rfl,rfl,trivial⟩)
 refine bN (d6 (fun k VE B=>∃(l:List Fk)(q:PS),o8 k l q=p.o9∧l.length≤q.aJ+1∧p.aA.length≤k+q.aJ∧bQ p q∧bw [(0,.vp 1000 0),(2,.vp 2 0),(3,.vp 3 0)] VE∧bw (PS.bi q++[(3,.one 50 328 [dI 5,d0,d0,d0,dN,dN,dS (p.aW [db]).name.1,dS [],dN,d0,d0,dN,d0,dN,.ac 1114 (I.map cS).length 3,.d (fR K),.ac 1116 (l.map Fk.enc).length 3,.ac 1117 0 2,d0,d0,d0]),(1114,.acc 96 32 3 (I.map cS)),(1116,.acc 98 64 3 (l.map Fk.enc)),(1117,.acc 100 32 2 []),(2,.one 50 328 [d0,d0,d0,d0,dN,dN,dS [],dS [],dN,d0,d0,dN,d0,dN,dN,dN,dN,dN,d0,d0,d0])]) B) ?_ (k:=p.aA.length) ⟨[],p.ik.key.2,aa,df _,jQ _ _,hp.x9,⟨aa,aa,aa,trivial⟩,dj aa aa ⟨aa,aa,aa,aa,aa,trivial⟩⟩)
 clear A
 rintro k VE B⟨l,q,z,jj,hk,A,hV,Z⟩
 refine eA (PS.bi q++[(3,.one 50 328 [dI 5,d0,d0,d0,dN,dN,dS (p.aW [db]).name.1,dS [],dN,d0,d0,dN,d0,dN,.ac 1114 (I.map cS).length 3,.d (fR K),.ac 1116 (l.map Fk.enc).length 3,.ac 1117 0 2,d0,d0,d0]),(1114,.acc 96 32 3 (I.map cS)),(1116,.acc 98 64 3 (l.map Fk.enc)),(1117,.acc 100 32 2 []),(2,.one 50 328 [d0,d0,d0,d0,dN,dN,dS [],dS [],dN,d0,d0,dN,d0,dN,dN,dN,dN,dN,d0,d0,d0])]) Z ?_
 have Z:bw (PS.bi q++[(3,.one 50 328 [dI 5,d0,d0,d0,dN,dN,dS (p.aW [db]).name.1,dS [],dN,d0,d0,dN,d0,dN,.ac 1114 (I.map cS).length 3,.d (fR K),.ac 1116 (l.map Fk.enc).length 3,.ac 1117 0 2,d0,d0,d0]),(1114,.acc 96 32 3 (I.map cS)),(1116,.acc 98 64 3 (l.map Fk.enc)),(1117,.acc 100 32 2 []),(2,.one 50 328 [d0,d0,d0,d0,dN,dN,dS [],dS [],dN,d0,d0,dN,d0,dN,dN,dN,dN,dN,d0,d0,d0])]) (PS.bi q++[(3,.one 50 328 [dI 5,d0,d0,d0,dN,dN,dS (p.aW [db]).name.1,dS [],dN,d0,d0,dN,d0,dN,.ac 1114 (I.map cS).length 3,.d (fR K),.ac 1116 (l.map Fk.enc).length 3,.ac 1117 0 2,d0,d0,d0]),(1114,.acc 96 32 3 (I.map cS)),(1116,.acc 98 64 3 (l.map Fk.enc)),(1117,.acc 100 32 2 []),(2,.one 50 328 [d0,d0,d0,d0,dN,dN,dS [],dS [],dN,d0,d0,dN,d0,dN,dN,dN,dN,dN,d0,d0,d0])]):=dj rfl rfl ⟨rfl,rfl,rfl,rfl,rfl,trivial⟩
 have gi:q.aA.length=p.aA.length:=by rw[A.aA]
 have fu:=A.ok.dY
 refine dx _ _ hV Z (aM (ai (ae 1 aa (bj (keyword F A.ok lS) aa aa aa aa aa (af (aK aa (fun O=>?_) (fun O=>?_)))))))
 ·have U:=nc A.ok O
  obtain⟨k,rfl⟩:∃k',k=k'+1:=⟨k-1,by omega⟩
  rw[GY O] at z
  have G:=A.top.kw lS
  have j0:=U.1
  generalize (q.keyword lS).2=J at z G j0⊢
  have j1:=G.top.names
  have j2:=G.top.tc
  have j3:=j2.top.name
  refine aU (bN (ai (ae 1 aa (bj (si F G.top) aa aa aa aa aa (ae 3 aa (af ?_))))))
  refine ai (ae 2 aa (gn 42 42 aa aa (fun _=>⟨aa,aa⟩) ?_))
  refine bj (aW F j1.ok [yR] (by decide)) rfl rfl rfl rfl rfl ?_
  refine af (ai (ae 1 aa (bj (name F j2.st) aa aa aa aa aa (ae 2 aa (af ?_)))))
  refine ai (ae 1 aa (bj (si F j3.top) aa aa aa aa aa (ae 2 aa (af ?_))))
  refine bG (ae 4 aa ?_)
  refine al (ey (rows:=l.map Fk.enc) (ys:=[J.fk.1.enc]) rfl rfl rfl (.bs (rows:=[J.fk.1.enc]) rfl) (bW rfl) (by simp only[bK,cC,dk,dO];omega) (fun h=>by rw[h];rfl) (fun h=>by rw[h];rfl) ?_)
  refine ae 2 aa (af ?_)
  refine⟨k,fZ k,l++[J.fk.1],J.fk.2,z,?_,?_,(A.trans G).trans G.top.fk,⟨aa,aa,aa,trivial⟩,?_⟩
  ·have:=G.top.fk.aJ;rw[bK,eK];omega
  ·have:=G.top.fk.aJ;omega
  simp only[dT,eB,fy]
  exact dj aa aa ⟨aa,aa,aa,aa,aa,trivial⟩
 rw[GZ O] at z
 rw[PS.cL O]
 obtain⟨lf,Bo⟩:∃lf,l=lf:=⟨_,rfl⟩
 rw[Bo] at z⊢
 clear hV Z jj hk gi Bo
 refine dM (bN ?_)
 refine d6 (fun k VE B=>∃(l:List (Int×List (List UInt8)))(q:PS),nM k l q=p.uR∧l.length≤q.aJ+1∧p.aA.length≤k+q.aJ∧bQ p q∧bw [(0,.vp 1000 0),(2,.vp 2 0),(3,.vp 3 0)] VE∧bw (PS.bi q++[(3,.one 50 328 [dI 5,d0,d0,d0,dN,dN,dS (p.aW [db]).name.1,dS [],dN,d0,d0,dN,d0,dN,.ac 1114 (I.map cS).length 3,.d (fR K),.ac 1116 (lf.map Fk.enc).length 3,.ac 1117 (l.map dQ).length 2,d0,d0,d0]),(1114,.acc 96 32 3 (I.map cS)),(1116,.acc 98 64 3 (lf.map Fk.enc)),(1117,.acc 100 32 2 (l.map dQ)),(2,.one 50 328 [d0,d0,d0,d0,dN,dN,dS [],dS [],dN,d0,d0,dN,d0,dN,dN,dN,dN,dN,d0,d0,d0])]) B) ?_ (k:=p.aA.length) ⟨[],q,by unfold PS.uR;rw[←z],df _,jQ _ _,A,⟨rfl,rfl,rfl,trivial⟩,dj rfl rfl ⟨rfl,rfl,rfl,rfl,rfl,trivial⟩⟩
 have hR:p.o9.1=lf:=by rw[←z]
 clear z A fu
 rintro k VE B⟨l,q,z,jj,hk,A,hV,Z⟩
 refine eA (PS.bi q++[(3,.one 50 328 [dI 5,d0,d0,d0,dN,dN,dS (p.aW [db]).name.1,dS [],dN,d0,d0,dN,d0,dN,.ac 1114 (I.map cS).length 3,.d (fR K),.ac 1116 (lf.map Fk.enc).length 3,.ac 1117 (l.map dQ).length 2,d0,d0,d0]),(1114,.acc 96 32 3 (I.map cS)),(1116,.acc 98 64 3 (lf.map Fk.enc)),(1117,.acc 100 32 2 (l.map dQ)),(2,.one 50 328 [d0,d0,d0,d0,dN,dN,dS [],dS [],dN,d0,d0,dN,d0,dN,dN,dN,dN,dN,d0,d0,d0])]) Z ?_
 have Z:bw (PS.bi q++[(3,.one 50 328 [dI 5,d0,d0,d0,dN,dN,dS (p.aW [db]).name.1,dS [],dN,d0,d0,dN,d0,dN,.ac 1114 (I.map cS).length 3,.d (fR K),.ac 1116 (lf.map Fk.enc).length 3,.ac 1117 (l.map dQ).length 2,d0,d0,d0]),(1114,.acc 96 32 3 (I.map cS)),(1116,.acc 98 64 3 (lf.map Fk.enc)),(1117,.acc 100 32 2 (l.map dQ)),(2,.one 50 328 [d0,d0,d0,d0,dN,dN,dS [],dS [],dN,d0,d0,dN,d0,dN,dN,dN,dN,dN,d0,d0,d0])]) (PS.bi q++[(3,.one 50 328 [dI 5,d0,d0,d0,dN,dN,dS (p.aW [db]).name.1,dS [],dN,d0,d0,dN,d0,dN,.ac 1114 (I.map cS).length 3,.d (fR K),.ac 1116 (lf.map Fk.enc).length 3,.ac 1117 (l.map dQ).length 2,d0,d0,d0]),(1114,.acc 96 32 3 (I.map cS)),(1116,.acc 98 64 3 (lf.map Fk.enc)),(1117,.acc 100 32 2 (l.map dQ)),(2,.one 50 328 [d0,d0,d0,d0,dN,dN,dS [],dS [],dN,d0,d0,dN,d0,dN,dN,dN,dN,dN,d0,d0,d0])]):=dj rfl rfl ⟨rfl,rfl,rfl,rfl,rfl,trivial⟩
 have gi:q.aA.length=p.aA.length:=by rw[A.aA]
 have fu:=A.ok.dY
 refine dx _ _ hV Z (bN (bN (ai (ae 1 aa (bj (keyword F A.ok pM) aa aa aa aa aa (ae 1 aa (af ?_)))))))
 refine aK aa (fun Y=>?_) (fun Y=>?_)
 ·have hj:q.gN=some (1,(q.keyword pM).2):=by unfold PS.gN;rw[aw Y]
  obtain⟨G,U,j0⟩:=A.top.gN hj
  obtain⟨k,rfl⟩:∃k',k=k'+1:=⟨k-1,by omega⟩
  rw[vh hj] at z
  generalize (q.keyword pM).2=J at hj G U z⊢
  refine iK (bo 3 aa (mQ (si F G.top) aa aa aa aa aa aa (bo 2 aa ?_)))
  refine eL rfl (ey (rows:=l.map dQ) (ys:=[dQ (1,J.names.1)]) rfl rfl rfl (.bs (rows:=[dQ (1,J.names.1)]) rfl) (bW rfl) (by simp only[bK,cC,dk,dO];omega) (fun h=>by rw[h];rfl) (fun h=>by rw[h];rfl) ?_)
  refine bo 2 aa (dc ?_)
  refine⟨k,fZ k,l++[(1,J.names.1)],J.names.2,z,?_,?_,(A.trans G).trans G.top.names,⟨aa,aa,aa,trivial⟩,?_⟩
  ·have:=G.top.names.aJ;rw[bK,eK];omega
  ·have:=G.top.names.aJ;omega
  simp only[dT,eB,fy]
  exact dj aa aa ⟨aa,aa,aa,aa,aa,trivial⟩
 rw[PS.cL Y]
 refine ai (ae 1 aa (bj (keyword F A.ok po) aa aa aa aa aa (ae 1 aa (af ?_))))
 refine aK aa (fun tf=>?_) (fun tf=>?_)
 ·have hj:q.gN=some (2,(q.keyword po).2):=by unfold PS.gN;rw[aj (by rw[Y];decide),aw tf]
  obtain⟨G,U,j0⟩:=A.top.gN hj
  obtain⟨k,rfl⟩:∃k',k=k'+1:=⟨k-1,by omega⟩
  rw[vh hj] at z
  generalize (q.keyword po).2=J at hj G U z⊢
  refine iK (bo 3 aa (mQ (si F G.top) aa aa aa aa aa aa (bo 2 aa ?_)))
  refine eL rfl (ey (rows:=l.map dQ) (ys:=[dQ (2,J.names.1)]) rfl rfl rfl (.bs (rows:=[dQ (2,J.names.1)]) rfl) (bW rfl) (by simp only[bK,cC,dk,dO];omega) (fun h=>by rw[h];rfl) (fun h=>by rw[h];rfl) ?_)
  refine bo 2 aa (dc ?_)
  refine⟨k,fZ k,l++[(2,J.names.1)],J.names.2,z,?_,?_,(A.trans G).trans G.top.names,⟨aa,aa,aa,trivial⟩,?_⟩
  ·have:=G.top.names.aJ;rw[bK,eK];omega
  ·have:=G.top.names.aJ;omega
  simp only[dT,eB,fy]
  exact dj aa aa ⟨aa,aa,aa,aa,aa,trivial⟩
 have hj:q.gN=none:=by unfold PS.gN;rw[aj (by rw[Y];decide),aj (by rw[tf];decide)]
 rw[y5 hj] at z
 rw[PS.cL tf]
 have hm:p.create=({kind:=5,table:=(p.aW [db]).name.1,jh:=I,key:=K,mh:=lf,cons:=l},q):=by unfold PS.create;rw[hI,hK,hR,←z]
 refine ai (ae 1 aa ?_)
 refine fx 56 1114 rfl rfl ⟨trivial,trivial,trivial,trivial,trivial,trivial,trivial,trivial,trivial,trivial,trivial,trivial,trivial,trivial,fun _=>⟨rfl,rfl⟩,trivial,fun h=>absurd h (by decide),fun h=>absurd h (by decide),trivial,trivial,trivial,trivial⟩ ?_
 refine fx 56 1116 rfl rfl ⟨trivial,trivial,trivial,trivial,trivial,trivial,trivial,trivial,trivial,trivial,trivial,trivial,trivial,trivial,trivial,trivial,fun _=>⟨rfl,rfl⟩,fun h=>absurd h (by decide),trivial,trivial,trivial,trivial⟩ ?_
 refine fx 56 1117 aa aa ⟨trivial,trivial,trivial,trivial,trivial,trivial,trivial,trivial,trivial,trivial,trivial,trivial,trivial,trivial,trivial,trivial,trivial,fun _=>⟨aa,aa⟩,trivial,trivial,trivial,trivial⟩ (ae 1 aa (af ?_))
 refine ax ?_
 rw[hm]
 exact⟨_,PS.bi _,aa,cI aa aa,aa,aa⟩
open Go
def PS.fin(q:PS):PS:=if q.err=0∧q.tok.kind≠6 then q.fail 5 else q
theorem bd.fin{q:PS}(h:bd q):bQ q q.fin:=by
 unfold PS.fin
 split
 ·exact h.fail (by decide)
 exact .refl h
def start(aA:List cM):PS:=⟨aA,0,0,0,0,[]⟩
structure rj(aA:List cM):Prop where
 ne:0<aA.length
 dY:aA.length≤2000
 last:∀(i:Nat)t,aA[i]?=some t→(t.kind=6↔i+1=aA.length)
 num:∀t,t∈aA→t.kind=3→nA t.text
 text:∀t,t∈aA→t.text.length≤200
theorem rj.top{aA:List cM}(h:rj aA):bd (start aA):=⟨⟨⟨h.ne,h.dY,h.last,df _,df _⟩,h.num,h.text⟩,rfl⟩
def jx(D:Rd)(aA:List cM):PS:=((start aA).cV D).2.fin
def lz(D:Rd)(aA:List cM):Stmt×Int×Int:=if(jx D aA).err≠0 then({},(jx D aA).pos,(jx D aA).err) else(((start aA).cV D).1,0,0)
def jD(D:Rd)(aA:List cM):PS:=((start aA).cT D false).2.fin
def lu(D:Rd)(aA:List cM):jr×Int×Int:=if(jD D aA).err≠0 then(⟨[],[]⟩,(jD D aA).pos,(jD D aA).err) else(((start aA).cT D false).1,0,0)
open Go
set_option maxRecDepth 10000
set_option maxHeartbeats 8000000 in
theorem Ru{T:bf}(F:FT T){D:Rd}(Lf:gX T D){p:PS}(hp:bd p):bX T 62 [.vp 1000 0] (PS.bi p) fun r Bn=>r=et (p.cV D).1.enc∧Bn=PS.bz (p.cV D).2:=by
 refine cr F.f62 aa (ak 1 aa (aM (bN (ai (ae 1 aa (bj (keyword F hp.ok r6) aa aa aa aa aa (ae 1 aa (af ?_))))))))
 refine aK aa (fun O=>?_) (fun O=>?_)
 ·have z:p.cV D=(p.keyword r6).2.insert D:=by unfold PS.cV;rw[aw O]
  have G:=hp.kw r6
  refine ai (ae 1 aa (bj (insertC F Lf G.top) aa aa aa aa aa (js 1000 5 aa aa (ae 1 aa (af ?_)))))
  refine ax ?_
  rw[z]
  exact⟨_,PS.bz _,aa,fC aa,aa,aa⟩
 rw[PS.cL O]
 refine ai (ae 1 aa (bj (keyword F hp.ok r7) aa aa aa aa aa (ae 1 aa (af ?_))))
 refine aK aa (fun Y=>?_) (fun Y=>?_)
 ·have z:p.cV D=(p.keyword r7).2.remove D:=by unfold PS.cV;rw[aj (by rw[O];decide),aw Y]
  have G:=hp.kw r7
  refine ai (ae 1 aa (Ib (Uh F Lf G.top) aa aa aa aa aa (ae 1 aa (af ?_))))
  refine ax ?_
  rw[z]
  exact⟨_,PS.bz _,aa,fC aa,aa,aa⟩
 rw[PS.cL Y]
 refine ai (ae 1 aa (bj (keyword F hp.ok r8) aa aa aa aa aa (ae 1 aa (af ?_))))
 refine aK aa (fun bJ=>?_) (fun bJ=>?_)
 ·have z:p.cV D=(p.keyword r8).2.update D:=by unfold PS.cV;rw[aj (by rw[O];decide),aj (by rw[Y];decide),aw bJ]
  have G:=hp.kw r8
  refine ai (ae 1 aa (Ib (Ui F Lf G.top) aa aa aa aa aa (ae 1 aa (af ?_))))
  refine ax ?_
  rw[z]
  exact⟨_,PS.bz _,aa,fC aa,aa,aa⟩
 rw[PS.cL bJ]
 refine ai (ae 1 aa (bj (keyword F hp.ok r9) aa aa aa aa aa (ae 1 aa (af ?_))))
 refine aK aa (fun A=>?_) (fun A=>?_)
 ·have z:p.cV D=(p.keyword r9).2.create:=by unfold PS.cV;rw[aj (by rw[O];decide),aj (by rw[Y];decide),aj (by rw[bJ];decide),aw A]
  have G:=hp.kw r9
  refine ai (ae 1 aa (bj (Uj F G.top) aa aa aa aa aa (js 1000 5 aa aa (ae 1 aa (af ?_)))))
  refine ax ?_
  rw[z]
  exact⟨_,PS.bz _,aa,fC aa,aa,aa⟩
 rw[PS.cL A]
 refine ai (ae 1 aa (bj (keyword F hp.ok sh) aa aa aa aa aa (ae 1 aa (af ?_))))
 refine aK aa (fun I=>?_) (fun I=>?_)
 ·have z:p.cV D=(p.keyword sh).2.alter:=by unfold PS.cV;rw[aj (by rw[O];decide),aj (by rw[Y];decide),aj (by rw[bJ];decide),aj (by rw[A];decide),aw I]
  have G:=hp.kw sh
  refine ai (ae 1 aa (bj (Vo F G.top) aa aa aa aa aa (js 1000 5 aa aa (ae 1 aa (af ?_)))))
  refine ax ?_
  rw[z]
  exact⟨_,PS.bz _,aa,fC aa,aa,aa⟩
 rw[PS.cL I]
 refine ai (ae 1 aa (bj (keyword F hp.ok sq) aa aa aa aa aa (ae 1 aa (af ?_))))
 refine aK aa (fun J=>?_) (fun J=>?_)
 ·have z:p.cV D=(p.keyword sq).2.qB D:=by unfold PS.cV;rw[aj (by rw[O];decide),aj (by rw[Y];decide),aj (by rw[bJ];decide),aj (by rw[A];decide),aj (by rw[I];decide),aw J]
  have G:=hp.kw sq
  refine ai (js 1000 5 aa aa (ae 1 aa (dV (Wq F Lf G.top) aa aa aa aa (ae 1 aa (af ?_)))))
  refine ax ?_
  rw[z]
  exact⟨_,PS.bz _,aa,fC aa,aa,aa⟩
 rw[PS.cL J]
 refine ai (ae 1 aa (bj (keyword F hp.ok sa) aa aa aa aa aa (ae 1 aa (af ?_))))
 refine aK aa (fun K=>?_) (fun K=>?_)
 ·have z:p.cV D=(({kind:=9}:Stmt),(p.keyword sa).2):=by unfold PS.cV;rw[aj (by rw[O];decide),aj (by rw[Y];decide),aj (by rw[bJ];decide),aj (by rw[A];decide),aj (by rw[I];decide),aj (by rw[J];decide),aw K]
  have G:=hp.kw sa
  refine ai (js 1000 5 aa aa (ae 2 aa (af ?_)))
  refine ax ?_
  rw[z]
  exact⟨_,PS.bz _,aa,fC aa,aa,aa⟩
 rw[PS.cL K]
 refine ai (ae 1 aa (bj (keyword F hp.ok sr) aa aa aa aa aa (ae 1 aa (af ?_))))
 refine aK aa (fun U=>?_) (fun U=>?_)
 ·have z:p.cV D=(p.keyword sr).2.hold:=by unfold PS.cV;rw[aj (by rw[O];decide),aj (by rw[Y];decide),aj (by rw[bJ];decide),aj (by rw[A];decide),aj (by rw[I];decide),aj (by rw[J];decide),aj (by rw[K];decide),aw U]
  have G:=hp.kw sr
  refine ai (ae 1 aa (bj (Ws F Lf G.top) aa aa aa aa aa (js 1000 5 aa aa (ae 1 aa (af ?_)))))
  refine ax ?_
  rw[z]
  exact⟨_,PS.bz _,aa,fC aa,aa,aa⟩
 rw[PS.cL U]
 refine ai (ae 1 aa (bj (keyword F hp.ok pA) aa aa aa aa aa (ae 1 aa (af ?_))))
 refine aK aa (fun Z=>?_) (fun Z=>?_)
 ·have z:p.cV D=({kind:=11,n:=((p.keyword pA).2.number (-1)).1},((p.keyword pA).2.number (-1)).2):=by unfold PS.cV;rw[aj (by rw[O];decide),aj (by rw[Y];decide),aj (by rw[bJ];decide),aj (by rw[A];decide),aj (by rw[I];decide),aj (by rw[J];decide),aj (by rw[K];decide),aj (by rw[U];decide),aw Z]
  have G:=hp.kw pA
  refine ai (ae 1 aa (bj (number F Lf G.st (-1)) aa aa aa aa aa (js 1000 5 aa aa (ae 2 aa (af ?_)))))
  refine ax ?_
  rw[z]
  exact⟨_,PS.bz _,aa,fC aa,aa,aa⟩
 rw[PS.cL Z]
 refine ai (ae 1 aa (bj (keyword F hp.ok pF) aa aa aa aa aa (ae 1 aa (af ?_))))
 refine aK aa (fun ve=>?_) (fun ve=>?_)
 ·have z:p.cV D=({kind:=12,n:=(((p.keyword pF).2.aW [oO]).number (-1)).1},(((p.keyword pF).2.aW [oO]).number (-1)).2):=by unfold PS.cV;rw[aj (by rw[O];decide),aj (by rw[Y];decide),aj (by rw[bJ];decide),aj (by rw[A];decide),aj (by rw[I];decide),aj (by rw[J];decide),aj (by rw[K];decide),aj (by rw[U];decide),aj (by rw[Z];decide),aw ve]
  have G:=hp.kw pF
  refine ai (ae 2 aa (gn 52 52 aa aa (fun _=>⟨aa,aa⟩) ?_))
  refine bj (aW F G.ok [oO] (by decide)) rfl rfl rfl rfl rfl ?_
  refine af (ai (ae 1 aa (bj (number F Lf (G.top.dF [oO]).st (-1)) aa aa aa aa aa (js 1000 5 aa aa (ae 2 aa (af ?_))))))
  refine ax ?_
  rw[z]
  exact⟨_,PS.bz _,aa,fC aa,aa,aa⟩
 rw[PS.cL ve]
 have z:p.cV D=p.query D:=by unfold PS.cV;rw[aj (by rw[O];decide),aj (by rw[Y];decide),aj (by rw[bJ];decide),aj (by rw[A];decide),aj (by rw[I];decide),aj (by rw[J];decide),aj (by rw[K];decide),aj (by rw[U];decide),aj (by rw[Z];decide),aj (by rw[ve];decide)]
 refine aU (ai (js 1000 5 aa aa (ae 1 aa (dV (Vn F Lf hp) aa aa aa aa (ae 1 aa (af ?_))))))
 refine ax ?_
 rw[z]
 exact⟨_,PS.bz _,aa,fC aa,aa,aa⟩
set_option maxHeartbeats 4000000 in
theorem Ta{T:bf}(F:FT T){D:Rd}(z:gX T D){p:PS}(hp:bd p):bX T 61 [.vp 1001 0,.vp 1002 0] (PS.bi p++[(1001,.one 121 8 [.vp 1000 0]),(1002,.one 50 328 [d0,d0,d0,d0,dN,dN,dS [],dS [],dN,d0,d0,dN,d0,dN,dN,dN,dN,dN,d0,d0,d0])]) fun r Bn=>r= .tuple []∧Bn=PS.bz (p.cV D).2++[(1001,.one 121 8 [.vp 1000 0]),(1002,.one 50 328 ((p.cV D).1.enc.map .d))]:=by
 refine cr F.f61 aa (bG (ae 1 aa (Ib (Ru F z hp) aa aa aa aa aa (ae 1 aa (af ?_)))))
 exact⟨_,PS.bz (p.cV D).2++[(1001,.one 121 8 [.vp 1000 0]),(1002,.one 50 328 ((p.cV D).1.enc.map .d))],aa,gh aa ⟨aa,aa,trivial⟩,aa,aa⟩
set_option maxHeartbeats 4000000 in
theorem Vp{T:bf}(F:FT T){D:Rd}(I:gX T D){p:PS}(hp:bd p):bX T 60 [.vp 1000 0,.fn 61 [.vp 1001 0,.vp 1002 0]] (PS.bi p++[(1001,.one 121 8 [.vp 1000 0]),(1002,.one 50 328 [d0,d0,d0,d0,dN,dN,dS [],dS [],dN,d0,d0,dN,d0,dN,dN,dN,dN,dN,d0,d0,d0])]) fun r Bn=>r= .tuple [dI (PS.fin (p.cV D).2).pos,dI (PS.fin (p.cV D).2).err]∧Bn=PS.bz (PS.fin (p.cV D).2)++[(1001,.one 121 8 [.vp 1000 0]),(1002,.one 50 328 ((p.cV D).1.enc.map .d))]:=by
 refine cr F.PN aa ?_
 have G:bQ p (p.cV D).2:=hp.cV D
 refine eA (PS.bi p++[(1001,.one 121 8 [.vp 1000 0]),(1002,.one 50 328 [d0,d0,d0,d0,dN,dN,dS [],dS [],dN,d0,d0,dN,d0,dN,dN,dN,dN,dN,d0,d0,d0])]) (dj aa aa ⟨aa,aa,trivial⟩) (ak 2 aa (ai (ae 1 aa (al (qJ (eG:=[.vp 1001 0,.vp 1002 0]) (bZ:=[.vp 1001 0,.vp 1002 0]) (Bi:=PS.bi p++[(1001,.one 121 8 [.vp 1000 0]),(1002,.one 50 328 [d0,d0,d0,d0,dN,dN,dS [],dS [],dN,d0,d0,dN,d0,dN,dN,dN,dN,dN,d0,d0,d0])]) [(1000,1000),(1050,1050),(1001,1001),(1002,1002)] 2000 aa aa aa aa aa aa aa aa aa (vY aa aa aa aa ⟨aa,aa,aa,aa,trivial⟩) (Ta F I hp) (fun r Bn fJ=>?_))))))
 obtain⟨rfl,rfl⟩:=fJ
 refine ez (PS.bz (p.cV D).2++[(1001,.one 121 8 [.vp 1000 0]),(1002,.one 50 328 ((p.cV D).1.enc.map .d))]) (gh aa ⟨aa,aa,trivial⟩) (af (aM (ai (ae 6 aa (da (g:=aR) aa (fun bJ=>?_) (fun bJ=>?_))))))
 ·refine au aa (bJ) (bM aa ?_)
  refine au aa (bJ) (Ec (wv F G.ok) aa aa aa aa ?_)
  refine au aa (bJ) (Cn aa aa ?_)
  refine au aa (bJ) (iq aa aa ?_)
  refine al (cU aa (bJ) aa ?_)
  refine af (aK aa (fun z=>?_) (fun z=>?_))
  ·have A:PS.fin (p.cV D).2=PS.fail (p.cV D).2 5:=by unfold PS.fin;rw[aw ⟨by simpa using bJ,by simpa using z⟩]
   refine bG (ae 1 aa (dV (su F G.ok 5) aa aa aa aa (af (eX (bo 10 aa (dc ?_))))))
   refine ax ?_
   rw[A]
   exact⟨_,PS.bz _++[(1001,.one 121 8 [.vp 1000 0]),(1002,.one 50 328 ((p.cV D).1.enc.map .d))],aa,gh aa ⟨aa,aa,trivial⟩,aa,aa⟩
  have A:PS.fin (p.cV D).2=(p.cV D).2:=by unfold PS.fin;rw[aj (fun k=>absurd k.2 (by simpa using z))]
  refine aU (eX (bo 10 aa (dc ?_)))
  refine ax ?_
  rw[A]
  exact⟨_,PS.bz _++[(1001,.one 121 8 [.vp 1000 0]),(1002,.one 50 328 ((p.cV D).1.enc.map .d))],aa,gh aa ⟨aa,aa,trivial⟩,aa,aa⟩
 have A:PS.fin (p.cV D).2=(p.cV D).2:=by unfold PS.fin;rw[aj (fun k=>absurd k.1 (by simpa using bJ))]
 refine ee aa (bJ) (ee aa (bJ) (ee aa (bJ) (ee aa (bJ) (al (cK aa (bJ) aa ?_)))))
 refine af (eJ aa aa (aU (eX (bo 10 aa (dc ?_)))))
 refine ax ?_
 rw[A]
 exact⟨_,PS.bz _++[(1001,.one 121 8 [.vp 1000 0]),(1002,.one 50 328 ((p.cV D).1.enc.map .d))],aa,gh aa ⟨aa,aa,trivial⟩,aa,aa⟩
set_option maxHeartbeats 4000000 in
theorem Tb{T:bf}(F:FT T){D:Rd}(z:gX T D){p:PS}(hp:bd p):bX T 63 [.vp 1001 0,.vp 1002 0] (PS.bz p++[(1001,.one 121 8 [.vp 1000 0]),(1002,.one 39 48 [dN,dN])]) fun r Bn=>r= .tuple []∧Bn=PS.bz (p.cT D false).2++[(1001,.one 121 8 [.vp 1000 0]),(1002,.one 39 48 ((p.cT D false).1.enc.map .d))]:=by
 refine cr F.f63 aa (bG (ae 1 aa (dV (wx F z hp false) aa aa aa aa (ae 1 aa (af ?_)))))
 exact⟨_,PS.bz (p.cT D false).2++[(1001,.one 121 8 [.vp 1000 0]),(1002,.one 39 48 ((p.cT D false).1.enc.map .d))],aa,gh aa ⟨aa,aa,trivial⟩,aa,aa⟩
set_option maxHeartbeats 4000000 in
theorem Vq{T:bf}(F:FT T){D:Rd}(I:gX T D){p:PS}(hp:bd p):bX T 60 [.vp 1000 0,.fn 63 [.vp 1001 0,.vp 1002 0]] (PS.bz p++[(1001,.one 121 8 [.vp 1000 0]),(1002,.one 39 48 [dN,dN])]) fun r Bn=>r= .tuple [dI (PS.fin (p.cT D false).2).pos,dI (PS.fin (p.cT D false).2).err]∧Bn=PS.bz (PS.fin (p.cT D false).2)++[(1001,.one 121 8 [.vp 1000 0]),(1002,.one 39 48 ((p.cT D false).1.enc.map .d))]:=by
 refine cr F.PN aa ?_
 have G:bQ p (p.cT D false).2:=hp.cT D false
 refine eA (PS.bz p++[(1001,.one 121 8 [.vp 1000 0]),(1002,.one 39 48 [dN,dN])]) (gh aa ⟨aa,aa,trivial⟩) (ak 2 aa (ai (ae 1 aa (al (qJ (eG:=[.vp 1001 0,.vp 1002 0]) (bZ:=[.vp 1001 0,.vp 1002 0]) (Bi:=PS.bz p++[(1001,.one 121 8 [.vp 1000 0]),(1002,.one 39 48 [dN,dN])]) [(1000,1000),(1001,1001),(1002,1002)] 2000 aa aa aa aa aa aa aa aa aa (Eb aa aa ⟨aa,aa,aa,aa,trivial⟩) (Tb F I hp) (fun r Bn fJ=>?_))))))
 obtain⟨rfl,rfl⟩:=fJ
 refine ez (PS.bz (p.cT D false).2++[(1001,.one 121 8 [.vp 1000 0]),(1002,.one 39 48 ((p.cT D false).1.enc.map .d))]) (gh aa ⟨aa,aa,trivial⟩) (af (aM (ai (ae 6 aa (da (g:=aR) aa (fun bJ=>?_) (fun bJ=>?_))))))
 ·refine au aa (bJ) (bM aa ?_)
  refine au aa (bJ) (Ec (wv F G.ok) aa aa aa aa ?_)
  refine au aa (bJ) (Cn aa aa ?_)
  refine au aa (bJ) (iq aa aa ?_)
  refine al (cU aa (bJ) aa ?_)
  refine af (aK aa (fun z=>?_) (fun z=>?_))
  ·have A:PS.fin (p.cT D false).2=PS.fail (p.cT D false).2 5:=by unfold PS.fin;rw[aw ⟨by simpa using bJ,by simpa using z⟩]
   refine bG (ae 1 aa (dV (su F G.ok 5) aa aa aa aa (af (eX (bo 10 aa (dc ?_))))))
   refine ax ?_
   rw[A]
   exact⟨_,PS.bz _++[(1001,.one 121 8 [.vp 1000 0]),(1002,.one 39 48 ((p.cT D false).1.enc.map .d))],aa,gh aa ⟨aa,aa,trivial⟩,aa,aa⟩
  have A:PS.fin (p.cT D false).2=(p.cT D false).2:=by unfold PS.fin;rw[aj (fun k=>absurd k.2 (by simpa using z))]
  refine aU (eX (bo 10 aa (dc ?_)))
  refine ax ?_
  rw[A]
  exact⟨_,PS.bz _++[(1001,.one 121 8 [.vp 1000 0]),(1002,.one 39 48 ((p.cT D false).1.enc.map .d))],aa,gh aa ⟨aa,aa,trivial⟩,aa,aa⟩
 have A:PS.fin (p.cT D false).2=(p.cT D false).2:=by unfold PS.fin;rw[aj (fun k=>absurd k.1 (by simpa using bJ))]
 refine ee aa (bJ) (ee aa (bJ) (ee aa (bJ) (ee aa (bJ) (al (cK aa (bJ) aa ?_)))))
 refine af (eJ aa aa (aU (eX (bo 10 aa (dc ?_)))))
 refine ax ?_
 rw[A]
 exact⟨_,PS.bz _++[(1001,.one 121 8 [.vp 1000 0]),(1002,.one 39 48 ((p.cT D false).1.enc.map .d))],aa,gh aa ⟨aa,aa,trivial⟩,aa,aa⟩
set_option maxHeartbeats 4000000 in
theorem Qz{T:bf}(F:FT T){D:Rd}(A:gX T D){aA:List cM}(G:rj aA):Sound T 29 [.d (.sl (aA.map cM.enc))] fun r=>r= .tuple [et (lz D aA).1.enc,dI (lz D aA).2.1,dI (lz D aA).2.2]:=by
 refine ep F.f29 aa (ak 3 aa (ai (ae 3 aa (mV 11 5 1150 142 88 8 aa aa aa (ae 2 aa (af ?_))))))
 refine ak 1 aa (aM (ai (ae 2 aa (al (jI (bZ:=[.vp 1000 0,.fn 61 [.vp 1001 0,.vp 1002 0]]) (Bi:=PS.bi (start aA)++[(1001,.one 121 8 [.vp 1000 0]),(1002,.one 50 328 [d0,d0,d0,d0,dN,dN,dS [],dS [],dN,d0,d0,dN,d0,dN,dN,dN,dN,dN,d0,d0,d0])]) [(1000,11),(1050,1150),(1001,5),(1002,6)] 2000 aa aa aa aa aa aa aa (vY aa aa aa aa ⟨aa,aa,aa,aa,trivial⟩) (Vp F A G.top) (fun r Bn fJ=>?_))))))
 obtain⟨rfl,rfl⟩:=fJ
 refine ez [(2,.one 50 328 [d0,d0,d0,d0,dN,dN,dS [],dS [],dN,d0,d0,dN,d0,dN,dN,dN,dN,dN,d0,d0,d0]),(6,.one 50 328 (((start aA).cV D).1.enc.map .d))] ⟨aa,aa,trivial⟩ (ae 5 aa (af ?_))
 refine ak 2 aa (aK aa (fun ew=>?_) (fun ew=>?_))
 ·have z:lz D aA=({},(jx D aA).pos,(jx D aA).err):=by unfold lz;rw[aw (by unfold jx;simpa using ew)]
  refine ak 6 aa (ax ?_)
  rw[z]
  exact⟨_,rfl,(by repeat(first|exact trivial|apply And.intro)),rfl⟩
 have z:lz D aA=(((start aA).cV D).1,0,0):=by unfold lz;rw[aj (by unfold jx;simpa using ew)]
 refine aU (ak 4 aa (ax ?_))
 rw[z]
 exact⟨_,rfl,(by repeat(first|exact trivial|apply And.intro)),rfl⟩
set_option maxHeartbeats 4000000 in
theorem Qo{T:bf}(F:FT T){D:Rd}(A:gX T D){aA:List cM}(G:rj aA):Sound T 30 [.d (.sl (aA.map cM.enc))] fun r=>r= .tuple [et (lu D aA).1.enc,dI (lu D aA).2.1,dI (lu D aA).2.2]:=by
 refine ep F.f30 aa (ak 3 aa (ai (ae 3 aa (js 11 5 aa aa (ae 2 aa (af ?_))))))
 refine ak 1 aa (aM (ai (ae 2 aa (al (jI (bZ:=[.vp 1000 0,.fn 63 [.vp 1001 0,.vp 1002 0]]) (Bi:=PS.bz (start aA)++[(1001,.one 121 8 [.vp 1000 0]),(1002,.one 39 48 [dN,dN])]) [(1000,11),(1001,5),(1002,6)] 2000 aa aa aa aa aa aa aa (Eb aa aa ⟨aa,aa,aa,aa,trivial⟩) (Vq F A G.top) (fun r Bn fJ=>?_))))))
 obtain⟨rfl,rfl⟩:=fJ
 refine ez [(2,.one 39 48 [dN,dN]),(6,.one 39 48 (((start aA).cT D false).1.enc.map .d))] ⟨aa,aa,trivial⟩ (ae 5 aa (af ?_))
 refine ak 2 aa (aK aa (fun ew=>?_) (fun ew=>?_))
 ·have z:lu D aA=(⟨[],[]⟩,(jD D aA).pos,(jD D aA).err):=by unfold lu;rw[aw (by unfold jD;simpa using ew)]
  refine ak 6 aa (ax ?_)
  rw[z]
  exact⟨_,rfl,(by repeat(first|exact trivial|apply And.intro)),rfl⟩
 have z:lu D aA=(((start aA).cT D false).1,0,0):=by unfold lu;rw[aj (by unfold jD;simpa using ew)]
 refine aU (ak 4 aa (ax ?_))
 rw[z]
 exact⟨_,rfl,(by repeat(first|exact trivial|apply And.intro)),rfl⟩
end Go.Ev.Pp
namespace Go.Ev
open Go
theorem Rv{T:bf}{f:Nat}(A:T.ft.get f=none)(h2:T.xt.get f=some 3){s:List UInt8}{u:Nat}(G:s.length≤1000)(I:Lib.parseUintB 64 s= .ok u):
  Sound T f [.d (cJ s),.d (.i .i64 10),.d (.i .i64 64)] fun r=>r= .tuple [.d (.i .u64 u),.k .gO]:=by
 intro H0 X H β l J z
 simp only[bm,aN,cJ,cO] at z
 obtain⟨_,_,rfl,rfl,_,_,rfl,rfl,_,_,rfl,rfl,rfl⟩:=z
 refine⟨1,.tuple [.int .u64 u,.gO],H,fun lf n _ h=>?_,.tuple [.d (.i .u64 u),.k .gO],[],β,.refl,J,by simp only[aN,cO,bm];exact⟨_,rfl,_,_,rfl,rfl,_,_,rfl,rfl,rfl⟩,by simp only[VV.nb,mf];exact⟨trivial,trivial,trivial⟩,rfl⟩
 obtain⟨n,rfl⟩:∃n',n=n'+1:=⟨n-1,by omega⟩
 show ob (T.ft.get f) (ob (T.xt.get f) (.err (Nat.add 10000 f)) fun c=>qy c _ H) _=_
 rw[A,h2]
 show ux [.str s.length (pack s),.int .i64 10,.int .i64 64] H=_
 simp only[ux]
 rw[aw ⟨trivial,trivial,trivial,trivial,G⟩,y9,I]
theorem Sd{T:bf}{f t:Nat}(I:T.ft.get f=none)(h2:T.xt.get f=some (4+t)){s:List UInt8}(J:s.length≤1000)(K:(∃v,Lib.parseIntB 64 s= .ok v)∨Lib.parseIntB 64 s= .range):
  Sound T f [.d (cJ s),.d (.i .i64 10),.d (.i .i64 64)] fun r=>∃n e,r= .tuple [.d (.i .i64 n),e]∧((∃m,Lib.parseIntB 64 s= .ok m∧n=m∧e= .k .gO)∨(Lib.parseIntB 64 s= .range∧e= .jq)):=by
 intro H0 X H β l A G
 simp only[bm,aN,cJ,cO] at G
 obtain⟨_,_,rfl,rfl,_,_,rfl,rfl,_,_,rfl,rfl,rfl⟩:=G
 have key:∀lf n,1≤n→T.call lf n f [.str s.length (pack s),.int .i64 10,.int .i64 64] H=sE t [.str s.length (pack s),.int .i64 10,.int .i64 64] H:=fun lf n h=>by
  obtain⟨n,rfl⟩:∃n',n=n'+1:=⟨n-1,by omega⟩
  show ob (T.ft.get f) (ob (T.xt.get f) (.err (Nat.add 10000 f)) fun c=>qy c _ H) _=_
  rw[I,h2,show 4+t=t+4 by omega]
  rfl
 have e:sE t [.str s.length (pack s),.int .i64 10,.int .i64 64] H=(match Lib.parseIntB 64 s with
  |.ok v=>.ok (.tuple [.int .i64 v,.gO]) H
  |.range=>.ok (.tuple [.int .i64 (Lib.intSat 64 s),.iface t (.map 0)]) H
  |_=>.err 93):=by
  simp only[sE]
  rw[aw ⟨trivial,trivial,trivial,trivial,J⟩,y9]
  cases Lib.parseIntB 64 s<;>rfl
 rcases K with⟨m,z⟩|z
 ·refine⟨1,.tuple [.int .i64 m,.gO],H,fun lf n _ h=>?_,.tuple [.d (.i .i64 m),.k .gO],[],β,.refl,A,by simp only[aN,cO,bm];exact⟨_,rfl,_,_,rfl,rfl,_,_,rfl,rfl,rfl⟩,by simp only[VV.nb,mf];exact⟨trivial,trivial,trivial⟩,_,_,rfl,.inl ⟨m,z,rfl,rfl⟩⟩
  rw[key lf n h,e,z]
 refine⟨1,.tuple [.int .i64 (Lib.intSat 64 s),.iface t (.map 0)],H,fun lf n _ h=>?_,.tuple [.d (.i .i64 (Lib.intSat 64 s)),.jq],[],β,.refl,A,by simp only[aN,cO,bm];exact⟨_,rfl,_,_,rfl,rfl,_,_,rfl,⟨_,_,rfl⟩,rfl⟩,by simp only[VV.nb,mf];exact⟨trivial,trivial,trivial⟩,_,_,rfl,.inr ⟨z,rfl⟩⟩
 rw[key lf n h,e,z]
section
variable{T:bf}{VE:b0}{B:br}{Q:b0→br→Prop}
theorem aS{d g:Key}{want t:Bool}{A:Option (List Nat)}{op:bE}{r:List bt}(G:aZ VE g.n=some (.d (.b t)))(I:t=!want)(h:VO T r ((d.n,.k .undef)::VE) B Q):VO T (⟨some d,some (g,want),A,op⟩::r) VE B Q:=by
 intro H0 X0 E H β z
 refine K2 (z.bool G) (by rw[I];cases want<;>decide) ?_
 exact h H0 X0 _ H β (z.set (by simp only[aN]))
theorem B4{d g:Key}{want:Bool}{A:Option (List Nat)}{op:bE}{r:List bt}(G:aZ VE g.n=some (.k .undef))(h:VO T r ((d.n,.k .undef)::VE) B Q):VO T (⟨some d,some (g,want),A,op⟩::r) VE B Q:=by
 intro H0 X0 E H β z
 obtain⟨a,I,h2⟩:=z.env g _ G
 simp only[aN] at h2
 subst h2
 obtain⟨J,K,O,b,c⟩:=h H0 X0 (E.set d .undef) H β (z.set (by simp only[aN]))
 refine⟨J,K,O,fun lf n U Y=>?_,c⟩
 show ob (E.get g) (.err 51) (fun v=>wc v (ku (some d) E H fun E H=>mJ (T.call lf n) r E H) fun b=>aH (Bool.xor b want) (ku (some d) E H fun E H=>mJ (T.call lf n) r E H) (fin (some d) E (fun E H=>mJ (T.call lf n) r E H) (op.ev (T.call lf n) E H)))=_
 rw[I,dh]
 show ku (some d) E H (fun E H=>mJ (T.call lf n) r E H)=_
 rw[vw]
 exact b lf n U Y
end
end Go.Ev
namespace Go.Ev.Pp
open Go
def PS.ea(p:PS):Nat:=if p.err=0 then 0 else p.aJ
def PS.lL(a:Bool)(p:PS):List VV:=[.d (.sl (p.aA.map cM.enc)),dI (p.aJ:Nat),dI p.err,dI (p.ea:Nat),dI (p.depth:Nat),dB a]
def PS.bq(a:Bool)(p:PS):br:=[(1000,.one 164 64 (p.lL a))]
def PS.be(a:Bool)(p:PS)(e:List aL):br:=[(1000,.one 164 64 (p.lL a)),(1050,.acc 142 88 8 (e.map aL.enc))]
section
variable{T:bf}{VE:b0}{B:br}{a a':Bool}
theorem vZ{f:Nat}{l:List aG}{bZ:List VV}{p A:PS}{R:VV}{Q:VV→br→Prop}(h:bX T f bZ (p.bq a) fun r Bn=>r=R∧Bn=A.bq a')(G:aZ B 1000=some (.one 164 64 (p.lL a)))
  (I:(kA 2000 VE&&(kB 2000 B&&clean VE (eH f4 B) f4))=true) (J:iU VE l=some (iI f4 2000 bZ)) (K:R.cu f4 2000=R) (O:Q R (A.bq a'++eH f4 B)):VI T (.call f l) VE B [1000] Q:=by
 obtain⟨U,z⟩:=iv I
 obtain⟨z,Y⟩:=iv z
 exact jI (Bi:=p.bq a) f4 2000 rfl rfl U z rfl Y J ⟨rfl,G,trivial⟩ h fun r Bn hp=>by
  obtain⟨rfl,rfl⟩:=hp
  rw[K]
  exact O
theorem bI{d:Key}{A:Option (List Nat)}{r:List bt}{f:Nat}{l:List aG}{bZ:List VV}{p z:PS}{R:VV}{Q:b0→br→Prop}(h:bX T f bZ (p.bq a) fun r Bn=>r=R∧Bn=z.bq a')(G:aZ B 1000=some (.one 164 64 (p.lL a)))
  (I:(kA 2000 VE&&(kB 2000 B&&clean VE (eH f4 B) f4))=true) (J:iU VE l=some (iI f4 2000 bZ)) (K:R.cu f4 2000=R) (O:VO T r ((d.n,R)::VE) (z.bq a'++eH f4 B) Q):VO T (⟨some d,none,A,.call f l⟩::r) VE B Q:=al (vZ h G I J K O)
theorem yw{d:Key}{m:List Nat}{fl:List FL}{r:List bt}{f:Nat}{l:List aG}{bZ:List VV}{p z:PS}{R:VV}{Q:b0→br→Prop}(h:bX T f bZ (p.bq a) fun r Bn=>r=R∧Bn=z.bq a')(hk:nG [1000] m fl=true)(A:aZ B 1000=some (.one 164 64 (p.lL a)))
  (G:(kA 2000 VE&&(kB 2000 B&&clean VE (eH f4 B) f4))=true) (I:iU VE l=some (iI f4 2000 bZ)) (J:R.cu f4 2000=R) (K:VQ T r ((d.n,R)::VE) (z.bq a'++eH f4 B) (.un::fl) Q):VQ T (⟨some d,none,some m,.call f l⟩::r) VE B fl Q:=eL hk (vZ h A G I J K)
theorem pT{f:Nat}{l:List aG}{bZ:List VV}{p A:PS}{P:VV→Prop}{Q:VV→br→Prop}(h:bX T f bZ (p.bq a) fun r Bn=>P r∧Bn=A.bq a')(G:aZ B 1000=some (.one 164 64 (p.lL a)))
  (I:(kA 2000 VE&&(kB 2000 B&&clean VE (eH f4 B) f4))=true) (J:iU VE l=some (iI f4 2000 bZ)) (K:∀r,P r→Q (r.cu f4 2000) (A.bq a'++eH f4 B)):VI T (.call f l) VE B [1000] Q:=by
 obtain⟨O,z⟩:=iv I
 obtain⟨z,U⟩:=iv z
 exact jI (Bi:=p.bq a) f4 2000 rfl rfl O z rfl U J ⟨rfl,G,trivial⟩ h fun r Bn hp=>by
  obtain⟨Y,rfl⟩:=hp
  exact K r Y
end
open Go
variable{p:PS}{a:Bool}
theorem cG{B L:br}(z:aZ B 1000=some (.one 164 64 (p.lL a)))(h2:bw L B):bw (p.bq a++L) B:=⟨z,h2⟩
theorem Se(h0:p.err=0){e:Int}(he:e≠0):(p.fail e).lL a=[.d (.sl (p.aA.map cM.enc)),dI (p.aJ:Nat),dI e,dI (p.aJ:Nat),dI (p.depth:Nat),dB a]:=by
 rw[show p.fail e={p with err:=e,pos:=p.tok.pos} from aw h0]
 show [VV.d (.sl (p.aA.map cM.enc)),dI (p.aJ:Nat),dI e,dI ((if e=0 then 0 else p.aJ:Nat):Nat),dI (p.depth:Nat),dB a]=_
 rw[aj he]
theorem tv(h0:p.err=0):p.step.lL a=[.d (.sl (p.aA.map cM.enc)),dI ((p.aJ+1:Nat):Int),dI p.err,dI (p.ea:Nat),dI (p.depth:Nat),dB a]:=by
 show [VV.d (.sl (p.aA.map cM.enc)),dI ((p.aJ+1:Nat):Int),dI p.err,dI ((if p.err=0 then 0 else p.aJ+1:Nat):Nat),dI (p.depth:Nat),dB a]=_
 unfold PS.ea
 rw[aw h0,aw h0]
theorem PS.w4{k:Int}{s:List UInt8}(h:p.next k s=true):p.err=0:=by
 unfold PS.next at h
 simp only[eZ,eV] at h
 exact h.1
theorem Tc(h0:¬p.err=0)(k:Int)(s:List UInt8):p.next k s=false:=by
 cases h:p.next k s
 ·rfl
 exact absurd (PS.w4 h) h0
theorem rP(h0:¬p.err=0)(k:Int)(s:List UInt8):p.accept k s=(false,p):=aj (by rw[Tc h0];decide)
theorem Sf(h0:¬p.err=0)(s:List UInt8):p.aW [s]=p:=by
 show p.fO s=p
 rw[PS.zz (by rw[show p.keyword s=_ from rP h0 1 s]),show p.keyword s=_ from rP h0 1 s]
 exact aj h0
theorem Jq(h0:¬p.err=0)(s:List UInt8):p.bx s=p:=by
 unfold PS.bx
 rw[show p.sign s=_ from rP h0 5 s]
 exact aj h0
structure ke(T:bf)(D:Rd):Prop where
 day:∀s:List UInt8,s.length≤200→Sound T 201 [dS s] fun r=>r= .tuple [dI (D.day s).1,dI (D.day s).2]
 il:∀s:List UInt8,s.length≤200→Sound T 198 [dS s] fun r=>r= .tuple [.agg [dI (D.il s).1.1,dI (D.il s).1.2],dI (D.il s).2]
 kD:∀s,(D.day s).1≤1000000
 int:∀(neg:Bool)s,D.int neg s=if(dW s:Int)<9223372036854775808∨(neg=true∧(dW s:Int)=9223372036854775808) then some (if neg=true then-(dW s:Int) else(dW s:Int)) else none
end Go.Ev.Pp
