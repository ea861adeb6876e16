/- Part 21 of rules for walks through the code of a program, and of such walks; what each part proves is said by its theorems. -/
import Derived.Test.YtijnechfhdlgiaaGreatDoorS20
set_option linter.unusedVariables false
set_option linter.unusedSimpArgs false
namespace Go.Ev.Pp
open Go
set_option maxRecDepth 10000
set_option maxHeartbeats 8000000 in
theorem U4{T:bd}(F:FT T){a:Bool}{p:PS}(hp:bf p):bY T 156 [.vp 1000 0] (PS.bq a (p.aU [dh])) fun r Bn=>r=ez p.create.1.enc∧Bn=PS.bq a p.create.2:=by
 refine cw F.aah aa ?_
 have hu:=(hp.dK [dh]).top
 have h1:=hu.name.trans (hu.name.top.gQ cq)
 have ou:∀p,bf p→bP p (PS.column p).2:=fun _ h=>h.column
 refine al 1 aa (al 3 aa (ai (ae 1 aa (bI (kX F hu.ok) aa aa aa aa (ae 2 aa (af ?_))))))
 refine ai (ae 1 aa (bI (oz F hu.name.ok cq) aa aa aa aa (nf 3 14 1101 96 32 3 aa aa aa (nf 3 16 1102 98 64 3 aa aa aa (nf 3 17 1103 100 32 2 aa aa aa (af (eZ (bk 3 aa (yO (Gq F h1.top) aa aa aa aa aa ?_)))))))))
 refine bk 1 aa ?_
 refine eo rfl (dZ (rows:=[]) (ys:=[cV ((p.aU [dh]).name.2.bA cq).column.1]) rfl rfl rfl (.bs (rows:=[cV ((p.aU [dh]).name.2.bA cq).column.1]) rfl) (bO rfl) (by simp only[bC,cP,dx];omega) (fun h=>rfl) (fun h=>rfl) ?_)
 refine bk 2 aa (c6 ?_)
 refine aK (bJ (dY (fun k VE B=>∃(l:List _)(q:PS),kE PS.column k l q=(jk PS.column ((p.aU [dh]).name.2.bA cq))∧l≠[]∧l.length≤q.aJ+1∧((p.aU [dh]).name.2.bA cq).aA.length≤k+q.aJ∧bP ((p.aU [dh]).name.2.bA cq) q∧br [(0,.vp 1000 0),(2,.vp 2 0),(3,.vp 3 0)] VE∧br (PS.bq a q++[(3,.one 50 328 [dI 5,d0,d0,d0,dN,dN,dS (p.aU [dh]).name.1,dS [],dN,d0,d0,dN,d0,dN,.ac 1101 (l.map cV).length 3,dN,.ac 1102 (([]:List Fk).map Fk.enc).length 3,.ac 1103 (([]:List (Int×List (List UInt8))).map dR).length 2,d0,d0,d0]),(1101,.acc 96 32 3 (l.map cV)),(1102,.acc 98 64 3 (([]:List Fk).map Fk.enc)),(1103,.acc 100 32 2 (([]:List (Int×List (List UInt8))).map dR)),(2,.one 50 328 [d0,d0,d0,d0,dN,dN,dS [],dS [],dN,d0,d0,dN,d0,dN,dN,dN,dN,dN,d0,d0,d0])]) B) ?_ (k:=((p.aU [dh]).name.2.bA cq).aA.length) ⟨[(PS.column ((p.aU [dh]).name.2.bA cq)).1],(PS.column ((p.aU [dh]).name.2.bA cq)).2,aa,pX _ _,mR (da _),j0 _ _,ou _ h1.top,⟨aa,aa,aa,trivial⟩,cI aa ⟨aa,aa,aa,aa,aa,trivial⟩⟩))
 rintro k VE B⟨l,q,Z,lK,js,hk,hq,hV,U⟩
 refine eD (PS.bq a q++[(3,.one 50 328 [dI 5,d0,d0,d0,dN,dN,dS (p.aU [dh]).name.1,dS [],dN,d0,d0,dN,d0,dN,.ac 1101 (l.map cV).length 3,dN,.ac 1102 (([]:List Fk).map Fk.enc).length 3,.ac 1103 (([]:List (Int×List (List UInt8))).map dR).length 2,d0,d0,d0]),(1101,.acc 96 32 3 (l.map cV)),(1102,.acc 98 64 3 (([]:List Fk).map Fk.enc)),(1103,.acc 100 32 2 (([]:List (Int×List (List UInt8))).map dR)),(2,.one 50 328 [d0,d0,d0,d0,dN,dN,dS [],dS [],dN,d0,d0,dN,d0,dN,dN,dN,dN,dN,d0,d0,d0])]) U ?_
 have U:br (PS.bq a q++[(3,.one 50 328 [dI 5,d0,d0,d0,dN,dN,dS (p.aU [dh]).name.1,dS [],dN,d0,d0,dN,d0,dN,.ac 1101 (l.map cV).length 3,dN,.ac 1102 (([]:List Fk).map Fk.enc).length 3,.ac 1103 (([]:List (Int×List (List UInt8))).map dR).length 2,d0,d0,d0]),(1101,.acc 96 32 3 (l.map cV)),(1102,.acc 98 64 3 (([]:List Fk).map Fk.enc)),(1103,.acc 100 32 2 (([]:List (Int×List (List UInt8))).map dR)),(2,.one 50 328 [d0,d0,d0,d0,dN,dN,dS [],dS [],dN,d0,d0,dN,d0,dN,dN,dN,dN,dN,d0,d0,d0])]) (PS.bq a q++[(3,.one 50 328 [dI 5,d0,d0,d0,dN,dN,dS (p.aU [dh]).name.1,dS [],dN,d0,d0,dN,d0,dN,.ac 1101 (l.map cV).length 3,dN,.ac 1102 (([]:List Fk).map Fk.enc).length 3,.ac 1103 (([]:List (Int×List (List UInt8))).map dR).length 2,d0,d0,d0]),(1101,.acc 96 32 3 (l.map cV)),(1102,.acc 98 64 3 (([]:List Fk).map Fk.enc)),(1103,.acc 100 32 2 (([]:List (Int×List (List UInt8))).map dR)),(2,.one 50 328 [d0,d0,d0,d0,dN,dN,dS [],dS [],dN,d0,d0,dN,d0,dN,dN,dN,dN,dN,d0,d0,d0])]):=cI rfl ⟨rfl,rfl,rfl,rfl,rfl,trivial⟩
 have gp:q.aA.length=((p.aU [dh]).name.2.bA cq).aA.length:=by rw[hq.aA]
 refine dn _ _ hV U (aK (ai (ae 1 aa (bI (mG F hq.ok cH) aa aa aa aa (af (aI aa (fun tw=>?_) (fun tw=>?_)))))))
 ·have h2:=hq.top.sign cH
  have pA:=oR hq.ok tw
  have fy:=hq.ok.d8
  obtain⟨k,rfl⟩:∃k',k=k'+1:=⟨k-1,by have:=pA.2;omega⟩
  rw[oT tw] at Z
  have h3:=h2.trans (ou _ h2.top)
  refine aQ (bJ (iw (bk 3 aa (yO (Gq F h2.top) aa aa aa aa aa (bk 1 aa ?_)))))
  refine eo rfl (dZ (rows:=l.map cV) (ys:=[cV (PS.column (q.sign cH).2).1]) rfl rfl rfl (.bs (rows:=[cV (PS.column (q.sign cH).2).1]) rfl) (bO rfl) (by simp only[bC,bZ,cP,dx];omega) (fun h=>by rw[h];rfl) (fun h=>by rw[h];rfl) ?_)
  refine bk 2 aa (c6 ?_)
  refine⟨k,gh k,l++[(PS.column (q.sign cH).2).1],(PS.column (q.sign cH).2).2,Z,mE lK _,?_,?_,hq.trans h3,?_,?_⟩
  ·have:=h3.aJ;have:=pA.1;have:=(ou _ h2.top).aJ;rw[bC,dU];show l.length+1≤(PS.column (q.sign cH).2).2.aJ+1;omega
  ·have:=(ou _ h2.top).aJ;have:=pA.1;show((p.aU [dh]).name.2.bA cq).aA.length≤k+(PS.column (q.sign cH).2).2.aJ;omega
  ·try simp only[dr,eF,fH]
   exact⟨aa,aa,aa,trivial⟩
  try simp only[dr,eF,fH]
  exact cI aa ⟨aa,aa,aa,aa,aa,trivial⟩
 rw[oU tw] at Z
 rw[PS.iA tw]
 refine dD (ai (ae 1 aa (bI (oz F hq.ok dP) aa aa aa aa ?_)))
 have je:p.s8=(l,q):=Z.symm
 have rT:q.bA dP=p.iB:=by unfold PS.iB;rw[je]
 have QF:bP p p.iB:=hp.iB
 rw[rT]
 refine af (vY (fun VE B=>∃(O:List (List UInt8))(q2:PS),p.iB.key=(O,q2)∧br [(0,.vp 1000 0),(2,.vp 2 0),(3,.vp 3 0)] VE∧br (PS.bq a q2++[(3,.one 50 328 [dI 5,d0,d0,d0,dN,dN,dS (p.aU [dh]).name.1,dS [],dN,d0,d0,dN,d0,dN,.ac 1101 (l.map cV).length 3,.d (f4 O),.ac 1102 (([]:List Fk).map Fk.enc).length 3,.ac 1103 (([]:List (Int×List (List UInt8))).map dR).length 2,d0,d0,d0]),(1101,.acc 96 32 3 (l.map cV)),(1102,.acc 98 64 3 (([]:List Fk).map Fk.enc)),(1103,.acc 100 32 2 (([]:List (Int×List (List UInt8))).map dR)),(2,.one 50 328 [d0,d0,d0,d0,dN,dN,dS [],dS [],dN,d0,d0,dN,d0,dN,dN,dN,dN,dN,d0,d0,d0])]) B) ?_ ?_)
 ·rintro VE B⟨O,q2,FB,hV,U⟩
  refine eD (PS.bq a q2++[(3,.one 50 328 [dI 5,d0,d0,d0,dN,dN,dS (p.aU [dh]).name.1,dS [],dN,d0,d0,dN,d0,dN,.ac 1101 (l.map cV).length 3,.d (f4 O),.ac 1102 (([]:List Fk).map Fk.enc).length 3,.ac 1103 (([]:List (Int×List (List UInt8))).map dR).length 2,d0,d0,d0]),(1101,.acc 96 32 3 (l.map cV)),(1102,.acc 98 64 3 (([]:List Fk).map Fk.enc)),(1103,.acc 100 32 2 (([]:List (Int×List (List UInt8))).map dR)),(2,.one 50 328 [d0,d0,d0,d0,dN,dN,dS [],dS [],dN,d0,d0,dN,d0,dN,dN,dN,dN,dN,d0,d0,d0])]) U ?_
  have U:br (PS.bq a q2++[(3,.one 50 328 [dI 5,d0,d0,d0,dN,dN,dS (p.aU [dh]).name.1,dS [],dN,d0,d0,dN,d0,dN,.ac 1101 (l.map cV).length 3,.d (f4 O),.ac 1102 (([]:List Fk).map Fk.enc).length 3,.ac 1103 (([]:List (Int×List (List UInt8))).map dR).length 2,d0,d0,d0]),(1101,.acc 96 32 3 (l.map cV)),(1102,.acc 98 64 3 (([]:List Fk).map Fk.enc)),(1103,.acc 100 32 2 (([]:List (Int×List (List UInt8))).map dR)),(2,.one 50 328 [d0,d0,d0,d0,dN,dN,dS [],dS [],dN,d0,d0,dN,d0,dN,dN,dN,dN,dN,d0,d0,d0])]) (PS.bq a q2++[(3,.one 50 328 [dI 5,d0,d0,d0,dN,dN,dS (p.aU [dh]).name.1,dS [],dN,d0,d0,dN,d0,dN,.ac 1101 (l.map cV).length 3,.d (f4 O),.ac 1102 (([]:List Fk).map Fk.enc).length 3,.ac 1103 (([]:List (Int×List (List UInt8))).map dR).length 2,d0,d0,d0]),(1101,.acc 96 32 3 (l.map cV)),(1102,.acc 98 64 3 (([]:List Fk).map Fk.enc)),(1103,.acc 100 32 2 (([]:List (Int×List (List UInt8))).map dR)),(2,.one 50 328 [d0,d0,d0,d0,dN,dN,dS [],dS [],dN,d0,d0,dN,d0,dN,dN,dN,dN,dN,d0,d0,d0])]):=cI rfl ⟨rfl,rfl,rfl,rfl,rfl,trivial⟩
  have gq2:bP p q2:=by have:=hp.yu;rw[FB] at this;exact this
  refine dn _ _ hV U (aK (bJ ?_))
  refine dY (fun k VE B=>∃(lf:List Fk)(qf:PS),po k lf qf=p.pr∧lf.length≤qf.aJ+1∧p.aA.length≤k+qf.aJ∧bP p qf∧br [(0,.vp 1000 0),(2,.vp 2 0),(3,.vp 3 0)] VE∧br (PS.bq a qf++[(3,.one 50 328 [dI 5,d0,d0,d0,dN,dN,dS (p.aU [dh]).name.1,dS [],dN,d0,d0,dN,d0,dN,.ac 1101 (l.map cV).length 3,.d (f4 O),.ac 1102 (lf.map Fk.enc).length 3,.ac 1103 (([]:List (Int×List (List UInt8))).map dR).length 2,d0,d0,d0]),(1101,.acc 96 32 3 (l.map cV)),(1102,.acc 98 64 3 (lf.map Fk.enc)),(1103,.acc 100 32 2 (([]:List (Int×List (List UInt8))).map dR)),(2,.one 50 328 [d0,d0,d0,d0,dN,dN,dS [],dS [],dN,d0,d0,dN,d0,dN,dN,dN,dN,dN,d0,d0,d0])]) B) ?_ (k:=p.aA.length) ⟨[],q2,by unfold PS.pr;rw[FB],da _,j0 _ _,gq2,⟨rfl,rfl,rfl,trivial⟩,cI rfl ⟨rfl,rfl,rfl,rfl,rfl,trivial⟩⟩
  rintro k VE B⟨lf,qf,A,js,hk,Y,hV,U⟩
  refine eD (PS.bq a qf++[(3,.one 50 328 [dI 5,d0,d0,d0,dN,dN,dS (p.aU [dh]).name.1,dS [],dN,d0,d0,dN,d0,dN,.ac 1101 (l.map cV).length 3,.d (f4 O),.ac 1102 (lf.map Fk.enc).length 3,.ac 1103 (([]:List (Int×List (List UInt8))).map dR).length 2,d0,d0,d0]),(1101,.acc 96 32 3 (l.map cV)),(1102,.acc 98 64 3 (lf.map Fk.enc)),(1103,.acc 100 32 2 (([]:List (Int×List (List UInt8))).map dR)),(2,.one 50 328 [d0,d0,d0,d0,dN,dN,dS [],dS [],dN,d0,d0,dN,d0,dN,dN,dN,dN,dN,d0,d0,d0])]) U ?_
  have U:br (PS.bq a qf++[(3,.one 50 328 [dI 5,d0,d0,d0,dN,dN,dS (p.aU [dh]).name.1,dS [],dN,d0,d0,dN,d0,dN,.ac 1101 (l.map cV).length 3,.d (f4 O),.ac 1102 (lf.map Fk.enc).length 3,.ac 1103 (([]:List (Int×List (List UInt8))).map dR).length 2,d0,d0,d0]),(1101,.acc 96 32 3 (l.map cV)),(1102,.acc 98 64 3 (lf.map Fk.enc)),(1103,.acc 100 32 2 (([]:List (Int×List (List UInt8))).map dR)),(2,.one 50 328 [d0,d0,d0,d0,dN,dN,dS [],dS [],dN,d0,d0,dN,d0,dN,dN,dN,dN,dN,d0,d0,d0])]) (PS.bq a qf++[(3,.one 50 328 [dI 5,d0,d0,d0,dN,dN,dS (p.aU [dh]).name.1,dS [],dN,d0,d0,dN,d0,dN,.ac 1101 (l.map cV).length 3,.d (f4 O),.ac 1102 (lf.map Fk.enc).length 3,.ac 1103 (([]:List (Int×List (List UInt8))).map dR).length 2,d0,d0,d0]),(1101,.acc 96 32 3 (l.map cV)),(1102,.acc 98 64 3 (lf.map Fk.enc)),(1103,.acc 100 32 2 (([]:List (Int×List (List UInt8))).map dR)),(2,.one 50 328 [d0,d0,d0,d0,dN,dN,dS [],dS [],dN,d0,d0,dN,d0,dN,dN,dN,dN,dN,d0,d0,d0])]):=cI rfl ⟨rfl,rfl,rfl,rfl,rfl,trivial⟩
  have gp:qf.aA.length=p.aA.length:=by rw[Y.aA]
  have fy:=Y.ok.d8
  have yQ:=Y.ok.lt
  refine dn _ _ hV U (aK (ai (ae 1 aa (bI (fN F Y.ok ma) aa aa aa aa (af (aI aa (fun wX=>?_) (fun wX=>?_)))))))
  ·have nc:=zq wX
   obtain⟨k,rfl⟩:∃k',k=k'+1:=⟨k-1,by omega⟩
   rw[HG wX] at A
   have I:=Y.top.kw ma
   generalize (qf.keyword ma).2=r at nc A I⊢
   have g1:=I.top.names
   have g2:=g1.top.dK [ze]
   have g3:=g2.top.name
   refine aQ (bJ (ai (ae 1 aa (bI (An F I.top) aa aa aa aa (ae 3 aa (af ?_))))))
   refine ai (ae 1 aa (bI (jb F g1.ok ze) aa aa aa aa (af (ai (ae 1 aa (bI (kX F g2.ok) aa aa aa aa (ae 2 aa (af ?_))))))))
   refine ai (ae 1 aa (bI (An F g3.top) aa aa aa aa (ae 2 aa (af ?_))))
   refine bD (ae 4 aa ?_)
   refine ak (dZ (rows:=lf.map Fk.enc) (ys:=[r.fk.1.enc]) rfl rfl rfl (.bs (rows:=[r.fk.1.enc]) rfl) (bO rfl) (by rw[bC,bZ];simp only[cP,dx];omega) (fun h=>by rw[h];rfl) (fun h=>by rw[h];rfl) ?_)
   refine ae 2 aa (af ?_)
   refine⟨k,gh k,lf++[r.fk.1],r.fk.2,A,?_,?_,Y.trans (I.trans I.top.fk),⟨aa,aa,aa,trivial⟩,?_⟩
   ·have:=I.top.fk.aJ;rw[bC,dU];omega
   ·have:=I.top.fk.aJ;omega
   simp only[dr,eF,fH];exact cI rfl ⟨rfl,rfl,rfl,rfl,rfl,trivial⟩
  rw[HH wX] at A
  rw[PS.cQ wX]
  refine dD (aK (bJ ?_))
  refine dY (fun k VE B=>∃(K:List (Int×List (List UInt8)))(G:PS),nY k K G=p.u9∧K.length≤G.aJ+1∧p.aA.length≤k+G.aJ∧bP p G∧br [(0,.vp 1000 0),(2,.vp 2 0),(3,.vp 3 0)] VE∧br (PS.bq a G++[(3,.one 50 328 [dI 5,d0,d0,d0,dN,dN,dS (p.aU [dh]).name.1,dS [],dN,d0,d0,dN,d0,dN,.ac 1101 (l.map cV).length 3,.d (f4 O),.ac 1102 (lf.map Fk.enc).length 3,.ac 1103 (K.map dR).length 2,d0,d0,d0]),(1101,.acc 96 32 3 (l.map cV)),(1102,.acc 98 64 3 (lf.map Fk.enc)),(1103,.acc 100 32 2 (K.map dR)),(2,.one 50 328 [d0,d0,d0,d0,dN,dN,dS [],dS [],dN,d0,d0,dN,d0,dN,dN,dN,dN,dN,d0,d0,d0])]) B) ?_ (k:=p.aA.length) ⟨[],qf,by unfold PS.u9;rw[←A],da _,j0 _ _,Y,⟨rfl,rfl,rfl,trivial⟩,cI rfl ⟨rfl,rfl,rfl,rfl,rfl,trivial⟩⟩
  clear js hk
  rintro k VE B⟨K,G,z,js,hk,J,hV,U⟩
  refine eD (PS.bq a G++[(3,.one 50 328 [dI 5,d0,d0,d0,dN,dN,dS (p.aU [dh]).name.1,dS [],dN,d0,d0,dN,d0,dN,.ac 1101 (l.map cV).length 3,.d (f4 O),.ac 1102 (lf.map Fk.enc).length 3,.ac 1103 (K.map dR).length 2,d0,d0,d0]),(1101,.acc 96 32 3 (l.map cV)),(1102,.acc 98 64 3 (lf.map Fk.enc)),(1103,.acc 100 32 2 (K.map dR)),(2,.one 50 328 [d0,d0,d0,d0,dN,dN,dS [],dS [],dN,d0,d0,dN,d0,dN,dN,dN,dN,dN,d0,d0,d0])]) U ?_
  have U:br (PS.bq a G++[(3,.one 50 328 [dI 5,d0,d0,d0,dN,dN,dS (p.aU [dh]).name.1,dS [],dN,d0,d0,dN,d0,dN,.ac 1101 (l.map cV).length 3,.d (f4 O),.ac 1102 (lf.map Fk.enc).length 3,.ac 1103 (K.map dR).length 2,d0,d0,d0]),(1101,.acc 96 32 3 (l.map cV)),(1102,.acc 98 64 3 (lf.map Fk.enc)),(1103,.acc 100 32 2 (K.map dR)),(2,.one 50 328 [d0,d0,d0,d0,dN,dN,dS [],dS [],dN,d0,d0,dN,d0,dN,dN,dN,dN,dN,d0,d0,d0])]) (PS.bq a G++[(3,.one 50 328 [dI 5,d0,d0,d0,dN,dN,dS (p.aU [dh]).name.1,dS [],dN,d0,d0,dN,d0,dN,.ac 1101 (l.map cV).length 3,.d (f4 O),.ac 1102 (lf.map Fk.enc).length 3,.ac 1103 (K.map dR).length 2,d0,d0,d0]),(1101,.acc 96 32 3 (l.map cV)),(1102,.acc 98 64 3 (lf.map Fk.enc)),(1103,.acc 100 32 2 (K.map dR)),(2,.one 50 328 [d0,d0,d0,d0,dN,dN,dS [],dS [],dN,d0,d0,dN,d0,dN,dN,dN,dN,dN,d0,d0,d0])]):=cI rfl ⟨rfl,rfl,rfl,rfl,rfl,trivial⟩
  have hqt4:G.aA.length=p.aA.length:=by rw[J.aA]
  have hfew4:=J.ok.d8
  have hlt4:=J.ok.lt
  refine dn _ _ hV U (aK (al 5 aa (aI aa (fun BU=>?_) (fun BU=>?_))))
  ·have F':G.err=0:=by simpa using BU
   refine aQ (bJ (al 1 aa (aK (ai (ae 1 aa (bI (fN F J.ok pV) aa aa aa aa (af (aI aa (fun zi=>?_) (fun zi=>?_)))))))))
   ·have hj:G.gR=some (1,(G.keyword pV).2):=by unfold PS.gR;rw[aw zi]
    have nc:=zq zi
    obtain⟨k,rfl⟩:∃k',k=k'+1:=⟨k-1,by omega⟩
    rw[vx hj] at z
    have I:=J.top.kw pV
    generalize (G.keyword pV).2=r at nc z I hj⊢
    refine bD (ae 1 aa (af ?_))
    refine iw (bk 4 aa (yO (An F I.top) aa aa aa aa aa (bk 2 aa ?_)))
    refine eo rfl (dZ (rows:=K.map dR) (ys:=[dR (1,r.names.1)]) rfl rfl rfl (.bs (rows:=[dR (1,r.names.1)]) rfl) (bO rfl) (by rw[bC,bZ];simp only[cP,dx];omega) (fun h=>by rw[h];rfl) (fun h=>by rw[h];rfl) ?_)
    refine bk 2 aa (c6 ?_)
    refine⟨k,gh k,K++[(1,r.names.1)],r.names.2,z,?_,?_,J.trans (I.trans I.top.names),⟨aa,aa,aa,trivial⟩,?_⟩
    ·have:=I.top.names.aJ;rw[bC,dU];omega
    ·have:=I.top.names.aJ;omega
    simp only[dr,eF,fH];exact cI rfl ⟨rfl,rfl,rfl,rfl,rfl,trivial⟩
   rw[PS.cQ zi]
   refine ai (ae 1 aa (bI (fN F J.ok pF) aa aa aa aa (af (aI aa (fun wY=>?_) (fun wY=>?_)))))
   ·have hj:G.gR=some (2,(G.keyword pF).2):=by unfold PS.gR;rw[aj (by rw[zi];decide),aw wY]
    have nc:=zq wY
    obtain⟨k,rfl⟩:∃k',k=k'+1:=⟨k-1,by omega⟩
    rw[vx hj] at z
    have I:=J.top.kw pF
    generalize (G.keyword pF).2=r at nc z I hj⊢
    refine bD (ae 1 aa (af ?_))
    refine iw (bk 4 aa (yO (An F I.top) aa aa aa aa aa (bk 2 aa ?_)))
    refine eo rfl (dZ (rows:=K.map dR) (ys:=[dR (2,r.names.1)]) rfl rfl rfl (.bs (rows:=[dR (2,r.names.1)]) rfl) (bO rfl) (by rw[bC,bZ];simp only[cP,dx];omega) (fun h=>by rw[h];rfl) (fun h=>by rw[h];rfl) ?_)
    refine bk 2 aa (c6 ?_)
    refine⟨k,gh k,K++[(2,r.names.1)],r.names.2,z,?_,?_,J.trans (I.trans I.top.names),⟨aa,aa,aa,trivial⟩,?_⟩
    ·have:=I.top.names.aJ;rw[bC,dU];omega
    ·have:=I.top.names.aJ;omega
    simp only[dr,eF,fH];exact cI rfl ⟨rfl,rfl,rfl,rfl,rfl,trivial⟩
   have hj:G.gR=none:=by unfold PS.gR;rw[aj (by rw[zi];decide),aj (by rw[wY];decide)]
   rw[zp hj] at z
   rw[PS.cQ wY]
   refine dD (ai (ae 1 aa ?_))
   refine fo 72 1101 rfl rfl ⟨trivial,trivial,trivial,trivial,trivial,trivial,trivial,trivial,trivial,trivial,trivial,trivial,trivial,trivial,fun _=>⟨rfl,rfl⟩,trivial,fun h=>absurd h (by decide),fun h=>absurd h (by decide),trivial,trivial,trivial,trivial⟩ ?_
   refine fo 72 1102 rfl rfl ⟨trivial,trivial,trivial,trivial,trivial,trivial,trivial,trivial,trivial,trivial,trivial,trivial,trivial,trivial,trivial,trivial,fun _=>⟨rfl,rfl⟩,fun h=>absurd h (by decide),trivial,trivial,trivial,trivial⟩ ?_
   refine fo 72 1103 aa aa ⟨trivial,trivial,trivial,trivial,trivial,trivial,trivial,trivial,trivial,trivial,trivial,trivial,trivial,trivial,trivial,trivial,trivial,fun _=>⟨aa,aa⟩,trivial,trivial,trivial,trivial⟩ (ae 1 aa (af ?_))
   refine ax ?_
   have hm:p.create=({kind:=5,table:=(p.aU [dh]).name.1,jq:=l,key:=O,my:=lf,cons:=K},G):=by unfold PS.create;rw[je,FB,←A,←z]
   rw[hm]
   exact⟨_,PS.bq a _,aa,⟨aa,trivial⟩,aa,aa⟩
  have F':¬G.err=0:=by simpa using BU
  have hj:G.gR=none:=by unfold PS.gR;simp only[show∀s,G.keyword s=(false,G) from fun s=>r8 F' 1 s];rfl
  rw[zp hj] at z
  refine dD (ai (ae 1 aa ?_))
  refine fo 72 1101 rfl rfl ⟨trivial,trivial,trivial,trivial,trivial,trivial,trivial,trivial,trivial,trivial,trivial,trivial,trivial,trivial,fun _=>⟨rfl,rfl⟩,trivial,fun h=>absurd h (by decide),fun h=>absurd h (by decide),trivial,trivial,trivial,trivial⟩ ?_
  refine fo 72 1102 rfl rfl ⟨trivial,trivial,trivial,trivial,trivial,trivial,trivial,trivial,trivial,trivial,trivial,trivial,trivial,trivial,trivial,trivial,fun _=>⟨rfl,rfl⟩,fun h=>absurd h (by decide),trivial,trivial,trivial,trivial⟩ ?_
  refine fo 72 1103 aa aa ⟨trivial,trivial,trivial,trivial,trivial,trivial,trivial,trivial,trivial,trivial,trivial,trivial,trivial,trivial,trivial,trivial,trivial,fun _=>⟨aa,aa⟩,trivial,trivial,trivial,trivial⟩ (ae 1 aa (af ?_))
  refine ax ?_
  have hm:p.create=({kind:=5,table:=(p.aU [dh]).name.1,jq:=l,key:=O,my:=lf,cons:=K},G):=by unfold PS.create;rw[je,FB,←A,←z]
  rw[hm]
  exact⟨_,PS.bq a _,aa,⟨aa,trivial⟩,aa,aa⟩
 refine ai (ae 1 aa (bI (fN F QF.ok rN) aa aa aa aa (af (aI aa (fun Ga=>?_) (fun Ga=>?_)))))
 ·refine bD (ae 1 aa (bI (An F (QF.top.kw rN).top) aa aa aa aa (ae 2 aa (af ?_))))
  exact⟨_,_,by unfold PS.key;rw[aw Ga],⟨rfl,rfl,rfl,trivial⟩,cI rfl ⟨rfl,rfl,rfl,rfl,rfl,trivial⟩⟩
 rw[PS.cQ Ga]
 refine aQ ?_
 exact⟨[],p.iB,by unfold PS.key;rw[aj (by rw[Ga];decide)],⟨rfl,rfl,rfl,trivial⟩,cI rfl ⟨rfl,rfl,rfl,rfl,rfl,trivial⟩⟩
open Go
set_option maxRecDepth 10000
def rG:IC→IC
 |.seq _ (.seq (.block _ x) _)=>x
 |_=>.skip
def Wh:IC→IC
 |.seq _ (.seq _ x)=>x
 |_=>.skip
def rj:IC→IC
 |.seq _ (.cond _ a _)=>a
 |_=>.skip
def fP:IC→IC
 |.seq _ (.cond _ _ b)=>b
 |_=>.skip
def kv(m:Stmt×PS):VV→bo→Prop:=fun r Bn=>∃st a',r=ez (Stmt.enc st)∧Bn=PS.bq a' m.2∧(m.2.err=0→st=m.1)
def QG(b:Nat):List (Nat×Nat):=[(1000,1000),(1001,b)]
def sgW(b:Nat):List (Nat×Nat):=[(1000,1000),(1001,b),(1050,1050)]
def JE(b:Nat):List (Nat×Nat):=[(1000,1000),(1001,b),(1050,1050),(1051,1051)]
theorem Lk{q:PS}{s:List UInt8}(h:(q.sign s).1=true):q.err=0:=by
 refine uj fun h0=>?_
 rw[T7 h0 s] at h;cases h
set_option maxHeartbeats 8000000 in
theorem U5{T:bd}(F:FT T){D:Rd}(U:kp T D){a:Bool}{p:PS}(hp:bf p){R:Ex→b0→bo→Prop}(hR:∀VE B,kr ig.res (kv (p.insert D)) .ret VE B→R .ret VE B):VC T (rj (rG ig.body)) [(0,.vp 1000 0),(2,.vp 2 0)] (PS.bq a p++[(2,.one 50 328 [d0,d0,d0,d0,dN,dN,dS [],dS [],dN,d0,d0,dN,d0,dN,dN,dN,dN,dN,d0,d0,d0])]) R:=by
 refine ai (ae 1 aa (bI (jb F hp.ok lU) aa aa aa aa (af (ai (ae 1 aa (bI (kX F (hp.dK [lU]).ok) aa aa aa aa (ae 3 aa (af ?_))))))))
 refine ai (ae 1 aa (bI (jb F hp.lg.ok lM) aa aa aa aa (af (ai (ae 1 aa (bI (oz F (hp.lg.top.dK [lM]).ok cq) aa aa aa aa (nf 3 8 1101 92 32 3 aa aa aa (af (eZ ?_)))))))))
 refine bk 3 aa (eo aa (p8 (Lj F U hp.sL.st) aa aa aa (fun r K=>?_)))
 obtain⟨v,rfl,hv⟩:=K
 refine bk 1 aa ?_
 refine eo rfl (dZ (rows:=[]) (ys:=[v.enc]) rfl rfl rfl (.bs (rows:=[v.enc]) rfl) (bO rfl) (by simp only[bC,bZ,cP,dx];omega) (fun h=>by rw[h];rfl) (fun h=>by rw[h];rfl) ?_)
 refine bk 2 aa (c6 ?_)
 refine aK (bJ ?_)
 refine dY (fun k VE B=>∃(l vs:List gZ)(q:PS),kE (fun p=>PS.literal p D) k l q=p.s7 D∧vs.length=l.length∧(q.err=0→vs=l)∧l.length≤q.aJ+1∧p.aA.length≤k+q.aJ∧bP p q∧br [(0,.vp 1000 0),(2,.vp 2 0),(3,.vp 3 0)] VE∧br (PS.bq a q++[(3,.one 50 328 [dI 2,d0,d0,d0,dN,dN,dS (p.aU [lU]).name.1,dS [],.ac 1101 (vs.map gZ.enc).length 3,d0,d0,dN,d0,dN,dN,dN,dN,dN,d0,d0,d0]),(1101,.acc 92 32 3 (vs.map gZ.enc)),(2,.one 50 328 [d0,d0,d0,d0,dN,dN,dS [],dS [],dN,d0,d0,dN,d0,dN,dN,dN,dN,dN,d0,d0,d0])]) B) ?_ (k:=p.aA.length) ⟨[(((p.lg.aU [lM]).bA cq).literal D).1],[v],(((p.lg.aU [lM]).bA cq).literal D).2,by unfold PS.s7 jk;rw[hp.sL.aA],rfl,fun h0=>by rw[hv h0],mR (da _),j0 _ _,hp.sL.trans (hp.sL.top.literal D),⟨rfl,rfl,rfl,trivial⟩,cI rfl ⟨rfl,rfl,rfl,trivial⟩⟩
 clear hv
 rintro k VE B⟨l,vs,q,z,Y,O,js,hk,G,hV,Z⟩
 refine eD (PS.bq a q++[(3,.one 50 328 [dI 2,d0,d0,d0,dN,dN,dS (p.aU [lU]).name.1,dS [],.ac 1101 (vs.map gZ.enc).length 3,d0,d0,dN,d0,dN,dN,dN,dN,dN,d0,d0,d0]),(1101,.acc 92 32 3 (vs.map gZ.enc)),(2,.one 50 328 [d0,d0,d0,d0,dN,dN,dS [],dS [],dN,d0,d0,dN,d0,dN,dN,dN,dN,dN,d0,d0,d0])]) Z ?_
 have Z:br (PS.bq a q++[(3,.one 50 328 [dI 2,d0,d0,d0,dN,dN,dS (p.aU [lU]).name.1,dS [],.ac 1101 (vs.map gZ.enc).length 3,d0,d0,dN,d0,dN,dN,dN,dN,dN,d0,d0,d0]),(1101,.acc 92 32 3 (vs.map gZ.enc)),(2,.one 50 328 [d0,d0,d0,d0,dN,dN,dS [],dS [],dN,d0,d0,dN,d0,dN,dN,dN,dN,dN,d0,d0,d0])]) (PS.bq a q++[(3,.one 50 328 [dI 2,d0,d0,d0,dN,dN,dS (p.aU [lU]).name.1,dS [],.ac 1101 (vs.map gZ.enc).length 3,d0,d0,dN,d0,dN,dN,dN,dN,dN,d0,d0,d0]),(1101,.acc 92 32 3 (vs.map gZ.enc)),(2,.one 50 328 [d0,d0,d0,d0,dN,dN,dS [],dS [],dN,d0,d0,dN,d0,dN,dN,dN,dN,dN,d0,d0,d0])]):=cI rfl ⟨rfl,rfl,rfl,trivial⟩
 have gp:q.aA.length=p.aA.length:=by rw[G.aA]
 have fy:=G.ok.d8
 have yQ:=G.ok.lt
 refine dn _ _ hV Z (aK (ai (ae 1 aa (bI (mG F G.ok cH) aa aa aa aa (af (aI aa (fun A=>?_) (fun A=>?_)))))))
 ·have F':q.err=0:=Lk A
  have h2:=G.top.sign cH
  have I:=oR G.ok A
  obtain⟨k,rfl⟩:∃k',k=k'+1:=⟨k-1,by have:=I.2;omega⟩
  rw[oT A] at z
  generalize (q.sign cH).2=q1 at h2 I z⊢
  have J:=h2.top.literal D
  have ga:=J.aJ
  have gl:=I.1
  refine aQ (bJ (iw (bk 3 aa (eo aa (p8 (Lj F U h2.top.st) aa aa aa (fun r K=>?_))))))
  obtain⟨v2,rfl,hv2⟩:=K
  refine bk 1 aa ?_
  refine eo rfl (dZ (rows:=vs.map gZ.enc) (ys:=[v2.enc]) rfl rfl rfl (.bs (rows:=[v2.enc]) rfl) (bO rfl) (by simp only[bC,bZ,cP,dx];omega) (fun h=>by rw[h];rfl) (fun h=>by rw[h];rfl) ?_)
  refine bk 2 aa (c6 ?_)
  refine⟨k,gh k,l++[(q1.literal D).1],vs++[v2],(q1.literal D).2,z,?_,?_,?_,?_,G.trans (h2.trans J),⟨aa,aa,aa,trivial⟩,?_⟩
  ·rw[bC,bC,Y];rfl
  ·intro h0;rw[hv2 h0,O F']
  ·rw[bC,dU];omega
  ·omega
  simp only[dr,eF,fH];exact cI rfl ⟨rfl,rfl,rfl,trivial⟩
 rw[oU A] at z
 rw[PS.iA A]
 have g1:=G.top.gQ dP
 have J:=g1.top.dK [ld]
 have g3:=J.top.period D
 refine dD (ai (ae 1 aa (bI (oz F G.ok dP) aa aa aa aa (af (ai (ae 1 aa (bI (jb F g1.ok ld) aa aa aa aa (af (ai ?_)))))))))
 refine ae 1 aa (ak (p8 (MJ F U J.st) aa aa aa (fun r K=>?_)))
 obtain⟨w,rfl,hw⟩:=K
 refine ae 2 aa (af ?_)
 refine ai (ae 1 aa (fo 47 1101 aa aa ⟨trivial,trivial,trivial,trivial,trivial,trivial,trivial,trivial,fun _=>⟨aa,aa⟩,trivial,trivial,trivial,trivial,trivial,trivial,trivial,trivial,trivial,trivial,trivial,trivial,trivial⟩ (ae 1 aa (af ?_))))
 refine ax ?_
 have hm:p.insert D=({kind:=2,table:=(p.aU [lU]).name.1,row:=l,valid:=(((q.bA dP).aU [ld]).period D).1},(((q.bA dP).aU [ld]).period D).2):=by unfold PS.insert PS.qd;rw[←z]
 rw[hm] at hR
 exact hR _ _ ⟨_,PS.bq a _,rfl,⟨rfl,trivial⟩,{kind:=2,table:=(p.aU [lU]).name.1,row:=vs,valid:=w},a,rfl,rfl,fun h0=>by rw[hw h0,O (g1.er (J.er (g3.er h0)))]⟩
open Go
set_option maxRecDepth 10000
def Bj(k:Int)(t:List UInt8)(v:Int×Int)(n:Nat)(w:Int)(ss:List (List DC)):Nat×BS:=(1001,.one 50 328 [dI k,d0,d0,d0,dN,dN,dS t,dS [],dN,dI v.1,dI v.2,.ac 1050 n 8,dI w,.ac 1051 ss.length 2,dN,dN,dN,dN,d0,d0,d0])
set_option maxHeartbeats 2000000 in
theorem U6{T:bd}(F:FT T){D:Rd}(K:kp T D){a:Bool}{p:PS}(hp:bf p)(k:Int)(t:List UInt8)(v:Int×Int)(w:Int)(ss:List (List DC)){e:List aN}{N:Nat}(he:EG p e N)(hN:N≤100000):bY T 154 [.vp 1000 0,.vp 1001 0] (PS.bq a p++[Bj k t v (e.map aN.enc).length w ss,(1050,.acc 142 88 8 (e.map aN.enc)),(1051,.acc 94 24 2 ss)]) fun r Bn=>∃e1 x,r= .tuple []∧Bn=PS.bq a (p.d7 D).2++[Bj k t v (e1.map aN.enc).length x ss,(1050,.acc 142 88 8 (e1.map aN.enc)),(1051,.acc 94 24 2 ss)]∧EG (p.d7 D).2 e1 (N+610)∧((p.d7 D).2.err=0→x=(p.d7 D).1):=by
 refine cw F.PL aa (eD (PS.bq a p++[(1001,.one 50 328 [dI k,d0,d0,d0,dN,dN,dS t,dS [],dN,dI v.1,dI v.2,.ac 1050 (e.map aN.enc).length 8,dI w,.ac 1051 ss.length 2,dN,dN,dN,dN,d0,d0,d0]),(1050,.acc 142 88 8 (e.map aN.enc)),(1051,.acc 94 24 2 ss)]) (cI aa ⟨aa,aa,aa,trivial⟩) (al 4 aa (ai (ae 1 aa (bI (fN F hp.ok jZ) aa aa aa aa (af (aI aa (fun z=>?_) (fun z=>?_))))))))
 ·have G:p.d7 D=(p.keyword jZ).2.expr D:=by unfold PS.d7;rw[aw z]
  have A:=hp.kw jZ
  have O:=A.top.expr D
  refine ai (ae 6 aa (jE 1001 11 aa aa (eB (PS.bq a (p.keyword jZ).2++[(1001,.one 50 328 [dI k,d0,d0,d0,dN,dN,dS t,dS [],dN,dI v.1,dI v.2,.undef,dI (-1),.ac 1051 ss.length 2,dN,dN,dN,dN,d0,d0,d0]),(1050,.acc 142 88 8 (e.map aN.enc)),(1051,.acc 94 24 2 ss)]) (cI aa ⟨aa,aa,aa,trivial⟩) (jv (ui F K A.top (he.go2 A (mz ..)) hN) aa aa aa aa (fun e1 I=>?_)))))
  have U:=I.small O.ok (by omega)
  refine ae 3 aa (af ?_)
  refine bD (ae 6 aa ?_)
  refine ak (gm rfl rfl (by simp only[bZ,bb];omega) (by simp only[bZ,bb];omega) ?_)
  obtain⟨x,J⟩:∃x:Int,(((e1.map aN.enc).length:Nat):Int) -Int.ofNat 1=x:=⟨_,rfl⟩
  rw[J]
  refine ae 3 aa (af ?_)
  rw[G]
  exact⟨_,PS.bq a _++[Bj k t v (e1.map aN.enc).length x ss,(1050,.acc 142 88 8 (e1.map aN.enc)),(1051,.acc 94 24 2 ss)],rfl,cI rfl ⟨rfl,rfl,rfl,trivial⟩,e1,x,rfl,rfl,I.dE (by omega),fun h0=>J.symm.trans (q6 A.top I h0)⟩
 have G:p.d7 D=(-1,p):=by unfold PS.d7;rw[aj (by rw[z];decide)]
 rw[PS.cQ z]
 refine aQ ?_
 rw[G]
 exact⟨_,PS.bq a _++[Bj k t v (e.map aN.enc).length (-1) ss,(1050,.acc 142 88 8 (e.map aN.enc)),(1051,.acc 94 24 2 ss)],rfl,cI rfl ⟨rfl,rfl,rfl,trivial⟩,e, -1,rfl,rfl,he.dE (by omega),fun _=>rfl⟩
open Go
set_option maxRecDepth 10000
set_option maxHeartbeats 4000000 in
theorem U7{T:bd}(F:FT T){D:Rd}(K:kp T D){a:Bool}{p:PS}(hp:bf p)(O:p.ex=[]){R:Ex→b0→bo→Prop}(U:∀VE B,kr ig.res (kv (p.remove D)) .ret VE B→R .ret VE B):VC T (rj (fP (rG ig.body))) [(0,.vp 1000 0),(2,.vp 2 0)] (PS.bq a p++[(2,.one 50 328 [d0,d0,d0,d0,dN,dN,dS [],dS [],dN,d0,d0,dN,d0,dN,dN,dN,dN,dN,d0,d0,d0])]) R:=by
 have g0:bP p (p.aU [il]).name.2:=(hp.dK [il]).trans (hp.dK [il]).top.name
 have A:=hp.nE D
 have Y:=A.top.d7 D
 have z:(((p.aU [il]).name.2.aU [ld,oD,kf]).period D).2=p.nE D:=rfl
 have Z:EG (p.nE D) [] 0:=EG.go2 ⟨fun _=>O.symm,da _⟩ A (by rw[←z,show∀q:PS,(q.period D).2.ex=q.ex from fun q=>qu ..,pE,show∀q:PS,q.name.2.ex=q.ex from fun q=>qu ..,pE])
 refine ai ?_
 refine ae 1 aa ?_
 refine bI (jb F hp.ok il) aa aa aa aa ?_
 refine af ?_
 refine ai ?_
 refine ae 1 aa ?_
 refine bI (kX F (hp.dK [il]).ok) aa aa aa aa ?_
 refine ae 3 aa (af ?_)
 refine ai ?_
 refine ae 1 aa ?_
 refine sf (Bi:=PS.bq a (p.aU [il]).name.2++[Bg 3 (p.aU [il]).name.1 (0,0)]) 1050 (QG 4) 2000 aa aa aa aa aa aa aa ⟨aa,aa,aa,aa,trivial⟩ (L9 F K g0.top 3 (p.aU [il]).name.1) (fun r Bn G=>?_)
 obtain⟨v,rfl,rfl,hv⟩:=G
 refine eB (PS.bq a (p.nE D)++[(4,.one 50 328 [dI 3,d0,d0,d0,dN,dN,dS (p.aU [il]).name.1,dS [],dN,dI v.1,dI v.2,dN,d0,dN,dN,dN,dN,dN,d0,d0,d0]),(2,.one 50 328 [d0,d0,d0,d0,dN,dN,dS [],dS [],dN,d0,d0,dN,d0,dN,dN,dN,dN,dN,d0,d0,d0])]) (cI (by rw[←z];rfl) ⟨rfl,rfl,trivial⟩) ?_
 refine nf 4 11 1050 142 88 8 aa aa aa ?_
 refine af ?_
 refine ai ?_
 refine ae 1 aa ?_
 refine sf (Bi:=PS.bq a (p.nE D)++[BT 3 (p.aU [il]).name.1 v (([]:List aN).map aN.enc).length 0 .nil,(1050,.acc 142 88 8 (([]:List aN).map aN.enc))]) 1050 (sgW 4) 2000 rfl rfl rfl rfl rfl rfl rfl ⟨rfl,rfl,rfl,rfl,rfl,rfl,trivial⟩ (Wg F K A.top 3 (p.aU [il]).name.1 v 0 .nil Z (by omega)) (fun r Bn G=>?_)
 obtain⟨e1,x,rfl,rfl,I,J⟩:=G
 refine eB (PS.bq a ((p.nE D).d7 D).2++[(4,.one 50 328 [dI 3,d0,d0,d0,dN,dN,dS (p.aU [il]).name.1,dS [],dN,dI v.1,dI v.2,.ac 1050 (e1.map aN.enc).length 8,dI x,dN,dN,dN,dN,dN,d0,d0,d0]),(1050,.acc 142 88 8 (e1.map aN.enc)),(2,.one 50 328 [d0,d0,d0,d0,dN,dN,dS [],dS [],dN,d0,d0,dN,d0,dN,dN,dN,dN,dN,d0,d0,d0])]) (cI aa ⟨aa,aa,aa,trivial⟩) ?_
 refine af ?_
 refine ai ?_
 refine ae 1 aa ?_
 refine fo 60 1050 aa aa ⟨trivial,trivial,trivial,trivial,trivial,trivial,trivial,trivial,trivial,trivial,trivial,fun _=>⟨aa,aa⟩,trivial,trivial,trivial,trivial,trivial,trivial,trivial,trivial,trivial,trivial⟩ ?_
 refine ae 1 aa (af ?_)
 refine ax ?_
 exact U _ _ ⟨_,PS.bq a _,rfl,⟨rfl,trivial⟩,{kind:=3,table:=(p.aU [il]).name.1,valid:=v,wh:=x,exprs:=e1},a,rfl,rfl,fun h0=>by rw[hv (by rw[z];exact Y.er h0),J h0,I.eq h0];rfl⟩
theorem U8{T:bd}(F:FT T){a:Bool}{p:PS}(hp:bf p){R:Ex→b0→bo→Prop}(z:∀VE B,kr ig.res (kv (p.create)) .ret VE B→R .ret VE B):VC T (rj (fP (fP (fP (rG ig.body))))) [(0,.vp 1000 0),(2,.vp 2 0)] (PS.bq a p++[(2,.one 50 328 [d0,d0,d0,d0,dN,dN,dS [],dS [],dN,d0,d0,dN,d0,dN,dN,dN,dN,dN,d0,d0,d0])]) R:=by
 refine ai (ae 1 aa (bI (jb F hp.ok dh) aa aa aa aa (af (ai (ae 1 aa (bI (U4 F hp) aa aa aa aa (ae 1 aa (af ?_))))))))
 exact ax (z _ _ ⟨_,PS.bq a _,aa,⟨aa,trivial⟩,p.create.1,a,aa,aa,fun _=>aa⟩)
set_option maxHeartbeats 4000000 in
theorem Wi{T:bd}(F:FT T){a:Bool}{p:PS}(hp:bf p){R:Ex→b0→bo→Prop}(G:∀VE B,kr ig.res (kv (p.alter)) .ret VE B→R .ret VE B):VC T (rj (fP (fP (fP (fP (rG ig.body)))))) [(0,.vp 1000 0),(2,.vp 2 0)] (PS.bq a p++[(2,.one 50 328 [d0,d0,d0,d0,dN,dN,dS [],dS [],dN,d0,d0,dN,d0,dN,dN,dN,dN,dN,d0,d0,d0])]) R:=by
 refine ai (ae 1 aa (bI (jb F hp.ok dh) aa aa aa aa (af (ai (ae 1 aa (bI (kX F (hp.dK [dh]).ok) aa aa aa aa (ae 3 aa (af ?_))))))))
 refine aK (bJ (ai (ae 1 aa (bI (fN F hp.gu.ok n9) aa aa aa aa (ae 1 aa (af ?_))))))
 refine aI aa (fun A=>?_) (fun A=>?_)
 ·have J:=hp.gu.top.kw n9
  have I:p.alter=({kind:=6,table:=(p.aU [dh]).name.1,jq:=[(p.gu.keyword n9).2.column.1]},(p.gu.keyword n9).2.column.2):=by unfold PS.alter;rw[aw A]
  refine ai (nf 6 14 1101 96 32 3 aa aa aa (ae 2 aa (af ?_)))
  refine iw (bk 3 aa (yO (Gq F J.top) aa aa aa aa aa (bk 1 aa ?_)))
  refine eo rfl (dZ (rows:=[]) (ys:=[cV (p.gu.keyword n9).2.column.1]) rfl rfl rfl (.bs (rows:=[cV (p.gu.keyword n9).2.column.1]) rfl) (bO rfl) (by simp only[bC,bZ,cP,dx];omega) (fun h=>by rw[h];rfl) (fun h=>by rw[h];rfl) ?_)
  refine bk 2 aa (c6 ?_)
  refine ai (ae 1 aa (fo 115 1101 aa aa ⟨trivial,trivial,trivial,trivial,trivial,trivial,trivial,trivial,trivial,trivial,trivial,trivial,trivial,trivial,fun _=>⟨aa,aa⟩,trivial,trivial,trivial,trivial,trivial,trivial,trivial⟩ (ae 1 aa (af ?_))))
  refine ax ?_
  rw[I] at G
  exact G _ _ ⟨_,PS.bq a _,aa,⟨aa,trivial⟩,{kind:=6,table:=(p.aU [dh]).name.1,jq:=[(p.gu.keyword n9).2.column.1]},a,aa,aa,fun _=>aa⟩
 rw[PS.cQ A]
 refine ai (ae 1 aa (bI (fN F hp.gu.ok p6) aa aa aa aa (ae 1 aa (af ?_))))
 refine aI aa (fun z=>?_) (fun z=>?_)
 ·have J:=hp.gu.top.kw p6
  have I:p.alter=({kind:=7,table:=(p.aU [dh]).name.1,name:=(p.gu.keyword p6).2.name.1},(p.gu.keyword p6).2.name.2):=by unfold PS.alter;rw[aj (by rw[A];decide),aw z]
  refine al 2 aa (bD (ae 1 aa (bI (kX F J.ok) aa aa aa aa (ae 2 aa (af ?_)))))
  refine al 2 aa (ax ?_)
  rw[I] at G
  exact G _ _ ⟨_,PS.bq a _,aa,⟨aa,trivial⟩,{kind:=7,table:=(p.aU [dh]).name.1,name:=(p.gu.keyword p6).2.name.1},a,aa,aa,fun _=>aa⟩
 rw[PS.cQ z]
 have I:p.alter=(({}:Stmt),p.gu.fail 5):=by unfold PS.alter;rw[aj (by rw[A];decide),aj (by rw[z];decide)]
 refine bD (ae 1 aa ?_)
 refine bI (mh F hp.gu.ok (by decide)) rfl rfl rfl rfl ?_
 refine af (al 2 aa (ax ?_))
 rw[I] at G
 exact G _ _ ⟨_,PS.bq a _,rfl,⟨rfl,trivial⟩,{table:=(p.aU [dh]).name.1},a,rfl,rfl,fun k=>absurd k (MQ (by decide))⟩
set_option maxHeartbeats 4000000 in
theorem Xe{T:bd}(F:FT T){D:Rd}(J:kp T D){a:Bool}{p:PS}(hp:bf p)(O:a=false){R:Ex→b0→bo→Prop}(U:∀VE B,kr ig.res (kv (p.qP D)) .ret VE B→R .ret VE B):VC T (rj (fP (fP (fP (fP (fP (rG ig.body))))))) [(0,.vp 1000 0),(2,.vp 2 0)] (PS.bq a p++[(2,.one 50 328 [d0,d0,d0,d0,dN,dN,dS [],dS [],dN,d0,d0,dN,d0,dN,dN,dN,dN,dN,d0,d0,d0])]) R:=by
 subst O
 have K:=hp.cW D false
 have A:=K.top.dK [jT]
 have G:=A.top.dK [ka]
 have z:=G.top.day D
 refine ai (ae 1 aa (ak (p8 (HI F J hp) aa aa aa (fun r I=>?_))))
 obtain⟨s,rfl,Y⟩:=I
 refine ae 3 aa (af ?_)
 refine ai (ae 1 aa (bI (jb F K.ok jT) aa aa aa aa (af (ai (ae 1 aa (bI (jb F A.ok ka) aa aa aa aa (af (ai (ae 1 aa ?_)))))))))
 refine ak (p8 (PT F J G.st) aa aa aa (fun r I=>?_))
 obtain⟨v,rfl,Z⟩:=I
 refine ae 2 aa (af ?_)
 refine ai (ae 1 aa (bI (G6 F z.top) aa aa aa aa (ae 2 aa (af ?_))))
 refine al 2 aa (ax ?_)
 exact U _ _ ⟨_,PS.bq _ _,rfl,⟨rfl,trivial⟩,{kind:=8,cW:=s,day:=v,aJ:=((p.rD D).day D).2.ic.1},_,rfl,rfl,fun h0=>by rw[Y (A.er (G.er (z.er (z.top.ic.er h0)))),Z (z.top.ic.er h0)];rfl⟩
theorem U9{T:bd}(F:FT T){a:Bool}{p:PS}(hp:bf p){R:Ex→b0→bo→Prop}(z:∀VE B,kr ig.res (kv (({kind:=9},p))) .ret VE B→R .ret VE B):VC T (rj (fP (fP (fP (fP (fP (fP (rG ig.body)))))))) [(0,.vp 1000 0),(2,.vp 2 0)] (PS.bq a p++[(2,.one 50 328 [d0,d0,d0,d0,dN,dN,dS [],dS [],dN,d0,d0,dN,d0,dN,dN,dN,dN,dN,d0,d0,d0])]) R:=by
 exact al 2 aa (ax (z _ _ ⟨_,PS.bq a _,aa,⟨aa,trivial⟩,{kind:=9},a,aa,aa,fun _=>aa⟩))
set_option maxHeartbeats 4000000 in
theorem Xf{T:bd}(F:FT T){a:Bool}{p:PS}(hp:bf p){R:Ex→b0→bo→Prop}(A:∀VE B,kr ig.res (kv (p.hold)) .ret VE B→R .ret VE B):VC T (rj (fP (fP (fP (fP (fP (fP (fP (rG ig.body))))))))) [(0,.vp 1000 0),(2,.vp 2 0)] (PS.bq a p++[(2,.one 50 328 [d0,d0,d0,d0,dN,dN,dS [],dS [],dN,d0,d0,dN,d0,dN,dN,dN,dN,dN,d0,d0,d0])]) R:=by
 refine ai (ae 1 aa (bI (xz F hp.st (-1)) aa aa aa aa (ae 3 aa (af ?_))))
 refine ai (ae 1 aa (bI (jb F (hp.number (-1)).ok il) aa aa aa aa (af (ai (ae 1 aa (bI (xz F hp.mg.st (-1)) aa aa aa aa (ae 3 aa (af ?_))))))))
 refine ai (ae 1 aa (bI (jb F (hp.mg.top.number (-1)).ok Jv) aa aa aa aa (af (aK (ai (ae 1 aa (bI (fN F hp.mF.ok xP) aa aa aa aa (af (aI aa (fun z=>?_) (fun z=>?_))))))))))
 ·have G:p.p7=(1099511627776,(p.mF.keyword xP).2):=by unfold PS.p7;rw[aw z]
  refine bD (ae 3 aa (af ?_))
  refine al 2 aa (ax ?_)
  unfold PS.hold at A
  rw[G] at A
  exact A _ _ ⟨_,PS.bq a _,aa,⟨aa,trivial⟩,{kind:=10,n:=(p.number (-1)).1,wI:=((p.mg.number (-1)).1,_)},a,aa,aa,fun _=>aa⟩
 have G:p.p7=p.mF.number (p.mg.number (-1)).1:=by unfold PS.p7;rw[aj (by rw[z];decide)]
 rw[PS.cQ z]
 refine bD (ae 4 aa (bI (xz F hp.mF.st (p.mg.number (-1)).1) aa aa aa aa (ae 3 aa (af ?_))))
 refine al 2 aa (ax ?_)
 unfold PS.hold at A
 rw[G] at A
 exact A _ _ ⟨_,PS.bq a _,aa,⟨aa,trivial⟩,{kind:=10,n:=(p.number (-1)).1,wI:=((p.mg.number (-1)).1,_)},a,aa,aa,fun _=>aa⟩
theorem T8{T:bd}(F:FT T){a:Bool}{p:PS}(hp:bf p){R:Ex→b0→bo→Prop}(z:∀VE B,kr ig.res (kv (({kind:=11,n:=(p.number (-1)).1},(p.number (-1)).2))) .ret VE B→R .ret VE B):VC T (rj (fP (fP (fP (fP (fP (fP (fP (fP (rG ig.body)))))))))) [(0,.vp 1000 0),(2,.vp 2 0)] (PS.bq a p++[(2,.one 50 328 [d0,d0,d0,d0,dN,dN,dS [],dS [],dN,d0,d0,dN,d0,dN,dN,dN,dN,dN,d0,d0,d0])]) R:=by
 refine ai (ae 1 aa (bI (xz F hp.st (-1)) aa aa aa aa (ae 2 aa (af ?_))))
 exact ax (z _ _ ⟨_,PS.bq a _,aa,⟨aa,trivial⟩,{kind:=11,n:=(p.number (-1)).1},a,aa,aa,fun _=>aa⟩)
theorem U'{T:bd}(F:FT T){a:Bool}{p:PS}(hp:bf p){R:Ex→b0→bo→Prop}(z:∀VE B,kr ig.res (kv (({kind:=12,n:=((p.aU [o4]).number (-1)).1},((p.aU [o4]).number (-1)).2))) .ret VE B→R .ret VE B):VC T (rj (fP (fP (fP (fP (fP (fP (fP (fP (fP (rG ig.body))))))))))) [(0,.vp 1000 0),(2,.vp 2 0)] (PS.bq a p++[(2,.one 50 328 [d0,d0,d0,d0,dN,dN,dS [],dS [],dN,d0,d0,dN,d0,dN,dN,dN,dN,dN,d0,d0,d0])]) R:=by
 refine ai (ae 1 aa (bI (jb F hp.ok o4) aa aa aa aa (af (ai (ae 1 aa (bI (xz F (hp.dK [o4]).st (-1)) aa aa aa aa (ae 2 aa (af ?_))))))))
 exact ax (z _ _ ⟨_,PS.bq a _,aa,⟨aa,trivial⟩,{kind:=12,n:=((p.aU [o4]).number (-1)).1},a,aa,aa,fun _=>aa⟩)
open Go
set_option maxRecDepth 10000
set_option maxHeartbeats 4000000 in
theorem Va{T:bd}(F:FT T){D:Rd}(Lq:kp T D){a:Bool}{p:PS}(hp:bf p)(hx:p.ex=[]){R:Ex→b0→bo→Prop}(hR:∀VE B,kr ig.res (kv (p.update D)) .ret VE B→R .ret VE B):VC T (rj (fP (fP (rG ig.body)))) [(0,.vp 1000 0),(2,.vp 2 0)] (PS.bq a p++[(2,.one 50 328 [d0,d0,d0,d0,dN,dN,dS [],dS [],dN,d0,d0,dN,d0,dN,dN,dN,dN,dN,d0,d0,d0])]) R:=by
 have g1:=hp.gG.trans (hp.gG.top.period D)
 have Y:bP p ((p.gG.period D).2.aU [kJ]):=hp.yt D
 have hE0:EG ((p.gG.period D).2.aU [kJ]) [] 0:=EG.go2 ⟨fun _=>hx.symm,da _⟩ Y (by rw[pE,show∀q:PS,(q.period D).2.ex=q.ex from fun q=>qu ..,show p.gG=p.name.2.aU [ld,oD,kf] from rfl,pE,show∀q:PS,q.name.2.ex=q.ex from fun q=>qu ..])
 refine ai (ae 1 aa (bI (kX F hp.ok) aa aa aa aa (ae 3 aa (af ?_))))
 refine ai (ae 1 aa (sf (Bi:=PS.bq a p.name.2++[Bg 4 p.name.1 (0,0)]) 1050 (QG 5) 2000 aa aa aa aa aa aa aa ⟨aa,aa,aa,aa,trivial⟩ (L9 F Lq hp.name.top 4 p.name.1) (fun r Bn K=>?_)))
 obtain⟨v,rfl,rfl,hv⟩:=K
 refine eB (PS.bq a (p.gG.period D).2++[(5,.one 50 328 [dI 4,d0,d0,d0,dN,dN,dS p.name.1,dS [],dN,dI v.1,dI v.2,dN,d0,dN,dN,dN,dN,dN,d0,d0,d0]),(2,.one 50 328 [d0,d0,d0,d0,dN,dN,dS [],dS [],dN,d0,d0,dN,d0,dN,dN,dN,dN,dN,d0,d0,d0])]) (cI aa ⟨aa,aa,trivial⟩) (af (ai (ae 1 aa (bI (jb F g1.ok kJ) aa aa aa aa (nf 5 11 1050 142 88 8 aa aa aa (nf 5 13 1051 94 24 2 aa aa aa (af (ai (ae 1 aa ?_)))))))))
 refine sf (Bi:=PS.bq a ((p.gG.period D).2.aU [kJ])++[Bh 4 p.name.1 v (([]:List aN).map aN.enc).length (([]:List (List UInt8×Int)).map eR).length,(1050,.acc 142 88 8 (([]:List aN).map aN.enc)),(1051,.acc 94 24 2 (([]:List (List UInt8×Int)).map eR))]) 1050 (JE 5) 2000 rfl rfl rfl rfl rfl rfl rfl ⟨rfl,rfl,rfl,rfl,rfl,rfl,rfl,rfl,trivial⟩ (PU F Lq Y.top 4 p.name.1 v (ss:=[]) (da _) hE0 (by omega)) (fun r Bn K=>?_)
 obtain⟨e1,x1,rfl,rfl,I,J⟩:=K
 refine eB (PS.bq a (((p.gG.period D).2.aU [kJ]).set D).2++[(5,.one 50 328 [dI 4,d0,d0,d0,dN,dN,dS p.name.1,dS [],dN,dI v.1,dI v.2,.ac 1050 (e1.map aN.enc).length 8,d0,.ac 1051 ([x1].map eR).length 2,dN,dN,dN,dN,d0,d0,d0]),(1050,.acc 142 88 8 (e1.map aN.enc)),(1051,.acc 94 24 2 ([x1].map eR)),(2,.one 50 328 [d0,d0,d0,d0,dN,dN,dS [],dS [],dN,d0,d0,dN,d0,dN,dN,dN,dN,dN,d0,d0,d0])]) (cI aa ⟨aa,aa,aa,aa,trivial⟩) (af (aK (bJ ?_)))
 refine dY (fun k VE B=>∃(l ss:List (List UInt8×Int))(e:List aN)(q:PS),kE (fun p=>PS.set p D) k l q=p.pn D∧ss.length=l.length∧(q.err=0→ss=l)∧(q.err=0→v=(p.gG.period D).1)∧l.length≤q.aJ+1∧p.aA.length≤k+q.aJ∧bP p q∧EG q e 700∧br [(0,.vp 1000 0),(2,.vp 2 0),(5,.vp 5 0)] VE∧br (PS.bq a q++[(5,.one 50 328 [dI 4,d0,d0,d0,dN,dN,dS p.name.1,dS [],dN,dI v.1,dI v.2,.ac 1050 (e.map aN.enc).length 8,d0,.ac 1051 (ss.map eR).length 2,dN,dN,dN,dN,d0,d0,d0]),(1050,.acc 142 88 8 (e.map aN.enc)),(1051,.acc 94 24 2 (ss.map eR)),(2,.one 50 328 [d0,d0,d0,d0,dN,dN,dS [],dS [],dN,d0,d0,dN,d0,dN,dN,dN,dN,dN,d0,d0,d0])]) B) ?_ (k:=p.aA.length) ⟨[(((p.gG.period D).2.aU [kJ]).set D).1],[x1],e1,(((p.gG.period D).2.aU [kJ]).set D).2,by unfold PS.pn jk;rw[Y.aA],rfl,fun h0=>by rw[J h0],fun h0=>hv ((g1.top.dK [kJ]).er ((Y.top.set D).er h0)),mR (da _),j0 _ _,Y.trans (Y.top.set D),I.dE (by omega),⟨rfl,rfl,rfl,trivial⟩,cI rfl ⟨rfl,rfl,rfl,rfl,trivial⟩⟩
 clear J I
 rintro k VE B⟨l,ss,e,q,z,Jd,Z,QH,js,hk,G,hE,hV,hB⟩
 refine eD (PS.bq a q++[(5,.one 50 328 [dI 4,d0,d0,d0,dN,dN,dS p.name.1,dS [],dN,dI v.1,dI v.2,.ac 1050 (e.map aN.enc).length 8,d0,.ac 1051 (ss.map eR).length 2,dN,dN,dN,dN,d0,d0,d0]),(1050,.acc 142 88 8 (e.map aN.enc)),(1051,.acc 94 24 2 (ss.map eR)),(2,.one 50 328 [d0,d0,d0,d0,dN,dN,dS [],dS [],dN,d0,d0,dN,d0,dN,dN,dN,dN,dN,d0,d0,d0])]) hB ?_
 have hB:br (PS.bq a q++[(5,.one 50 328 [dI 4,d0,d0,d0,dN,dN,dS p.name.1,dS [],dN,dI v.1,dI v.2,.ac 1050 (e.map aN.enc).length 8,d0,.ac 1051 (ss.map eR).length 2,dN,dN,dN,dN,d0,d0,d0]),(1050,.acc 142 88 8 (e.map aN.enc)),(1051,.acc 94 24 2 (ss.map eR)),(2,.one 50 328 [d0,d0,d0,d0,dN,dN,dS [],dS [],dN,d0,d0,dN,d0,dN,dN,dN,dN,dN,d0,d0,d0])]) (PS.bq a q++[(5,.one 50 328 [dI 4,d0,d0,d0,dN,dN,dS p.name.1,dS [],dN,dI v.1,dI v.2,.ac 1050 (e.map aN.enc).length 8,d0,.ac 1051 (ss.map eR).length 2,dN,dN,dN,dN,d0,d0,d0]),(1050,.acc 142 88 8 (e.map aN.enc)),(1051,.acc 94 24 2 (ss.map eR)),(2,.one 50 328 [d0,d0,d0,d0,dN,dN,dS [],dS [],dN,d0,d0,dN,d0,dN,dN,dN,dN,dN,d0,d0,d0])]):=cI rfl ⟨rfl,rfl,rfl,rfl,trivial⟩
 have gp:q.aA.length=p.aA.length:=by rw[G.aA]
 have fy:=G.ok.d8
 have yQ:=G.ok.lt
 refine dn _ _ hV hB (aK (ai (ae 1 aa (bI (mG F G.ok cH) aa aa aa aa (af (aI aa (fun A=>?_) (fun A=>?_)))))))
 ·have O:q.err=0:=Lk A
  have h2:=G.top.sign cH
  have U:=oR G.ok A
  obtain⟨k,rfl⟩:∃k',k=k'+1:=⟨k-1,by have:=U.2;omega⟩
  rw[oT A] at z
  have hz:EG (q.sign cH).2 e 0:=(hE.zero G.ok O).go2 h2 (oV ..)
  generalize (q.sign cH).2=q1 at h2 U z hz⊢
  have g2:=h2.top.set D
  have ga:=g2.aJ
  have gl:=U.1
  refine aQ (bJ (bD (ae 1 aa ?_)))
  refine sf (Bi:=PS.bq a q1++[Bh 4 p.name.1 v (e.map aN.enc).length (ss.map eR).length,(1050,.acc 142 88 8 (e.map aN.enc)),(1051,.acc 94 24 2 (ss.map eR))]) 1050 (JE 5) 2000 rfl rfl rfl rfl rfl rfl rfl ⟨rfl,rfl,rfl,rfl,rfl,rfl,rfl,rfl,trivial⟩ (PU F Lq h2.top 4 p.name.1 v (ss:=ss) (by omega) hz (by omega)) (fun r Bn K=>?_)
  obtain⟨e2,x2,rfl,rfl,hE2,wP⟩:=K
  refine eB (PS.bq a (q1.set D).2++[(5,.one 50 328 [dI 4,d0,d0,d0,dN,dN,dS p.name.1,dS [],dN,dI v.1,dI v.2,.ac 1050 (e2.map aN.enc).length 8,d0,.ac 1051 ((ss++[x2]).map eR).length 2,dN,dN,dN,dN,d0,d0,d0]),(1050,.acc 142 88 8 (e2.map aN.enc)),(1051,.acc 94 24 2 ((ss++[x2]).map eR)),(2,.one 50 328 [d0,d0,d0,d0,dN,dN,dS [],dS [],dN,d0,d0,dN,d0,dN,dN,dN,dN,dN,d0,d0,d0])]) (cI aa ⟨aa,aa,aa,aa,trivial⟩) (af ?_)
  refine⟨k,gh k,l++[(q1.set D).1],ss++[x2],e2,(q1.set D).2,z,?_,?_,fun _=>QH O,?_,?_,G.trans (h2.trans g2),hE2.dE (by omega),⟨rfl,rfl,rfl,trivial⟩,?_⟩
  ·rw[bC,bC,Jd];rfl
  ·intro h0;rw[wP h0,Z O]
  ·rw[bC,dU];omega
  ·omega
  exact cI aa ⟨aa,aa,aa,aa,trivial⟩
 rw[oU A] at z
 rw[PS.iA A]
 have gw:=G.top.d7 D
 refine dD (ai (ae 1 aa ?_))
 refine sf (Bi:=PS.bq a q++[Bj 4 p.name.1 v (e.map aN.enc).length 0 (ss.map eR),(1050,.acc 142 88 8 (e.map aN.enc)),(1051,.acc 94 24 2 (ss.map eR))]) 1050 (JE 5) 2000 rfl rfl rfl rfl rfl rfl rfl ⟨rfl,rfl,rfl,rfl,rfl,rfl,rfl,rfl,trivial⟩ (U6 F Lq G.top 4 p.name.1 v 0 (ss.map eR) hE (by omega)) (fun r Bn K=>?_)
 obtain⟨e1,x,rfl,rfl,I,J⟩:=K
 refine eB (PS.bq a (q.d7 D).2++[(5,.one 50 328 [dI 4,d0,d0,d0,dN,dN,dS p.name.1,dS [],dN,dI v.1,dI v.2,.ac 1050 (e1.map aN.enc).length 8,dI x,.ac 1051 (ss.map eR).length 2,dN,dN,dN,dN,d0,d0,d0]),(1050,.acc 142 88 8 (e1.map aN.enc)),(1051,.acc 94 24 2 (ss.map eR)),(2,.one 50 328 [d0,d0,d0,d0,dN,dN,dS [],dS [],dN,d0,d0,dN,d0,dN,dN,dN,dN,dN,d0,d0,d0])]) (cI aa ⟨aa,aa,aa,aa,trivial⟩) (af (ai (ae 1 aa ?_)))
 refine fo 79 1050 rfl rfl ⟨trivial,trivial,trivial,trivial,trivial,trivial,trivial,trivial,trivial,trivial,trivial,fun _=>⟨rfl,rfl⟩,trivial,fun h=>absurd h (by decide),trivial,trivial,trivial,trivial,trivial,trivial,trivial,trivial⟩ ?_
 refine fo 79 1051 aa aa ⟨trivial,trivial,trivial,trivial,trivial,trivial,trivial,trivial,trivial,trivial,trivial,trivial,trivial,fun _=>⟨aa,aa⟩,trivial,trivial,trivial,trivial,trivial,trivial,trivial,trivial⟩ (ae 1 aa (af ?_))
 refine ax ?_
 have hm:p.update D=({kind:=4,table:=p.name.1,valid:=(p.gG.period D).1,m8:=l,wh:=(q.d7 D).1,exprs:=(q.d7 D).2.ex},(q.d7 D).2):=by unfold PS.update;rw[←z]
 rw[hm] at hR
 exact hR _ _ ⟨_,PS.bq a _,rfl,⟨rfl,trivial⟩,{kind:=4,table:=p.name.1,valid:=v,m8:=ss,wh:=x,exprs:=e1},a,rfl,rfl,fun h0=>by rw[J h0,I.eq h0,Z (gw.er h0),QH (gw.er h0)]⟩
open Go
set_option maxRecDepth 10000
def Wj:List (List UInt8):=[ox,ow,oy,ov]
def yw(i:Nat):List UInt8:=(Wj[i]?).getD []
def PS.mH(p:PS):Nat→Int×PS
 |0=>(Int.ofNat 1,p)
 |i+1=>if(p.mH i).1=1 then(if((p.mH i).2.keyword (yw i)).1=true then(Int.ofNat 2+(i:Nat),((p.mH i).2.keyword (yw i)).2) else p.mH i) else p.mH i
variable{p q:PS}
theorem zY{i:Nat}{g:Int}(h:p.mH i=(g,q))(z:g=1)(hk:(q.keyword (yw i)).1=true):p.mH (i+1)=(Int.ofNat 2+(i:Nat),(q.keyword (yw i)).2):=by
 unfold PS.mH;rw[h,aw z,aw hk]
theorem zZ{i:Nat}{g:Int}(h:p.mH i=(g,q))(z:g=1)(hk:(q.keyword (yw i)).1=false):p.mH (i+1)=(g,q):=by
 unfold PS.mH;rw[h,aw z,aj (by rw[hk];decide)]
theorem vS{i:Nat}{g:Int}(h:p.mH i=(g,q))(z:¬g=1):p.mH (i+1)=(g,q):=by
 unfold PS.mH;rw[h,aj z]
theorem Wk(p:PS):p.mH 4=p.mode:=by
 have h0:p.mH 0=(1,p):=rfl
 unfold PS.mode
 cases I:(p.keyword ox).1
 ·have G:=zZ h0 rfl I
  cases h2:(p.keyword ow).1
  ·have A:=zZ G rfl h2
   cases J:(p.keyword oy).1
   ·have z:=zZ A rfl J
    cases K:(p.keyword ov).1
    ·rw[zZ z rfl K];simp
    rw[zY z rfl K];simp;rfl
   have z:=zY A rfl J
   rw[vS z (by decide)];simp;rfl
  have A:=zY G rfl h2
  have z:=vS A (by decide)
  rw[vS z (by decide)];simp;rfl
 have G:=zY h0 rfl I
 have A:=vS G (by decide)
 have z:=vS A (by decide)
 rw[vS z (by decide)];simp;rfl
set_option maxHeartbeats 4000000 in
theorem Vb{T:bd}(F:FT T){D:Rd}(Lq:kp T D){a:Bool}{p:PS}(hp:bf p){R:Ex→b0→bo→Prop}(K:∀VE B,kr ig.res (kv (p.query D)) .ret VE B→R .ret VE B):VC T (Wh ig.body) [(0,.vp 1000 0),(2,.vp 2 0)] (PS.bq a p++[(2,.one 50 328 [d0,d0,d0,d0,dN,dN,dS [],dS [],dN,d0,d0,dN,d0,dN,dN,dN,dN,dN,d0,d0,d0])]) R:=by
 refine al 3 aa (al 3 aa (aK (al 1 aa (bJ ?_))))
 refine dY (fun k VE B=>∃(i:Nat)(g:Int)(q:PS),i≤4∧k=4-i∧p.mH i=(g,q)∧bP p q∧br [(0,.vp 1000 0),(2,.vp 2 0),(9,.vp 9 0),(10,.vp 10 0),(11,dI (i:Nat))] VE∧br (PS.bq a q++[(9,.one 50 328 [dI 1,dI g,dI (-1),d0,dN,dN,dS [],dS [],dN,d0,d0,dN,d0,dN,dN,dN,dN,dN,d0,d0,d0]),(10,.one 200 64 [VV.d (cB ox),dS ow,dS oy,dS ov]),(2,.one 50 328 [d0,d0,d0,d0,dN,dN,dS [],dS [],dN,d0,d0,dN,d0,dN,dN,dN,dN,dN,d0,d0,d0])]) B) ?_ (k:=4) ⟨0,Int.ofNat 1,p,by decide,rfl,rfl,.refl hp,⟨rfl,rfl,rfl,rfl,rfl,trivial⟩,cI rfl ⟨rfl,rfl,rfl,trivial⟩⟩
 rintro k VE B⟨i,g,q,hi,rfl,U,O,hV,hB⟩
 refine eD (PS.bq a q++[(9,.one 50 328 [dI 1,dI g,dI (-1),d0,dN,dN,dS [],dS [],dN,d0,d0,dN,d0,dN,dN,dN,dN,dN,d0,d0,d0]),(10,.one 200 64 [VV.d (cB ox),dS ow,dS oy,dS ov]),(2,.one 50 328 [d0,d0,d0,d0,dN,dN,dS [],dS [],dN,d0,d0,dN,d0,dN,dN,dN,dN,dN,d0,d0,d0])]) hB ?_
 have hB:br (PS.bq a q++[(9,.one 50 328 [dI 1,dI g,dI (-1),d0,dN,dN,dS [],dS [],dN,d0,d0,dN,d0,dN,dN,dN,dN,dN,d0,d0,d0]),(10,.one 200 64 [VV.d (cB ox),dS ow,dS oy,dS ov]),(2,.one 50 328 [d0,d0,d0,d0,dN,dN,dS [],dS [],dN,d0,d0,dN,d0,dN,dN,dN,dN,dN,d0,d0,d0])]) (PS.bq a q++[(9,.one 50 328 [dI 1,dI g,dI (-1),d0,dN,dN,dS [],dS [],dN,d0,d0,dN,d0,dN,dN,dN,dN,dN,d0,d0,d0]),(10,.one 200 64 [VV.d (cB ox),dS ow,dS oy,dS ov]),(2,.one 50 328 [d0,d0,d0,d0,dN,dN,dS [],dS [],dN,d0,d0,dN,d0,dN,dN,dN,dN,dN,d0,d0,d0])]):=cI rfl ⟨rfl,rfl,rfl,trivial⟩
 refine dn _ _ hV hB (aK (al 2 aa (aI aa (fun I=>?_) (fun I=>?_))))
 ·have hi4:i<4:=by simp at I;omega
  obtain⟨s,Y,hk⟩:∃s,yw i=s∧[VV.d (cB ox),.d (cB ow),.d (cB oy),.d (cB ov)][0+i*1]?=some (.d (cB s)):=by
   rcases(by omega:i=0∨i=1∨i=2∨i=3) with rfl|rfl|rfl|rfl<;>exact⟨_,rfl,rfl⟩
  refine aQ (aK (bJ (ai (ae 4 aa (dc (g:=rz) aa (fun z=>?_) (fun z=>?_))))))
  ·have hg:g=1:=by simpa using z
   refine ao aa (z) (bN aa ?_)
   refine ao aa (z) (bN aa ?_)
   refine ao aa (z) (md aa aa hi4 ?_)
   refine ao aa (z) (df aa aa hk ?_)
   refine ao aa (z) (wt (fN F O.ok s) aa aa aa aa ?_)
   refine ak (cT aa (z) aa ?_)
   refine af (aI aa (fun A=>?_) (fun A=>?_))
   ·have Z:=zY U hg (by rw[Y];exact A)
    rw[Y] at Z
    have J:=O.trans (O.top.kw s)
    refine bD (ae 1 aa (ak (CV aa aa ?_)))
    rw[wrap_i64 (by simp only[bb];omega) (by simp only[bb];omega)]
    refine ae 2 aa (af ?_)
    refine bD (ae 1 aa ?_)
    refine ak (cM rfl rfl (by omega) ?_)
    refine ae 1 aa (af ?_)
    exact⟨4-(i+1),by omega,i+1,_,_,by omega,rfl,Z,J,⟨rfl,rfl,rfl,rfl,rfl,trivial⟩,cI rfl ⟨rfl,rfl,rfl,trivial⟩⟩
   have Z:=zZ U hg (by rw[Y];exact A)
   have J:=O
   rw[PS.cQ A]
   refine aQ (bD (ae 1 aa ?_))
   refine ak (cM rfl rfl (by omega) ?_)
   refine ae 1 aa (af ?_)
   exact⟨4-(i+1),by omega,i+1,_,_,by omega,rfl,Z,J,⟨rfl,rfl,rfl,rfl,rfl,trivial⟩,cI rfl ⟨rfl,rfl,rfl,trivial⟩⟩
  have hg:¬g=1:=by simpa using z
  have Z:=vS U hg
  have J:=O
  refine aO aa (z) (aO aa (z) (aO aa (z) (aO aa (z) (aO aa (z) (ak (cJ aa (z) aa ?_))))))
  refine af (eC aa aa (aQ (bD (ae 1 aa ?_))))
  refine ak (cM rfl rfl (by omega) ?_)
  refine ae 1 aa (af ?_)
  exact⟨4-(i+1),by omega,i+1,_,_,by omega,rfl,Z,J,⟨rfl,rfl,rfl,rfl,rfl,trivial⟩,cI rfl ⟨rfl,rfl,rfl,trivial⟩⟩
 have h4:i=4:=by simp at I;omega
 subst h4
 rw[Wk] at U
 have g1:=O.top.cW D true
 refine dD (al 4 aa (ai (ae 1 aa (ak (p8 (HI (a:=true) F Lq O.top) aa aa aa (fun r hr=>?_))))))
 obtain⟨s,rfl,Y⟩:=hr
 refine ae 2 aa (af ?_)
 refine aK (ai (ae 1 aa (bI (fN F g1.ok jT) aa aa aa aa (af (aI aa (fun G=>?_) (fun G=>?_))))))
 ·have hd:(q.cW D true).2.gE D=(((q.cW D true).2.keyword jT).2.aU [ka]).day D:=aw G
  have g2:=g1.top.kw jT
  have g3:=g2.top.dK [ka]
  have g4:=g3.top.day D
  have g5:=g4.top.ic
  refine ai (ae 1 aa (bI (jb F g2.ok ka) aa aa aa aa (af (bD (ae 1 aa (ak (p8 (PT F Lq g3.st) aa aa aa (fun r hr=>?_))))))))
  obtain⟨v,rfl,hv⟩:=hr
  refine ae 2 aa (af ?_)
  refine ai (ae 1 aa (bI (G6 F g4.top) aa aa aa aa (ae 2 aa (af ?_))))
  refine al 2 aa (ax ?_)
  unfold PS.query at K
  rw[U] at K
  rw[show(((g,q):Int×PS)).2=q from rfl,hd] at K
  exact K _ _ ⟨_,PS.bq _ _,rfl,⟨rfl,trivial⟩,{kind:=1,mode:=g,day:=v,aJ:=_,cW:=s},_,rfl,rfl,fun h0=>by rw[Y (g2.er (g3.er (g4.er (g5.er h0)))),hv (g5.er h0)]⟩
 have hd:(q.cW D true).2.gE D=(-1,(q.cW D true).2):=aj (by rw[G];decide)
 rw[PS.cQ G]
 have g5:=g1.top.ic
 refine aQ (ai (ae 1 aa (bI (G6 F g1.top) aa aa aa aa (ae 2 aa (af ?_)))))
 refine al 2 aa (ax ?_)
 unfold PS.query at K
 rw[U] at K
 rw[show(((g,q):Int×PS)).2=q from rfl,hd] at K
 exact K _ _ ⟨_,PS.bq _ _,rfl,⟨rfl,trivial⟩,{kind:=1,mode:=g,day:= -1,aJ:=_,cW:=s},_,rfl,rfl,fun h0=>by rw[Y (g5.er h0)]⟩
open Go
set_option maxRecDepth 10000
set_option maxHeartbeats 4000000 in
theorem Sj{T:bd}(F:FT T){D:Rd}(Lq:kp T D){p:PS}(hp:bf p)(hx:p.ex=[]):bY T 99 [.vp 1000 0] (PS.bq false p) (kv (p.cX D)):=by
 refine cw F.f99 aa ?_
 refine al 1 aa ?_
 refine aK ?_
 refine bJ ?_
 refine ai ?_
 refine ae 1 aa ?_
 refine bI (fN F hp.ok sn) aa aa aa aa ?_
 refine ae 1 aa (af ?_)
 refine aI aa (fun z=>?_) (fun z=>?_)
 ·have K:p.cX D=(p.keyword sn).2.insert D:=by unfold PS.cX;rw[aw z]
  refine dn [(0,.vp 1000 0),(2,.vp 2 0)] (PS.bq false (p.keyword sn).2++[(2,.one 50 328 [d0,d0,d0,d0,dN,dN,dS [],dS [],dN,d0,d0,dN,d0,dN,dN,dN,dN,dN,d0,d0,d0])]) ⟨aa,aa,trivial⟩ (cI aa ⟨aa,trivial⟩) ?_
  refine U5 F Lq (hp.kw sn).top ?_
  intro VE B k
  show kr ig.res (kv (p.cX D)) .ret VE B
  rw[K]
  exact k
 rw[PS.cQ z]
 refine ai ?_
 refine ae 1 aa ?_
 refine bI (fN F hp.ok so) aa aa aa aa ?_
 refine ae 1 aa (af ?_)
 refine aI aa (fun G=>?_) (fun G=>?_)
 ·have K:p.cX D=(p.keyword so).2.remove D:=by unfold PS.cX;rw[aj (by rw[z];decide),aw G]
  refine dn [(0,.vp 1000 0),(2,.vp 2 0)] (PS.bq false (p.keyword so).2++[(2,.one 50 328 [d0,d0,d0,d0,dN,dN,dS [],dS [],dN,d0,d0,dN,d0,dN,dN,dN,dN,dN,d0,d0,d0])]) ⟨aa,aa,trivial⟩ (cI aa ⟨aa,trivial⟩) ?_
  refine U7 F Lq (hp.kw so).top ((mz ..).trans hx) ?_
  intro VE B k
  show kr ig.res (kv (p.cX D)) .ret VE B
  rw[K]
  exact k
 rw[PS.cQ G]
 refine ai ?_
 refine ae 1 aa ?_
 refine bI (fN F hp.ok sq) aa aa aa aa ?_
 refine ae 1 aa (af ?_)
 refine aI aa (fun I=>?_) (fun I=>?_)
 ·have K:p.cX D=(p.keyword sq).2.update D:=by unfold PS.cX;rw[aj (by rw[z];decide),aj (by rw[G];decide),aw I]
  refine dn [(0,.vp 1000 0),(2,.vp 2 0)] (PS.bq false (p.keyword sq).2++[(2,.one 50 328 [d0,d0,d0,d0,dN,dN,dS [],dS [],dN,d0,d0,dN,d0,dN,dN,dN,dN,dN,d0,d0,d0])]) ⟨aa,aa,trivial⟩ (cI aa ⟨aa,trivial⟩) ?_
  refine Va F Lq (hp.kw sq).top ((mz ..).trans hx) ?_
  intro VE B k
  show kr ig.res (kv (p.cX D)) .ret VE B
  rw[K]
  exact k
 rw[PS.cQ I]
 refine ai ?_
 refine ae 1 aa ?_
 refine bI (fN F hp.ok sr) aa aa aa aa ?_
 refine ae 1 aa (af ?_)
 refine aI aa (fun O=>?_) (fun O=>?_)
 ·have K:p.cX D=(p.keyword sr).2.create:=by unfold PS.cX;rw[aj (by rw[z];decide),aj (by rw[G];decide),aj (by rw[I];decide),aw O]
  refine dn [(0,.vp 1000 0),(2,.vp 2 0)] (PS.bq false (p.keyword sr).2++[(2,.one 50 328 [d0,d0,d0,d0,dN,dN,dS [],dS [],dN,d0,d0,dN,d0,dN,dN,dN,dN,dN,d0,d0,d0])]) ⟨aa,aa,trivial⟩ (cI aa ⟨aa,trivial⟩) ?_
  refine U8 F (hp.kw sr).top ?_
  intro VE B k
  show kr ig.res (kv (p.cX D)) .ret VE B
  rw[K]
  exact k
 rw[PS.cQ O]
 refine ai ?_
 refine ae 1 aa ?_
 refine bI (fN F hp.ok sE) aa aa aa aa ?_
 refine ae 1 aa (af ?_)
 refine aI aa (fun Y=>?_) (fun Y=>?_)
 ·have K:p.cX D=(p.keyword sE).2.alter:=by unfold PS.cX;rw[aj (by rw[z];decide),aj (by rw[G];decide),aj (by rw[I];decide),aj (by rw[O];decide),aw Y]
  refine dn [(0,.vp 1000 0),(2,.vp 2 0)] (PS.bq false (p.keyword sE).2++[(2,.one 50 328 [d0,d0,d0,d0,dN,dN,dS [],dS [],dN,d0,d0,dN,d0,dN,dN,dN,dN,dN,d0,d0,d0])]) ⟨aa,aa,trivial⟩ (cI aa ⟨aa,trivial⟩) ?_
  refine Wi F (hp.kw sE).top ?_
  intro VE B k
  show kr ig.res (kv (p.cX D)) .ret VE B
  rw[K]
  exact k
 rw[PS.cQ Y]
 refine ai ?_
 refine ae 1 aa ?_
 refine bI (fN F hp.ok sI) aa aa aa aa ?_
 refine ae 1 aa (af ?_)
 refine aI aa (fun A=>?_) (fun A=>?_)
 ·have K:p.cX D=(p.keyword sI).2.qP D:=by unfold PS.cX;rw[aj (by rw[z];decide),aj (by rw[G];decide),aj (by rw[I];decide),aj (by rw[O];decide),aj (by rw[Y];decide),aw A]
  refine dn [(0,.vp 1000 0),(2,.vp 2 0)] (PS.bq false (p.keyword sI).2++[(2,.one 50 328 [d0,d0,d0,d0,dN,dN,dS [],dS [],dN,d0,d0,dN,d0,dN,dN,dN,dN,dN,d0,d0,d0])]) ⟨aa,aa,trivial⟩ (cI aa ⟨aa,trivial⟩) ?_
  refine Xe F Lq (hp.kw sI).top aa ?_
  intro VE B k
  show kr ig.res (kv (p.cX D)) .ret VE B
  rw[K]
  exact k
 rw[PS.cQ A]
 refine ai ?_
 refine ae 1 aa ?_
 refine bI (fN F hp.ok su) aa aa aa aa ?_
 refine ae 1 aa (af ?_)
 refine aI aa (fun J=>?_) (fun J=>?_)
 ·have K:p.cX D=({kind:=9},(p.keyword su).2):=by unfold PS.cX;rw[aj (by rw[z];decide),aj (by rw[G];decide),aj (by rw[I];decide),aj (by rw[O];decide),aj (by rw[Y];decide),aj (by rw[A];decide),aw J]
  refine dn [(0,.vp 1000 0),(2,.vp 2 0)] (PS.bq false (p.keyword su).2++[(2,.one 50 328 [d0,d0,d0,d0,dN,dN,dS [],dS [],dN,d0,d0,dN,d0,dN,dN,dN,dN,dN,d0,d0,d0])]) ⟨aa,aa,trivial⟩ (cI aa ⟨aa,trivial⟩) ?_
  refine U9 F (hp.kw su).top ?_
  intro VE B k
  show kr ig.res (kv (p.cX D)) .ret VE B
  rw[K]
  exact k
 rw[PS.cQ J]
 refine ai ?_
 refine ae 1 aa ?_
 refine bI (fN F hp.ok sJ) aa aa aa aa ?_
 refine ae 1 aa (af ?_)
 refine aI aa (fun U=>?_) (fun U=>?_)
 ·have K:p.cX D=(p.keyword sJ).2.hold:=by unfold PS.cX;rw[aj (by rw[z];decide),aj (by rw[G];decide),aj (by rw[I];decide),aj (by rw[O];decide),aj (by rw[Y];decide),aj (by rw[A];decide),aj (by rw[J];decide),aw U]
  refine dn [(0,.vp 1000 0),(2,.vp 2 0)] (PS.bq false (p.keyword sJ).2++[(2,.one 50 328 [d0,d0,d0,d0,dN,dN,dS [],dS [],dN,d0,d0,dN,d0,dN,dN,dN,dN,dN,d0,d0,d0])]) ⟨aa,aa,trivial⟩ (cI aa ⟨aa,trivial⟩) ?_
  refine Xf F (hp.kw sJ).top ?_
  intro VE B k
  show kr ig.res (kv (p.cX D)) .ret VE B
  rw[K]
  exact k
 rw[PS.cQ U]
 refine ai ?_
 refine ae 1 aa ?_
 refine bI (fN F hp.ok pL) aa aa aa aa ?_
 refine ae 1 aa (af ?_)
 refine aI aa (fun Z=>?_) (fun Z=>?_)
 ·have K:p.cX D=({kind:=11,n:=((p.keyword pL).2.number (-1)).1},((p.keyword pL).2.number (-1)).2):=by unfold PS.cX;rw[aj (by rw[z];decide),aj (by rw[G];decide),aj (by rw[I];decide),aj (by rw[O];decide),aj (by rw[Y];decide),aj (by rw[A];decide),aj (by rw[J];decide),aj (by rw[U];decide),aw Z]
  refine dn [(0,.vp 1000 0),(2,.vp 2 0)] (PS.bq false (p.keyword pL).2++[(2,.one 50 328 [d0,d0,d0,d0,dN,dN,dS [],dS [],dN,d0,d0,dN,d0,dN,dN,dN,dN,dN,d0,d0,d0])]) ⟨aa,aa,trivial⟩ (cI aa ⟨aa,trivial⟩) ?_
  refine T8 F (hp.kw pL).top ?_
  intro VE B k
  show kr ig.res (kv (p.cX D)) .ret VE B
  rw[K]
  exact k
 rw[PS.cQ Z]
 refine ai ?_
 refine ae 1 aa ?_
 refine bI (fN F hp.ok pP) aa aa aa aa ?_
 refine ae 1 aa (af ?_)
 refine aI aa (fun FC=>?_) (fun FC=>?_)
 ·have K:p.cX D=({kind:=12,n:=(((p.keyword pP).2.aU [o4]).number (-1)).1},(((p.keyword pP).2.aU [o4]).number (-1)).2):=by unfold PS.cX;rw[aj (by rw[z];decide),aj (by rw[G];decide),aj (by rw[I];decide),aj (by rw[O];decide),aj (by rw[Y];decide),aj (by rw[A];decide),aj (by rw[J];decide),aj (by rw[U];decide),aj (by rw[Z];decide),aw FC]
  refine dn [(0,.vp 1000 0),(2,.vp 2 0)] (PS.bq false (p.keyword pP).2++[(2,.one 50 328 [d0,d0,d0,d0,dN,dN,dS [],dS [],dN,d0,d0,dN,d0,dN,dN,dN,dN,dN,d0,d0,d0])]) ⟨aa,aa,trivial⟩ (cI aa ⟨aa,trivial⟩) ?_
  refine U' F (hp.kw pP).top ?_
  intro VE B k
  show kr ig.res (kv (p.cX D)) .ret VE B
  rw[K]
  exact k
 rw[PS.cQ FC]
 refine aQ ?_
 have K:p.cX D=p.query D:=by unfold PS.cX;rw[aj (by rw[z];decide),aj (by rw[G];decide),aj (by rw[I];decide),aj (by rw[O];decide),aj (by rw[Y];decide),aj (by rw[A];decide),aj (by rw[J];decide),aj (by rw[U];decide),aj (by rw[Z];decide),aj (by rw[FC];decide)]
 refine dn [(0,.vp 1000 0),(2,.vp 2 0)] (PS.bq false p++[(2,.one 50 328 [d0,d0,d0,d0,dN,dN,dS [],dS [],dN,d0,d0,dN,d0,dN,dN,dN,dN,dN,d0,d0,d0])]) ⟨aa,aa,trivial⟩ (cI aa ⟨aa,trivial⟩) ?_
 refine Vb F Lq hp ?_
 intro VE B k
 show kr ig.res (kv (p.cX D)) .ret VE B
 rw[K]
 exact k
end Go.Ev.Pp
