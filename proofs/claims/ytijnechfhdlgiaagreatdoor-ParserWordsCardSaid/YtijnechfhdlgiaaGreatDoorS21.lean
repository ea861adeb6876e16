/- Part 21 of rules for walks through the code of a program, and of such walks; what each part proves is said by its theorems. -/
import Derived.Test.YtijnechfhdlgiaaGreatDoorS20
set_option linter.unusedVariables false
set_option linter.unusedSimpArgs false
namespace Go.Ev.Pp
open Go
set_option maxRecDepth 10000
set_option maxHeartbeats 8000000 in
theorem Up{T:bf}(F:FT T){a:Bool}{p:PS}(hp:bd p):bX T 156 [.vp 1000 0] (PS.bq a (p.aW [db])) fun r Bn=>r=et p.create.1.enc∧Bn=PS.bq a p.create.2:=by
 refine cr F.ZC aa ?_
 have hu:=(hp.dF [db]).top
 have h1:=hu.name.trans (hu.name.top.gK cm)
 have od:∀p,bd p→bQ p (PS.column p).2:=fun _ h=>h.column
 refine ak 1 aa (ak 3 aa (ai (ae 1 aa (bI (kM F hu.ok) aa aa aa aa (ae 2 aa (af ?_))))))
 refine ai (ae 1 aa (bI (oj F hu.name.ok cm) aa aa aa aa (mV 3 14 1101 96 32 3 aa aa aa (mV 3 16 1102 98 64 3 aa aa aa (mV 3 17 1103 100 32 2 aa aa aa (af (eX (bo 3 aa (yw (FG F h1.top) aa aa aa aa aa ?_)))))))))
 refine bo 1 aa ?_
 refine eL rfl (ey (rows:=[]) (ys:=[cS ((p.aW [db]).name.2.bx cm).column.1]) rfl rfl rfl (.bs (rows:=[cS ((p.aW [db]).name.2.bx cm).column.1]) rfl) (bW rfl) (by simp only[bK,dk,dO];omega) (fun h=>rfl) (fun h=>rfl) ?_)
 refine bo 2 aa (dc ?_)
 refine aM (bN (d6 (fun k VE B=>∃(l:List _)(q:PS),kv PS.column k l q=(jc PS.column ((p.aW [db]).name.2.bx cm))∧l≠[]∧l.length≤q.aJ+1∧((p.aW [db]).name.2.bx cm).aA.length≤k+q.aJ∧bQ ((p.aW [db]).name.2.bx cm) q∧bw [(0,.vp 1000 0),(2,.vp 2 0),(3,.vp 3 0)] VE∧bw (PS.bq a q++[(3,.one 50 328 [dI 5,d0,d0,d0,dN,dN,dS (p.aW [db]).name.1,dS [],dN,d0,d0,dN,d0,dN,.ac 1101 (l.map cS).length 3,dN,.ac 1102 (([]:List Fk).map Fk.enc).length 3,.ac 1103 (([]:List (Int×List (List UInt8))).map dQ).length 2,d0,d0,d0]),(1101,.acc 96 32 3 (l.map cS)),(1102,.acc 98 64 3 (([]:List Fk).map Fk.enc)),(1103,.acc 100 32 2 (([]:List (Int×List (List UInt8))).map dQ)),(2,.one 50 328 [d0,d0,d0,d0,dN,dN,dS [],dS [],dN,d0,d0,dN,d0,dN,dN,dN,dN,dN,d0,d0,d0])]) B) ?_ (k:=((p.aW [db]).name.2.bx cm).aA.length) ⟨[(PS.column ((p.aW [db]).name.2.bx cm)).1],(PS.column ((p.aW [db]).name.2.bx cm)).2,aa,pO _ _,mG (df _),jQ _ _,od _ h1.top,⟨aa,aa,aa,trivial⟩,cG aa ⟨aa,aa,aa,aa,aa,trivial⟩⟩))
 rintro k VE B⟨l,q,Z,lp,jj,hk,hq,hV,U⟩
 refine eA (PS.bq a q++[(3,.one 50 328 [dI 5,d0,d0,d0,dN,dN,dS (p.aW [db]).name.1,dS [],dN,d0,d0,dN,d0,dN,.ac 1101 (l.map cS).length 3,dN,.ac 1102 (([]:List Fk).map Fk.enc).length 3,.ac 1103 (([]:List (Int×List (List UInt8))).map dQ).length 2,d0,d0,d0]),(1101,.acc 96 32 3 (l.map cS)),(1102,.acc 98 64 3 (([]:List Fk).map Fk.enc)),(1103,.acc 100 32 2 (([]:List (Int×List (List UInt8))).map dQ)),(2,.one 50 328 [d0,d0,d0,d0,dN,dN,dS [],dS [],dN,d0,d0,dN,d0,dN,dN,dN,dN,dN,d0,d0,d0])]) U ?_
 have U:bw (PS.bq a q++[(3,.one 50 328 [dI 5,d0,d0,d0,dN,dN,dS (p.aW [db]).name.1,dS [],dN,d0,d0,dN,d0,dN,.ac 1101 (l.map cS).length 3,dN,.ac 1102 (([]:List Fk).map Fk.enc).length 3,.ac 1103 (([]:List (Int×List (List UInt8))).map dQ).length 2,d0,d0,d0]),(1101,.acc 96 32 3 (l.map cS)),(1102,.acc 98 64 3 (([]:List Fk).map Fk.enc)),(1103,.acc 100 32 2 (([]:List (Int×List (List UInt8))).map dQ)),(2,.one 50 328 [d0,d0,d0,d0,dN,dN,dS [],dS [],dN,d0,d0,dN,d0,dN,dN,dN,dN,dN,d0,d0,d0])]) (PS.bq a q++[(3,.one 50 328 [dI 5,d0,d0,d0,dN,dN,dS (p.aW [db]).name.1,dS [],dN,d0,d0,dN,d0,dN,.ac 1101 (l.map cS).length 3,dN,.ac 1102 (([]:List Fk).map Fk.enc).length 3,.ac 1103 (([]:List (Int×List (List UInt8))).map dQ).length 2,d0,d0,d0]),(1101,.acc 96 32 3 (l.map cS)),(1102,.acc 98 64 3 (([]:List Fk).map Fk.enc)),(1103,.acc 100 32 2 (([]:List (Int×List (List UInt8))).map dQ)),(2,.one 50 328 [d0,d0,d0,d0,dN,dN,dS [],dS [],dN,d0,d0,dN,d0,dN,dN,dN,dN,dN,d0,d0,d0])]):=cG rfl ⟨rfl,rfl,rfl,rfl,rfl,trivial⟩
 have gi:q.aA.length=((p.aW [db]).name.2.bx cm).aA.length:=by rw[hq.aA]
 refine dx _ _ hV U (aM (ai (ae 1 aa (bI (mr F hq.ok cF) aa aa aa aa (af (aK aa (fun tg=>?_) (fun tg=>?_)))))))
 ·have h2:=hq.top.sign cF
  have pg:=ov hq.ok tg
  have fu:=hq.ok.dY
  obtain⟨k,rfl⟩:∃k',k=k'+1:=⟨k-1,by have:=pg.2;omega⟩
  rw[ow tg] at Z
  have h3:=h2.trans (od _ h2.top)
  refine aU (bN (iK (bo 3 aa (yw (FG F h2.top) aa aa aa aa aa (bo 1 aa ?_)))))
  refine eL rfl (ey (rows:=l.map cS) (ys:=[cS (PS.column (q.sign cF).2).1]) rfl rfl rfl (.bs (rows:=[cS (PS.column (q.sign cF).2).1]) rfl) (bW rfl) (by simp only[bK,cC,dk,dO];omega) (fun h=>by rw[h];rfl) (fun h=>by rw[h];rfl) ?_)
  refine bo 2 aa (dc ?_)
  refine⟨k,fZ k,l++[(PS.column (q.sign cF).2).1],(PS.column (q.sign cF).2).2,Z,mo lp _,?_,?_,hq.trans h3,?_,?_⟩
  ·have:=h3.aJ;have:=pg.1;have:=(od _ h2.top).aJ;rw[bK,eK];show l.length+1≤(PS.column (q.sign cF).2).2.aJ+1;omega
  ·have:=(od _ h2.top).aJ;have:=pg.1;show((p.aW [db]).name.2.bx cm).aA.length≤k+(PS.column (q.sign cF).2).2.aJ;omega
  ·try simp only[dT,eB,fy]
   exact⟨aa,aa,aa,trivial⟩
  try simp only[dT,eB,fy]
  exact cG aa ⟨aa,aa,aa,aa,aa,trivial⟩
 rw[ox tg] at Z
 rw[PS.ig tg]
 refine dM (ai (ae 1 aa (bI (oj F hq.ok dL) aa aa aa aa ?_)))
 have iZ:p.sN=(l,q):=Z.symm
 have rI:q.bx dL=p.ik:=by unfold PS.ik;rw[iZ]
 have P1:bQ p p.ik:=hp.ik
 rw[rI]
 refine af (zW (fun VE B=>∃(O:List (List UInt8))(q2:PS),p.ik.key=(O,q2)∧bw [(0,.vp 1000 0),(2,.vp 2 0),(3,.vp 3 0)] VE∧bw (PS.bq a q2++[(3,.one 50 328 [dI 5,d0,d0,d0,dN,dN,dS (p.aW [db]).name.1,dS [],dN,d0,d0,dN,d0,dN,.ac 1101 (l.map cS).length 3,.d (fR O),.ac 1102 (([]:List Fk).map Fk.enc).length 3,.ac 1103 (([]:List (Int×List (List UInt8))).map dQ).length 2,d0,d0,d0]),(1101,.acc 96 32 3 (l.map cS)),(1102,.acc 98 64 3 (([]:List Fk).map Fk.enc)),(1103,.acc 100 32 2 (([]:List (Int×List (List UInt8))).map dQ)),(2,.one 50 328 [d0,d0,d0,d0,dN,dN,dS [],dS [],dN,d0,d0,dN,d0,dN,dN,dN,dN,dN,d0,d0,d0])]) B) ?_ ?_)
 ·rintro VE B⟨O,q2,EO,hV,U⟩
  refine eA (PS.bq a q2++[(3,.one 50 328 [dI 5,d0,d0,d0,dN,dN,dS (p.aW [db]).name.1,dS [],dN,d0,d0,dN,d0,dN,.ac 1101 (l.map cS).length 3,.d (fR O),.ac 1102 (([]:List Fk).map Fk.enc).length 3,.ac 1103 (([]:List (Int×List (List UInt8))).map dQ).length 2,d0,d0,d0]),(1101,.acc 96 32 3 (l.map cS)),(1102,.acc 98 64 3 (([]:List Fk).map Fk.enc)),(1103,.acc 100 32 2 (([]:List (Int×List (List UInt8))).map dQ)),(2,.one 50 328 [d0,d0,d0,d0,dN,dN,dS [],dS [],dN,d0,d0,dN,d0,dN,dN,dN,dN,dN,d0,d0,d0])]) U ?_
  have U:bw (PS.bq a q2++[(3,.one 50 328 [dI 5,d0,d0,d0,dN,dN,dS (p.aW [db]).name.1,dS [],dN,d0,d0,dN,d0,dN,.ac 1101 (l.map cS).length 3,.d (fR O),.ac 1102 (([]:List Fk).map Fk.enc).length 3,.ac 1103 (([]:List (Int×List (List UInt8))).map dQ).length 2,d0,d0,d0]),(1101,.acc 96 32 3 (l.map cS)),(1102,.acc 98 64 3 (([]:List Fk).map Fk.enc)),(1103,.acc 100 32 2 (([]:List (Int×List (List UInt8))).map dQ)),(2,.one 50 328 [d0,d0,d0,d0,dN,dN,dS [],dS [],dN,d0,d0,dN,d0,dN,dN,dN,dN,dN,d0,d0,d0])]) (PS.bq a q2++[(3,.one 50 328 [dI 5,d0,d0,d0,dN,dN,dS (p.aW [db]).name.1,dS [],dN,d0,d0,dN,d0,dN,.ac 1101 (l.map cS).length 3,.d (fR O),.ac 1102 (([]:List Fk).map Fk.enc).length 3,.ac 1103 (([]:List (Int×List (List UInt8))).map dQ).length 2,d0,d0,d0]),(1101,.acc 96 32 3 (l.map cS)),(1102,.acc 98 64 3 (([]:List Fk).map Fk.enc)),(1103,.acc 100 32 2 (([]:List (Int×List (List UInt8))).map dQ)),(2,.one 50 328 [d0,d0,d0,d0,dN,dN,dS [],dS [],dN,d0,d0,dN,d0,dN,dN,dN,dN,dN,d0,d0,d0])]):=cG rfl ⟨rfl,rfl,rfl,rfl,rfl,trivial⟩
  have gq2:bQ p q2:=by have:=hp.x9;rw[EO] at this;exact this
  refine dx _ _ hV U (aM (bN ?_))
  refine d6 (fun k VE B=>∃(lf:List Fk)(qf:PS),o8 k lf qf=p.o9∧lf.length≤qf.aJ+1∧p.aA.length≤k+qf.aJ∧bQ p qf∧bw [(0,.vp 1000 0),(2,.vp 2 0),(3,.vp 3 0)] VE∧bw (PS.bq a qf++[(3,.one 50 328 [dI 5,d0,d0,d0,dN,dN,dS (p.aW [db]).name.1,dS [],dN,d0,d0,dN,d0,dN,.ac 1101 (l.map cS).length 3,.d (fR O),.ac 1102 (lf.map Fk.enc).length 3,.ac 1103 (([]:List (Int×List (List UInt8))).map dQ).length 2,d0,d0,d0]),(1101,.acc 96 32 3 (l.map cS)),(1102,.acc 98 64 3 (lf.map Fk.enc)),(1103,.acc 100 32 2 (([]:List (Int×List (List UInt8))).map dQ)),(2,.one 50 328 [d0,d0,d0,d0,dN,dN,dS [],dS [],dN,d0,d0,dN,d0,dN,dN,dN,dN,dN,d0,d0,d0])]) B) ?_ (k:=p.aA.length) ⟨[],q2,by unfold PS.o9;rw[EO],df _,jQ _ _,gq2,⟨rfl,rfl,rfl,trivial⟩,cG rfl ⟨rfl,rfl,rfl,rfl,rfl,trivial⟩⟩
  rintro k VE B⟨lf,qf,A,jj,hk,Y,hV,U⟩
  refine eA (PS.bq a qf++[(3,.one 50 328 [dI 5,d0,d0,d0,dN,dN,dS (p.aW [db]).name.1,dS [],dN,d0,d0,dN,d0,dN,.ac 1101 (l.map cS).length 3,.d (fR O),.ac 1102 (lf.map Fk.enc).length 3,.ac 1103 (([]:List (Int×List (List UInt8))).map dQ).length 2,d0,d0,d0]),(1101,.acc 96 32 3 (l.map cS)),(1102,.acc 98 64 3 (lf.map Fk.enc)),(1103,.acc 100 32 2 (([]:List (Int×List (List UInt8))).map dQ)),(2,.one 50 328 [d0,d0,d0,d0,dN,dN,dS [],dS [],dN,d0,d0,dN,d0,dN,dN,dN,dN,dN,d0,d0,d0])]) U ?_
  have U:bw (PS.bq a qf++[(3,.one 50 328 [dI 5,d0,d0,d0,dN,dN,dS (p.aW [db]).name.1,dS [],dN,d0,d0,dN,d0,dN,.ac 1101 (l.map cS).length 3,.d (fR O),.ac 1102 (lf.map Fk.enc).length 3,.ac 1103 (([]:List (Int×List (List UInt8))).map dQ).length 2,d0,d0,d0]),(1101,.acc 96 32 3 (l.map cS)),(1102,.acc 98 64 3 (lf.map Fk.enc)),(1103,.acc 100 32 2 (([]:List (Int×List (List UInt8))).map dQ)),(2,.one 50 328 [d0,d0,d0,d0,dN,dN,dS [],dS [],dN,d0,d0,dN,d0,dN,dN,dN,dN,dN,d0,d0,d0])]) (PS.bq a qf++[(3,.one 50 328 [dI 5,d0,d0,d0,dN,dN,dS (p.aW [db]).name.1,dS [],dN,d0,d0,dN,d0,dN,.ac 1101 (l.map cS).length 3,.d (fR O),.ac 1102 (lf.map Fk.enc).length 3,.ac 1103 (([]:List (Int×List (List UInt8))).map dQ).length 2,d0,d0,d0]),(1101,.acc 96 32 3 (l.map cS)),(1102,.acc 98 64 3 (lf.map Fk.enc)),(1103,.acc 100 32 2 (([]:List (Int×List (List UInt8))).map dQ)),(2,.one 50 328 [d0,d0,d0,d0,dN,dN,dS [],dS [],dN,d0,d0,dN,d0,dN,dN,dN,dN,dN,d0,d0,d0])]):=cG rfl ⟨rfl,rfl,rfl,rfl,rfl,trivial⟩
  have gi:qf.aA.length=p.aA.length:=by rw[Y.aA]
  have fu:=Y.ok.dY
  have yz:=Y.ok.lt
  refine dx _ _ hV U (aM (ai (ae 1 aa (bI (fD F Y.ok lS) aa aa aa aa (af (aK aa (fun Bw=>?_) (fun Bw=>?_)))))))
  ·have mT:=y6 Bw
   obtain⟨k,rfl⟩:∃k',k=k'+1:=⟨k-1,by omega⟩
   rw[GY Bw] at A
   have I:=Y.top.kw lS
   generalize (qf.keyword lS).2=r at mT A I⊢
   have g1:=I.top.names
   have g2:=g1.top.dF [yR]
   have g3:=g2.top.name
   refine aU (bN (ai (ae 1 aa (bI (zV F I.top) aa aa aa aa (ae 3 aa (af ?_))))))
   refine ai (ae 1 aa (bI (iW F g1.ok yR) aa aa aa aa (af (ai (ae 1 aa (bI (kM F g2.ok) aa aa aa aa (ae 2 aa (af ?_))))))))
   refine ai (ae 1 aa (bI (zV F g3.top) aa aa aa aa (ae 2 aa (af ?_))))
   refine bG (ae 4 aa ?_)
   refine al (ey (rows:=lf.map Fk.enc) (ys:=[r.fk.1.enc]) rfl rfl rfl (.bs (rows:=[r.fk.1.enc]) rfl) (bW rfl) (by rw[bK,cC];simp only[dk,dO];omega) (fun h=>by rw[h];rfl) (fun h=>by rw[h];rfl) ?_)
   refine ae 2 aa (af ?_)
   refine⟨k,fZ k,lf++[r.fk.1],r.fk.2,A,?_,?_,Y.trans (I.trans I.top.fk),⟨aa,aa,aa,trivial⟩,?_⟩
   ·have:=I.top.fk.aJ;rw[bK,eK];omega
   ·have:=I.top.fk.aJ;omega
   simp only[dT,eB,fy];exact cG rfl ⟨rfl,rfl,rfl,rfl,rfl,trivial⟩
  rw[GZ Bw] at A
  rw[PS.cL Bw]
  refine dM (aM (bN ?_))
  refine d6 (fun k VE B=>∃(K:List (Int×List (List UInt8)))(G:PS),nM k K G=p.uR∧K.length≤G.aJ+1∧p.aA.length≤k+G.aJ∧bQ p G∧bw [(0,.vp 1000 0),(2,.vp 2 0),(3,.vp 3 0)] VE∧bw (PS.bq a G++[(3,.one 50 328 [dI 5,d0,d0,d0,dN,dN,dS (p.aW [db]).name.1,dS [],dN,d0,d0,dN,d0,dN,.ac 1101 (l.map cS).length 3,.d (fR O),.ac 1102 (lf.map Fk.enc).length 3,.ac 1103 (K.map dQ).length 2,d0,d0,d0]),(1101,.acc 96 32 3 (l.map cS)),(1102,.acc 98 64 3 (lf.map Fk.enc)),(1103,.acc 100 32 2 (K.map dQ)),(2,.one 50 328 [d0,d0,d0,d0,dN,dN,dS [],dS [],dN,d0,d0,dN,d0,dN,dN,dN,dN,dN,d0,d0,d0])]) B) ?_ (k:=p.aA.length) ⟨[],qf,by unfold PS.uR;rw[←A],df _,jQ _ _,Y,⟨rfl,rfl,rfl,trivial⟩,cG rfl ⟨rfl,rfl,rfl,rfl,rfl,trivial⟩⟩
  clear jj hk
  rintro k VE B⟨K,G,z,jj,hk,J,hV,U⟩
  refine eA (PS.bq a G++[(3,.one 50 328 [dI 5,d0,d0,d0,dN,dN,dS (p.aW [db]).name.1,dS [],dN,d0,d0,dN,d0,dN,.ac 1101 (l.map cS).length 3,.d (fR O),.ac 1102 (lf.map Fk.enc).length 3,.ac 1103 (K.map dQ).length 2,d0,d0,d0]),(1101,.acc 96 32 3 (l.map cS)),(1102,.acc 98 64 3 (lf.map Fk.enc)),(1103,.acc 100 32 2 (K.map dQ)),(2,.one 50 328 [d0,d0,d0,d0,dN,dN,dS [],dS [],dN,d0,d0,dN,d0,dN,dN,dN,dN,dN,d0,d0,d0])]) U ?_
  have U:bw (PS.bq a G++[(3,.one 50 328 [dI 5,d0,d0,d0,dN,dN,dS (p.aW [db]).name.1,dS [],dN,d0,d0,dN,d0,dN,.ac 1101 (l.map cS).length 3,.d (fR O),.ac 1102 (lf.map Fk.enc).length 3,.ac 1103 (K.map dQ).length 2,d0,d0,d0]),(1101,.acc 96 32 3 (l.map cS)),(1102,.acc 98 64 3 (lf.map Fk.enc)),(1103,.acc 100 32 2 (K.map dQ)),(2,.one 50 328 [d0,d0,d0,d0,dN,dN,dS [],dS [],dN,d0,d0,dN,d0,dN,dN,dN,dN,dN,d0,d0,d0])]) (PS.bq a G++[(3,.one 50 328 [dI 5,d0,d0,d0,dN,dN,dS (p.aW [db]).name.1,dS [],dN,d0,d0,dN,d0,dN,.ac 1101 (l.map cS).length 3,.d (fR O),.ac 1102 (lf.map Fk.enc).length 3,.ac 1103 (K.map dQ).length 2,d0,d0,d0]),(1101,.acc 96 32 3 (l.map cS)),(1102,.acc 98 64 3 (lf.map Fk.enc)),(1103,.acc 100 32 2 (K.map dQ)),(2,.one 50 328 [d0,d0,d0,d0,dN,dN,dS [],dS [],dN,d0,d0,dN,d0,dN,dN,dN,dN,dN,d0,d0,d0])]):=cG rfl ⟨rfl,rfl,rfl,rfl,rfl,trivial⟩
  have hqt4:G.aA.length=p.aA.length:=by rw[J.aA]
  have hfew4:=J.ok.dY
  have hlt4:=J.ok.lt
  refine dx _ _ hV U (aM (ak 5 aa (aK aa (fun IY=>?_) (fun IY=>?_))))
  ·have Fs:G.err=0:=by simpa using IY
   refine aU (bN (ak 1 aa (aM (ai (ae 1 aa (bI (fD F J.ok pM) aa aa aa aa (af (aK aa (fun yV=>?_) (fun yV=>?_)))))))))
   ·have hj:G.gN=some (1,(G.keyword pM).2):=by unfold PS.gN;rw[aw yV]
    have mT:=y6 yV
    obtain⟨k,rfl⟩:∃k',k=k'+1:=⟨k-1,by omega⟩
    rw[vh hj] at z
    have I:=J.top.kw pM
    generalize (G.keyword pM).2=r at mT z I hj⊢
    refine bG (ae 1 aa (af ?_))
    refine iK (bo 4 aa (yw (zV F I.top) aa aa aa aa aa (bo 2 aa ?_)))
    refine eL rfl (ey (rows:=K.map dQ) (ys:=[dQ (1,r.names.1)]) rfl rfl rfl (.bs (rows:=[dQ (1,r.names.1)]) rfl) (bW rfl) (by rw[bK,cC];simp only[dk,dO];omega) (fun h=>by rw[h];rfl) (fun h=>by rw[h];rfl) ?_)
    refine bo 2 aa (dc ?_)
    refine⟨k,fZ k,K++[(1,r.names.1)],r.names.2,z,?_,?_,J.trans (I.trans I.top.names),⟨aa,aa,aa,trivial⟩,?_⟩
    ·have:=I.top.names.aJ;rw[bK,eK];omega
    ·have:=I.top.names.aJ;omega
    simp only[dT,eB,fy];exact cG rfl ⟨rfl,rfl,rfl,rfl,rfl,trivial⟩
   rw[PS.cL yV]
   refine ai (ae 1 aa (bI (fD F J.ok po) aa aa aa aa (af (aK aa (fun Bx=>?_) (fun Bx=>?_)))))
   ·have hj:G.gN=some (2,(G.keyword po).2):=by unfold PS.gN;rw[aj (by rw[yV];decide),aw Bx]
    have mT:=y6 Bx
    obtain⟨k,rfl⟩:∃k',k=k'+1:=⟨k-1,by omega⟩
    rw[vh hj] at z
    have I:=J.top.kw po
    generalize (G.keyword po).2=r at mT z I hj⊢
    refine bG (ae 1 aa (af ?_))
    refine iK (bo 4 aa (yw (zV F I.top) aa aa aa aa aa (bo 2 aa ?_)))
    refine eL rfl (ey (rows:=K.map dQ) (ys:=[dQ (2,r.names.1)]) rfl rfl rfl (.bs (rows:=[dQ (2,r.names.1)]) rfl) (bW rfl) (by rw[bK,cC];simp only[dk,dO];omega) (fun h=>by rw[h];rfl) (fun h=>by rw[h];rfl) ?_)
    refine bo 2 aa (dc ?_)
    refine⟨k,fZ k,K++[(2,r.names.1)],r.names.2,z,?_,?_,J.trans (I.trans I.top.names),⟨aa,aa,aa,trivial⟩,?_⟩
    ·have:=I.top.names.aJ;rw[bK,eK];omega
    ·have:=I.top.names.aJ;omega
    simp only[dT,eB,fy];exact cG rfl ⟨rfl,rfl,rfl,rfl,rfl,trivial⟩
   have hj:G.gN=none:=by unfold PS.gN;rw[aj (by rw[yV];decide),aj (by rw[Bx];decide)]
   rw[y5 hj] at z
   rw[PS.cL Bx]
   refine dM (ai (ae 1 aa ?_))
   refine fx 72 1101 rfl rfl ⟨trivial,trivial,trivial,trivial,trivial,trivial,trivial,trivial,trivial,trivial,trivial,trivial,trivial,trivial,fun _=>⟨rfl,rfl⟩,trivial,fun h=>absurd h (by decide),fun h=>absurd h (by decide),trivial,trivial,trivial,trivial⟩ ?_
   refine fx 72 1102 rfl rfl ⟨trivial,trivial,trivial,trivial,trivial,trivial,trivial,trivial,trivial,trivial,trivial,trivial,trivial,trivial,trivial,trivial,fun _=>⟨rfl,rfl⟩,fun h=>absurd h (by decide),trivial,trivial,trivial,trivial⟩ ?_
   refine fx 72 1103 aa aa ⟨trivial,trivial,trivial,trivial,trivial,trivial,trivial,trivial,trivial,trivial,trivial,trivial,trivial,trivial,trivial,trivial,trivial,fun _=>⟨aa,aa⟩,trivial,trivial,trivial,trivial⟩ (ae 1 aa (af ?_))
   refine ax ?_
   have hm:p.create=({kind:=5,table:=(p.aW [db]).name.1,jh:=l,key:=O,mh:=lf,cons:=K},G):=by unfold PS.create;rw[iZ,EO,←A,←z]
   rw[hm]
   exact⟨_,PS.bq a _,aa,⟨aa,trivial⟩,aa,aa⟩
  have Fs:¬G.err=0:=by simpa using IY
  have hj:G.gN=none:=by unfold PS.gN;simp only[show∀s,G.keyword s=(false,G) from fun s=>rP Fs 1 s];rfl
  rw[y5 hj] at z
  refine dM (ai (ae 1 aa ?_))
  refine fx 72 1101 rfl rfl ⟨trivial,trivial,trivial,trivial,trivial,trivial,trivial,trivial,trivial,trivial,trivial,trivial,trivial,trivial,fun _=>⟨rfl,rfl⟩,trivial,fun h=>absurd h (by decide),fun h=>absurd h (by decide),trivial,trivial,trivial,trivial⟩ ?_
  refine fx 72 1102 rfl rfl ⟨trivial,trivial,trivial,trivial,trivial,trivial,trivial,trivial,trivial,trivial,trivial,trivial,trivial,trivial,trivial,trivial,fun _=>⟨rfl,rfl⟩,fun h=>absurd h (by decide),trivial,trivial,trivial,trivial⟩ ?_
  refine fx 72 1103 aa aa ⟨trivial,trivial,trivial,trivial,trivial,trivial,trivial,trivial,trivial,trivial,trivial,trivial,trivial,trivial,trivial,trivial,trivial,fun _=>⟨aa,aa⟩,trivial,trivial,trivial,trivial⟩ (ae 1 aa (af ?_))
  refine ax ?_
  have hm:p.create=({kind:=5,table:=(p.aW [db]).name.1,jh:=l,key:=O,mh:=lf,cons:=K},G):=by unfold PS.create;rw[iZ,EO,←A,←z]
  rw[hm]
  exact⟨_,PS.bq a _,aa,⟨aa,trivial⟩,aa,aa⟩
 refine ai (ae 1 aa (bI (fD F P1.ok rA) aa aa aa aa (af (aK aa (fun Ft=>?_) (fun Ft=>?_)))))
 ·refine bG (ae 1 aa (bI (zV F (P1.top.kw rA).top) aa aa aa aa (ae 2 aa (af ?_))))
  exact⟨_,_,by unfold PS.key;rw[aw Ft],⟨rfl,rfl,rfl,trivial⟩,cG rfl ⟨rfl,rfl,rfl,rfl,rfl,trivial⟩⟩
 rw[PS.cL Ft]
 refine aU ?_
 exact⟨[],p.ik,by unfold PS.key;rw[aj (by rw[Ft];decide)],⟨rfl,rfl,rfl,trivial⟩,cG rfl ⟨rfl,rfl,rfl,rfl,rfl,trivial⟩⟩
open Go
set_option maxRecDepth 10000
def rk:IC→IC
 |.seq _ (.seq (.block _ x) _)=>x
 |_=>.skip
def Vx:IC→IC
 |.seq _ (.seq _ x)=>x
 |_=>.skip
def qW:IC→IC
 |.seq _ (.cond _ a _)=>a
 |_=>.skip
def fG:IC→IC
 |.seq _ (.cond _ _ b)=>b
 |_=>.skip
def kn(m:Stmt×PS):VV→br→Prop:=fun r Bn=>∃st a',r=et (Stmt.enc st)∧Bn=PS.bq a' m.2∧(m.2.err=0→st=m.1)
def P2(b:Nat):List (Nat×Nat):=[(1000,1000),(1001,b)]
def sgW(b:Nat):List (Nat×Nat):=[(1000,1000),(1001,b),(1050,1050)]
def IZ(b:Nat):List (Nat×Nat):=[(1000,1000),(1001,b),(1050,1050),(1051,1051)]
theorem KF{q:PS}{s:List UInt8}(h:(q.sign s).1=true):q.err=0:=by
 refine t7 fun h0=>?_
 rw[Tl h0 s] at h;cases h
set_option maxHeartbeats 8000000 in
theorem Uq{T:bf}(F:FT T){D:Rd}(U:ke T D){a:Bool}{p:PS}(hp:bd p){R:Ex→b0→br→Prop}(hR:∀VE B,ki hM.res (kn (p.insert D)) .ret VE B→R .ret VE B):VC T (qW (rk hM.body)) [(0,.vp 1000 0),(2,.vp 2 0)] (PS.bq a p++[(2,.one 50 328 [d0,d0,d0,d0,dN,dN,dS [],dS [],dN,d0,d0,dN,d0,dN,dN,dN,dN,dN,d0,d0,d0])]) R:=by
 refine ai (ae 1 aa (bI (iW F hp.ok lE) aa aa aa aa (af (ai (ae 1 aa (bI (kM F (hp.dF [lE]).ok) aa aa aa aa (ae 3 aa (af ?_))))))))
 refine ai (ae 1 aa (bI (iW F hp.kP.ok lr) aa aa aa aa (af (ai (ae 1 aa (bI (oj F (hp.kP.top.dF [lr]).ok cm) aa aa aa aa (mV 3 8 1101 92 32 3 aa aa aa (af (eX ?_)))))))))
 refine bo 3 aa (eL aa (pT (KE F U hp.sv.st) aa aa aa (fun r K=>?_)))
 obtain⟨v,rfl,hv⟩:=K
 refine bo 1 aa ?_
 refine eL rfl (ey (rows:=[]) (ys:=[v.enc]) rfl rfl rfl (.bs (rows:=[v.enc]) rfl) (bW rfl) (by simp only[bK,cC,dk,dO];omega) (fun h=>by rw[h];rfl) (fun h=>by rw[h];rfl) ?_)
 refine bo 2 aa (dc ?_)
 refine aM (bN ?_)
 refine d6 (fun k VE B=>∃(l vs:List gU)(q:PS),kv (fun p=>PS.literal p D) k l q=p.sM D∧vs.length=l.length∧(q.err=0→vs=l)∧l.length≤q.aJ+1∧p.aA.length≤k+q.aJ∧bQ p q∧bw [(0,.vp 1000 0),(2,.vp 2 0),(3,.vp 3 0)] VE∧bw (PS.bq a q++[(3,.one 50 328 [dI 2,d0,d0,d0,dN,dN,dS (p.aW [lE]).name.1,dS [],.ac 1101 (vs.map gU.enc).length 3,d0,d0,dN,d0,dN,dN,dN,dN,dN,d0,d0,d0]),(1101,.acc 92 32 3 (vs.map gU.enc)),(2,.one 50 328 [d0,d0,d0,d0,dN,dN,dS [],dS [],dN,d0,d0,dN,d0,dN,dN,dN,dN,dN,d0,d0,d0])]) B) ?_ (k:=p.aA.length) ⟨[(((p.kP.aW [lr]).bx cm).literal D).1],[v],(((p.kP.aW [lr]).bx cm).literal D).2,by unfold PS.sM jc;rw[hp.sv.aA],rfl,fun h0=>by rw[hv h0],mG (df _),jQ _ _,hp.sv.trans (hp.sv.top.literal D),⟨rfl,rfl,rfl,trivial⟩,cG rfl ⟨rfl,rfl,rfl,trivial⟩⟩
 clear hv
 rintro k VE B⟨l,vs,q,z,Y,O,jj,hk,G,hV,Z⟩
 refine eA (PS.bq a q++[(3,.one 50 328 [dI 2,d0,d0,d0,dN,dN,dS (p.aW [lE]).name.1,dS [],.ac 1101 (vs.map gU.enc).length 3,d0,d0,dN,d0,dN,dN,dN,dN,dN,d0,d0,d0]),(1101,.acc 92 32 3 (vs.map gU.enc)),(2,.one 50 328 [d0,d0,d0,d0,dN,dN,dS [],dS [],dN,d0,d0,dN,d0,dN,dN,dN,dN,dN,d0,d0,d0])]) Z ?_
 have Z:bw (PS.bq a q++[(3,.one 50 328 [dI 2,d0,d0,d0,dN,dN,dS (p.aW [lE]).name.1,dS [],.ac 1101 (vs.map gU.enc).length 3,d0,d0,dN,d0,dN,dN,dN,dN,dN,d0,d0,d0]),(1101,.acc 92 32 3 (vs.map gU.enc)),(2,.one 50 328 [d0,d0,d0,d0,dN,dN,dS [],dS [],dN,d0,d0,dN,d0,dN,dN,dN,dN,dN,d0,d0,d0])]) (PS.bq a q++[(3,.one 50 328 [dI 2,d0,d0,d0,dN,dN,dS (p.aW [lE]).name.1,dS [],.ac 1101 (vs.map gU.enc).length 3,d0,d0,dN,d0,dN,dN,dN,dN,dN,d0,d0,d0]),(1101,.acc 92 32 3 (vs.map gU.enc)),(2,.one 50 328 [d0,d0,d0,d0,dN,dN,dS [],dS [],dN,d0,d0,dN,d0,dN,dN,dN,dN,dN,d0,d0,d0])]):=cG rfl ⟨rfl,rfl,rfl,trivial⟩
 have gi:q.aA.length=p.aA.length:=by rw[G.aA]
 have fu:=G.ok.dY
 have yz:=G.ok.lt
 refine dx _ _ hV Z (aM (ai (ae 1 aa (bI (mr F G.ok cF) aa aa aa aa (af (aK aa (fun A=>?_) (fun A=>?_)))))))
 ·have Fs:q.err=0:=KF A
  have h2:=G.top.sign cF
  have I:=ov G.ok A
  obtain⟨k,rfl⟩:∃k',k=k'+1:=⟨k-1,by have:=I.2;omega⟩
  rw[ow A] at z
  generalize (q.sign cF).2=q1 at h2 I z⊢
  have J:=h2.top.literal D
  have ga:=J.aJ
  have gl:=I.1
  refine aU (bN (iK (bo 3 aa (eL aa (pT (KE F U h2.top.st) aa aa aa (fun r K=>?_))))))
  obtain⟨v2,rfl,hv2⟩:=K
  refine bo 1 aa ?_
  refine eL rfl (ey (rows:=vs.map gU.enc) (ys:=[v2.enc]) rfl rfl rfl (.bs (rows:=[v2.enc]) rfl) (bW rfl) (by simp only[bK,cC,dk,dO];omega) (fun h=>by rw[h];rfl) (fun h=>by rw[h];rfl) ?_)
  refine bo 2 aa (dc ?_)
  refine⟨k,fZ k,l++[(q1.literal D).1],vs++[v2],(q1.literal D).2,z,?_,?_,?_,?_,G.trans (h2.trans J),⟨aa,aa,aa,trivial⟩,?_⟩
  ·rw[bK,bK,Y];rfl
  ·intro h0;rw[hv2 h0,O Fs]
  ·rw[bK,eK];omega
  ·omega
  simp only[dT,eB,fy];exact cG rfl ⟨rfl,rfl,rfl,trivial⟩
 rw[ox A] at z
 rw[PS.ig A]
 have g1:=G.top.gK dL
 have J:=g1.top.dF [kO]
 have g3:=J.top.period D
 refine dM (ai (ae 1 aa (bI (oj F G.ok dL) aa aa aa aa (af (ai (ae 1 aa (bI (iW F g1.ok kO) aa aa aa aa (af (ai ?_)))))))))
 refine ae 1 aa (al (pT (L4 F U J.st) aa aa aa (fun r K=>?_)))
 obtain⟨w,rfl,hw⟩:=K
 refine ae 2 aa (af ?_)
 refine ai (ae 1 aa (fx 47 1101 aa aa ⟨trivial,trivial,trivial,trivial,trivial,trivial,trivial,trivial,fun _=>⟨aa,aa⟩,trivial,trivial,trivial,trivial,trivial,trivial,trivial,trivial,trivial,trivial,trivial,trivial,trivial⟩ (ae 1 aa (af ?_))))
 refine ax ?_
 have hm:p.insert D=({kind:=2,table:=(p.aW [lE]).name.1,row:=l,valid:=(((q.bx dL).aW [kO]).period D).1},(((q.bx dL).aW [kO]).period D).2):=by unfold PS.insert PS.p5;rw[←z]
 rw[hm] at hR
 exact hR _ _ ⟨_,PS.bq a _,rfl,⟨rfl,trivial⟩,{kind:=2,table:=(p.aW [lE]).name.1,row:=vs,valid:=w},a,rfl,rfl,fun h0=>by rw[hw h0,O (g1.er (J.er (g3.er h0)))]⟩
open Go
set_option maxRecDepth 10000
def AX(k:Int)(t:List UInt8)(v:Int×Int)(n:Nat)(w:Int)(ss:List (List DC)):Nat×BS:=(1001,.one 50 328 [dI k,d0,d0,d0,dN,dN,dS t,dS [],dN,dI v.1,dI v.2,.ac 1050 n 8,dI w,.ac 1051 ss.length 2,dN,dN,dN,dN,d0,d0,d0])
set_option maxHeartbeats 2000000 in
theorem Ur{T:bf}(F:FT T){D:Rd}(K:ke T D){a:Bool}{p:PS}(hp:bd p)(k:Int)(t:List UInt8)(v:Int×Int)(w:Int)(ss:List (List DC)){e:List aL}{N:Nat}(he:EG p e N)(hN:N≤100000):bX T 154 [.vp 1000 0,.vp 1001 0] (PS.bq a p++[AX k t v (e.map aL.enc).length w ss,(1050,.acc 142 88 8 (e.map aL.enc)),(1051,.acc 94 24 2 ss)]) fun r Bn=>∃e1 x,r= .tuple []∧Bn=PS.bq a (p.dX D).2++[AX k t v (e1.map aL.enc).length x ss,(1050,.acc 142 88 8 (e1.map aL.enc)),(1051,.acc 94 24 2 ss)]∧EG (p.dX D).2 e1 (N+610)∧((p.dX D).2.err=0→x=(p.dX D).1):=by
 refine cr F.O3 aa (eA (PS.bq a p++[(1001,.one 50 328 [dI k,d0,d0,d0,dN,dN,dS t,dS [],dN,dI v.1,dI v.2,.ac 1050 (e.map aL.enc).length 8,dI w,.ac 1051 ss.length 2,dN,dN,dN,dN,d0,d0,d0]),(1050,.acc 142 88 8 (e.map aL.enc)),(1051,.acc 94 24 2 ss)]) (cG aa ⟨aa,aa,aa,trivial⟩) (ak 4 aa (ai (ae 1 aa (bI (fD F hp.ok jP) aa aa aa aa (af (aK aa (fun z=>?_) (fun z=>?_))))))))
 ·have G:p.dX D=(p.keyword jP).2.expr D:=by unfold PS.dX;rw[aw z]
  have A:=hp.kw jP
  have O:=A.top.expr D
  refine ai (ae 6 aa (js 1001 11 aa aa (ez (PS.bq a (p.keyword jP).2++[(1001,.one 50 328 [dI k,d0,d0,d0,dN,dN,dS t,dS [],dN,dI v.1,dI v.2,.undef,dI (-1),.ac 1051 ss.length 2,dN,dN,dN,dN,d0,d0,d0]),(1050,.acc 142 88 8 (e.map aL.enc)),(1051,.acc 94 24 2 ss)]) (cG aa ⟨aa,aa,aa,trivial⟩) (jm (t6 F K A.top (he.go2 A (mi ..)) hN) aa aa aa aa (fun e1 I=>?_)))))
  have U:=I.small O.ok (by omega)
  refine ae 3 aa (af ?_)
  refine bG (ae 6 aa ?_)
  refine al (gj rfl rfl (by simp only[cC,bb];omega) (by simp only[cC,bb];omega) ?_)
  obtain⟨x,J⟩:∃x:Int,(((e1.map aL.enc).length:Nat):Int) -Int.ofNat 1=x:=⟨_,rfl⟩
  rw[J]
  refine ae 3 aa (af ?_)
  rw[G]
  exact⟨_,PS.bq a _++[AX k t v (e1.map aL.enc).length x ss,(1050,.acc 142 88 8 (e1.map aL.enc)),(1051,.acc 94 24 2 ss)],rfl,cG rfl ⟨rfl,rfl,rfl,trivial⟩,e1,x,rfl,rfl,I.dz (by omega),fun h0=>J.symm.trans (qN A.top I h0)⟩
 have G:p.dX D=(-1,p):=by unfold PS.dX;rw[aj (by rw[z];decide)]
 rw[PS.cL z]
 refine aU ?_
 rw[G]
 exact⟨_,PS.bq a _++[AX k t v (e.map aL.enc).length (-1) ss,(1050,.acc 142 88 8 (e.map aL.enc)),(1051,.acc 94 24 2 ss)],rfl,cG rfl ⟨rfl,rfl,rfl,trivial⟩,e, -1,rfl,rfl,he.dz (by omega),fun _=>rfl⟩
open Go
set_option maxRecDepth 10000
set_option maxHeartbeats 4000000 in
theorem Us{T:bf}(F:FT T){D:Rd}(K:ke T D){a:Bool}{p:PS}(hp:bd p)(O:p.ex=[]){R:Ex→b0→br→Prop}(U:∀VE B,ki hM.res (kn (p.remove D)) .ret VE B→R .ret VE B):VC T (qW (fG (rk hM.body))) [(0,.vp 1000 0),(2,.vp 2 0)] (PS.bq a p++[(2,.one 50 328 [d0,d0,d0,d0,dN,dN,dS [],dS [],dN,d0,d0,dN,d0,dN,dN,dN,dN,dN,d0,d0,d0])]) R:=by
 have g0:bQ p (p.aW [hY]).name.2:=(hp.dF [hY]).trans (hp.dF [hY]).top.name
 have A:=hp.nq D
 have Y:=A.top.dX D
 have z:(((p.aW [hY]).name.2.aW [kO,oq,j6]).period D).2=p.nq D:=rfl
 have Z:EG (p.nq D) [] 0:=EG.go2 ⟨fun _=>O.symm,df _⟩ A (by rw[←z,show∀q:PS,(q.period D).2.ex=q.ex from fun q=>ql ..,pn,show∀q:PS,q.name.2.ex=q.ex from fun q=>ql ..,pn])
 refine ai ?_
 refine ae 1 aa ?_
 refine bI (iW F hp.ok hY) aa aa aa aa ?_
 refine af ?_
 refine ai ?_
 refine ae 1 aa ?_
 refine bI (kM F (hp.dF [hY]).ok) aa aa aa aa ?_
 refine ae 3 aa (af ?_)
 refine ai ?_
 refine ae 1 aa ?_
 refine rW (Bi:=PS.bq a (p.aW [hY]).name.2++[AV 3 (p.aW [hY]).name.1 (0,0)]) 1050 (P2 4) 2000 aa aa aa aa aa aa aa ⟨aa,aa,aa,aa,trivial⟩ (Lr F K g0.top 3 (p.aW [hY]).name.1) (fun r Bn G=>?_)
 obtain⟨v,rfl,rfl,hv⟩:=G
 refine ez (PS.bq a (p.nq D)++[(4,.one 50 328 [dI 3,d0,d0,d0,dN,dN,dS (p.aW [hY]).name.1,dS [],dN,dI v.1,dI v.2,dN,d0,dN,dN,dN,dN,dN,d0,d0,d0]),(2,.one 50 328 [d0,d0,d0,d0,dN,dN,dS [],dS [],dN,d0,d0,dN,d0,dN,dN,dN,dN,dN,d0,d0,d0])]) (cG (by rw[←z];rfl) ⟨rfl,rfl,trivial⟩) ?_
 refine mV 4 11 1050 142 88 8 aa aa aa ?_
 refine af ?_
 refine ai ?_
 refine ae 1 aa ?_
 refine rW (Bi:=PS.bq a (p.nq D)++[Bv 3 (p.aW [hY]).name.1 v (([]:List aL).map aL.enc).length 0 .nil,(1050,.acc 142 88 8 (([]:List aL).map aL.enc))]) 1050 (sgW 4) 2000 rfl rfl rfl rfl rfl rfl rfl ⟨rfl,rfl,rfl,rfl,rfl,rfl,trivial⟩ (Vw F K A.top 3 (p.aW [hY]).name.1 v 0 .nil Z (by omega)) (fun r Bn G=>?_)
 obtain⟨e1,x,rfl,rfl,I,J⟩:=G
 refine ez (PS.bq a ((p.nq D).dX D).2++[(4,.one 50 328 [dI 3,d0,d0,d0,dN,dN,dS (p.aW [hY]).name.1,dS [],dN,dI v.1,dI v.2,.ac 1050 (e1.map aL.enc).length 8,dI x,dN,dN,dN,dN,dN,d0,d0,d0]),(1050,.acc 142 88 8 (e1.map aL.enc)),(2,.one 50 328 [d0,d0,d0,d0,dN,dN,dS [],dS [],dN,d0,d0,dN,d0,dN,dN,dN,dN,dN,d0,d0,d0])]) (cG aa ⟨aa,aa,aa,trivial⟩) ?_
 refine af ?_
 refine ai ?_
 refine ae 1 aa ?_
 refine fx 60 1050 aa aa ⟨trivial,trivial,trivial,trivial,trivial,trivial,trivial,trivial,trivial,trivial,trivial,fun _=>⟨aa,aa⟩,trivial,trivial,trivial,trivial,trivial,trivial,trivial,trivial,trivial,trivial⟩ ?_
 refine ae 1 aa (af ?_)
 refine ax ?_
 exact U _ _ ⟨_,PS.bq a _,rfl,⟨rfl,trivial⟩,{kind:=3,table:=(p.aW [hY]).name.1,valid:=v,wh:=x,exprs:=e1},a,rfl,rfl,fun h0=>by rw[hv (by rw[z];exact Y.er h0),J h0,I.eq h0];rfl⟩
theorem Ut{T:bf}(F:FT T){a:Bool}{p:PS}(hp:bd p){R:Ex→b0→br→Prop}(z:∀VE B,ki hM.res (kn (p.create)) .ret VE B→R .ret VE B):VC T (qW (fG (fG (fG (rk hM.body))))) [(0,.vp 1000 0),(2,.vp 2 0)] (PS.bq a p++[(2,.one 50 328 [d0,d0,d0,d0,dN,dN,dS [],dS [],dN,d0,d0,dN,d0,dN,dN,dN,dN,dN,d0,d0,d0])]) R:=by
 refine ai (ae 1 aa (bI (iW F hp.ok db) aa aa aa aa (af (ai (ae 1 aa (bI (Up F hp) aa aa aa aa (ae 1 aa (af ?_))))))))
 exact ax (z _ _ ⟨_,PS.bq a _,aa,⟨aa,trivial⟩,p.create.1,a,aa,aa,fun _=>aa⟩)
set_option maxHeartbeats 4000000 in
theorem Vy{T:bf}(F:FT T){a:Bool}{p:PS}(hp:bd p){R:Ex→b0→br→Prop}(G:∀VE B,ki hM.res (kn (p.alter)) .ret VE B→R .ret VE B):VC T (qW (fG (fG (fG (fG (rk hM.body)))))) [(0,.vp 1000 0),(2,.vp 2 0)] (PS.bq a p++[(2,.one 50 328 [d0,d0,d0,d0,dN,dN,dS [],dS [],dN,d0,d0,dN,d0,dN,dN,dN,dN,dN,d0,d0,d0])]) R:=by
 refine ai (ae 1 aa (bI (iW F hp.ok db) aa aa aa aa (af (ai (ae 1 aa (bI (kM F (hp.dF [db]).ok) aa aa aa aa (ae 3 aa (af ?_))))))))
 refine aM (bN (ai (ae 1 aa (bI (fD F hp.gm.ok nV) aa aa aa aa (ae 1 aa (af ?_))))))
 refine aK aa (fun A=>?_) (fun A=>?_)
 ·have J:=hp.gm.top.kw nV
  have I:p.alter=({kind:=6,table:=(p.aW [db]).name.1,jh:=[(p.gm.keyword nV).2.column.1]},(p.gm.keyword nV).2.column.2):=by unfold PS.alter;rw[aw A]
  refine ai (mV 6 14 1101 96 32 3 aa aa aa (ae 2 aa (af ?_)))
  refine iK (bo 3 aa (yw (FG F J.top) aa aa aa aa aa (bo 1 aa ?_)))
  refine eL rfl (ey (rows:=[]) (ys:=[cS (p.gm.keyword nV).2.column.1]) rfl rfl rfl (.bs (rows:=[cS (p.gm.keyword nV).2.column.1]) rfl) (bW rfl) (by simp only[bK,cC,dk,dO];omega) (fun h=>by rw[h];rfl) (fun h=>by rw[h];rfl) ?_)
  refine bo 2 aa (dc ?_)
  refine ai (ae 1 aa (fx 115 1101 aa aa ⟨trivial,trivial,trivial,trivial,trivial,trivial,trivial,trivial,trivial,trivial,trivial,trivial,trivial,trivial,fun _=>⟨aa,aa⟩,trivial,trivial,trivial,trivial,trivial,trivial,trivial⟩ (ae 1 aa (af ?_))))
  refine ax ?_
  rw[I] at G
  exact G _ _ ⟨_,PS.bq a _,aa,⟨aa,trivial⟩,{kind:=6,table:=(p.aW [db]).name.1,jh:=[(p.gm.keyword nV).2.column.1]},a,aa,aa,fun _=>aa⟩
 rw[PS.cL A]
 refine ai (ae 1 aa (bI (fD F hp.gm.ok pR) aa aa aa aa (ae 1 aa (af ?_))))
 refine aK aa (fun z=>?_) (fun z=>?_)
 ·have J:=hp.gm.top.kw pR
  have I:p.alter=({kind:=7,table:=(p.aW [db]).name.1,name:=(p.gm.keyword pR).2.name.1},(p.gm.keyword pR).2.name.2):=by unfold PS.alter;rw[aj (by rw[A];decide),aw z]
  refine ak 2 aa (bG (ae 1 aa (bI (kM F J.ok) aa aa aa aa (ae 2 aa (af ?_)))))
  refine ak 2 aa (ax ?_)
  rw[I] at G
  exact G _ _ ⟨_,PS.bq a _,aa,⟨aa,trivial⟩,{kind:=7,table:=(p.aW [db]).name.1,name:=(p.gm.keyword pR).2.name.1},a,aa,aa,fun _=>aa⟩
 rw[PS.cL z]
 have I:p.alter=(({}:Stmt),p.gm.fail 5):=by unfold PS.alter;rw[aj (by rw[A];decide),aj (by rw[z];decide)]
 refine bG (ae 1 aa ?_)
 refine bI (lX F hp.gm.ok (by decide)) rfl rfl rfl rfl ?_
 refine af (ak 2 aa (ax ?_))
 rw[I] at G
 exact G _ _ ⟨_,PS.bq a _,rfl,⟨rfl,trivial⟩,{table:=(p.aW [db]).name.1},a,rfl,rfl,fun k=>absurd k (Ma (by decide))⟩
set_option maxHeartbeats 4000000 in
theorem Wx{T:bf}(F:FT T){D:Rd}(J:ke T D){a:Bool}{p:PS}(hp:bd p)(O:a=false){R:Ex→b0→br→Prop}(U:∀VE B,ki hM.res (kn (p.qB D)) .ret VE B→R .ret VE B):VC T (qW (fG (fG (fG (fG (fG (rk hM.body))))))) [(0,.vp 1000 0),(2,.vp 2 0)] (PS.bq a p++[(2,.one 50 328 [d0,d0,d0,d0,dN,dN,dS [],dS [],dN,d0,d0,dN,d0,dN,dN,dN,dN,dN,d0,d0,d0])]) R:=by
 subst O
 have K:=hp.cT D false
 have A:=K.top.dF [jG]
 have G:=A.top.dF [jX]
 have z:=G.top.day D
 refine ai (ae 1 aa (al (pT (G0 F J hp) aa aa aa (fun r I=>?_))))
 obtain⟨s,rfl,Y⟩:=I
 refine ae 3 aa (af ?_)
 refine ai (ae 1 aa (bI (iW F K.ok jG) aa aa aa aa (af (ai (ae 1 aa (bI (iW F A.ok jX) aa aa aa aa (af (ai (ae 1 aa ?_)))))))))
 refine al (pT (O9 F J G.st) aa aa aa (fun r I=>?_))
 obtain⟨v,rfl,Z⟩:=I
 refine ae 2 aa (af ?_)
 refine ai (ae 1 aa (bI (Gk F z.top) aa aa aa aa (ae 2 aa (af ?_))))
 refine ak 2 aa (ax ?_)
 exact U _ _ ⟨_,PS.bq _ _,rfl,⟨rfl,trivial⟩,{kind:=8,cT:=s,day:=v,aJ:=((p.ri D).day D).2.hJ.1},_,rfl,rfl,fun h0=>by rw[Y (A.er (G.er (z.er (z.top.hJ.er h0)))),Z (z.top.hJ.er h0)];rfl⟩
theorem Uu{T:bf}(F:FT T){a:Bool}{p:PS}(hp:bd p){R:Ex→b0→br→Prop}(z:∀VE B,ki hM.res (kn (({kind:=9},p))) .ret VE B→R .ret VE B):VC T (qW (fG (fG (fG (fG (fG (fG (rk hM.body)))))))) [(0,.vp 1000 0),(2,.vp 2 0)] (PS.bq a p++[(2,.one 50 328 [d0,d0,d0,d0,dN,dN,dS [],dS [],dN,d0,d0,dN,d0,dN,dN,dN,dN,dN,d0,d0,d0])]) R:=by
 exact ak 2 aa (ax (z _ _ ⟨_,PS.bq a _,aa,⟨aa,trivial⟩,{kind:=9},a,aa,aa,fun _=>aa⟩))
set_option maxHeartbeats 4000000 in
theorem Wy{T:bf}(F:FT T){a:Bool}{p:PS}(hp:bd p){R:Ex→b0→br→Prop}(A:∀VE B,ki hM.res (kn (p.hold)) .ret VE B→R .ret VE B):VC T (qW (fG (fG (fG (fG (fG (fG (fG (rk hM.body))))))))) [(0,.vp 1000 0),(2,.vp 2 0)] (PS.bq a p++[(2,.one 50 328 [d0,d0,d0,d0,dN,dN,dS [],dS [],dN,d0,d0,dN,d0,dN,dN,dN,dN,dN,d0,d0,d0])]) R:=by
 refine ai (ae 1 aa (bI (xf F hp.st (-1)) aa aa aa aa (ae 3 aa (af ?_))))
 refine ai (ae 1 aa (bI (iW F (hp.number (-1)).ok hY) aa aa aa aa (af (ai (ae 1 aa (bI (xf F hp.lW.st (-1)) aa aa aa aa (ae 3 aa (af ?_))))))))
 refine ai (ae 1 aa (bI (iW F (hp.lW.top.number (-1)).ok IM) aa aa aa aa (af (aM (ai (ae 1 aa (bI (fD F hp.mq.ok xx) aa aa aa aa (af (aK aa (fun z=>?_) (fun z=>?_))))))))))
 ·have G:p.pS=(1099511627776,(p.mq.keyword xx).2):=by unfold PS.pS;rw[aw z]
  refine bG (ae 3 aa (af ?_))
  refine ak 2 aa (ax ?_)
  unfold PS.hold at A
  rw[G] at A
  exact A _ _ ⟨_,PS.bq a _,aa,⟨aa,trivial⟩,{kind:=10,n:=(p.number (-1)).1,wq:=((p.lW.number (-1)).1,_)},a,aa,aa,fun _=>aa⟩
 have G:p.pS=p.mq.number (p.lW.number (-1)).1:=by unfold PS.pS;rw[aj (by rw[z];decide)]
 rw[PS.cL z]
 refine bG (ae 4 aa (bI (xf F hp.mq.st (p.lW.number (-1)).1) aa aa aa aa (ae 3 aa (af ?_))))
 refine ak 2 aa (ax ?_)
 unfold PS.hold at A
 rw[G] at A
 exact A _ _ ⟨_,PS.bq a _,aa,⟨aa,trivial⟩,{kind:=10,n:=(p.number (-1)).1,wq:=((p.lW.number (-1)).1,_)},a,aa,aa,fun _=>aa⟩
theorem Tm{T:bf}(F:FT T){a:Bool}{p:PS}(hp:bd p){R:Ex→b0→br→Prop}(z:∀VE B,ki hM.res (kn (({kind:=11,n:=(p.number (-1)).1},(p.number (-1)).2))) .ret VE B→R .ret VE B):VC T (qW (fG (fG (fG (fG (fG (fG (fG (fG (rk hM.body)))))))))) [(0,.vp 1000 0),(2,.vp 2 0)] (PS.bq a p++[(2,.one 50 328 [d0,d0,d0,d0,dN,dN,dS [],dS [],dN,d0,d0,dN,d0,dN,dN,dN,dN,dN,d0,d0,d0])]) R:=by
 refine ai (ae 1 aa (bI (xf F hp.st (-1)) aa aa aa aa (ae 2 aa (af ?_))))
 exact ax (z _ _ ⟨_,PS.bq a _,aa,⟨aa,trivial⟩,{kind:=11,n:=(p.number (-1)).1},a,aa,aa,fun _=>aa⟩)
theorem Uv{T:bf}(F:FT T){a:Bool}{p:PS}(hp:bd p){R:Ex→b0→br→Prop}(z:∀VE B,ki hM.res (kn (({kind:=12,n:=((p.aW [oO]).number (-1)).1},((p.aW [oO]).number (-1)).2))) .ret VE B→R .ret VE B):VC T (qW (fG (fG (fG (fG (fG (fG (fG (fG (fG (rk hM.body))))))))))) [(0,.vp 1000 0),(2,.vp 2 0)] (PS.bq a p++[(2,.one 50 328 [d0,d0,d0,d0,dN,dN,dS [],dS [],dN,d0,d0,dN,d0,dN,dN,dN,dN,dN,d0,d0,d0])]) R:=by
 refine ai (ae 1 aa (bI (iW F hp.ok oO) aa aa aa aa (af (ai (ae 1 aa (bI (xf F (hp.dF [oO]).st (-1)) aa aa aa aa (ae 2 aa (af ?_))))))))
 exact ax (z _ _ ⟨_,PS.bq a _,aa,⟨aa,trivial⟩,{kind:=12,n:=((p.aW [oO]).number (-1)).1},a,aa,aa,fun _=>aa⟩)
open Go
set_option maxRecDepth 10000
set_option maxHeartbeats 4000000 in
theorem Uw{T:bf}(F:FT T){D:Rd}(Lq:ke T D){a:Bool}{p:PS}(hp:bd p)(hx:p.ex=[]){R:Ex→b0→br→Prop}(hR:∀VE B,ki hM.res (kn (p.update D)) .ret VE B→R .ret VE B):VC T (qW (fG (fG (rk hM.body)))) [(0,.vp 1000 0),(2,.vp 2 0)] (PS.bq a p++[(2,.one 50 328 [d0,d0,d0,d0,dN,dN,dS [],dS [],dN,d0,d0,dN,d0,dN,dN,dN,dN,dN,d0,d0,d0])]) R:=by
 have g1:=hp.gA.trans (hp.gA.top.period D)
 have Y:bQ p ((p.gA.period D).2.aW [kz]):=hp.x8 D
 have hE0:EG ((p.gA.period D).2.aW [kz]) [] 0:=EG.go2 ⟨fun _=>hx.symm,df _⟩ Y (by rw[pn,show∀q:PS,(q.period D).2.ex=q.ex from fun q=>ql ..,show p.gA=p.name.2.aW [kO,oq,j6] from rfl,pn,show∀q:PS,q.name.2.ex=q.ex from fun q=>ql ..])
 refine ai (ae 1 aa (bI (kM F hp.ok) aa aa aa aa (ae 3 aa (af ?_))))
 refine ai (ae 1 aa (rW (Bi:=PS.bq a p.name.2++[AV 4 p.name.1 (0,0)]) 1050 (P2 5) 2000 aa aa aa aa aa aa aa ⟨aa,aa,aa,aa,trivial⟩ (Lr F Lq hp.name.top 4 p.name.1) (fun r Bn K=>?_)))
 obtain⟨v,rfl,rfl,hv⟩:=K
 refine ez (PS.bq a (p.gA.period D).2++[(5,.one 50 328 [dI 4,d0,d0,d0,dN,dN,dS p.name.1,dS [],dN,dI v.1,dI v.2,dN,d0,dN,dN,dN,dN,dN,d0,d0,d0]),(2,.one 50 328 [d0,d0,d0,d0,dN,dN,dS [],dS [],dN,d0,d0,dN,d0,dN,dN,dN,dN,dN,d0,d0,d0])]) (cG aa ⟨aa,aa,trivial⟩) (af (ai (ae 1 aa (bI (iW F g1.ok kz) aa aa aa aa (mV 5 11 1050 142 88 8 aa aa aa (mV 5 13 1051 94 24 2 aa aa aa (af (ai (ae 1 aa ?_)))))))))
 refine rW (Bi:=PS.bq a ((p.gA.period D).2.aW [kz])++[AW 4 p.name.1 v (([]:List aL).map aL.enc).length (([]:List (List UInt8×Int)).map eM).length,(1050,.acc 142 88 8 (([]:List aL).map aL.enc)),(1051,.acc 94 24 2 (([]:List (List UInt8×Int)).map eM))]) 1050 (IZ 5) 2000 rfl rfl rfl rfl rfl rfl rfl ⟨rfl,rfl,rfl,rfl,rfl,rfl,rfl,rfl,trivial⟩ (O' F Lq Y.top 4 p.name.1 v (ss:=[]) (df _) hE0 (by omega)) (fun r Bn K=>?_)
 obtain⟨e1,x1,rfl,rfl,I,J⟩:=K
 refine ez (PS.bq a (((p.gA.period D).2.aW [kz]).set D).2++[(5,.one 50 328 [dI 4,d0,d0,d0,dN,dN,dS p.name.1,dS [],dN,dI v.1,dI v.2,.ac 1050 (e1.map aL.enc).length 8,d0,.ac 1051 ([x1].map eM).length 2,dN,dN,dN,dN,d0,d0,d0]),(1050,.acc 142 88 8 (e1.map aL.enc)),(1051,.acc 94 24 2 ([x1].map eM)),(2,.one 50 328 [d0,d0,d0,d0,dN,dN,dS [],dS [],dN,d0,d0,dN,d0,dN,dN,dN,dN,dN,d0,d0,d0])]) (cG aa ⟨aa,aa,aa,aa,trivial⟩) (af (aM (bN ?_)))
 refine d6 (fun k VE B=>∃(l ss:List (List UInt8×Int))(e:List aL)(q:PS),kv (fun p=>PS.set p D) k l q=p.o7 D∧ss.length=l.length∧(q.err=0→ss=l)∧(q.err=0→v=(p.gA.period D).1)∧l.length≤q.aJ+1∧p.aA.length≤k+q.aJ∧bQ p q∧EG q e 700∧bw [(0,.vp 1000 0),(2,.vp 2 0),(5,.vp 5 0)] VE∧bw (PS.bq a q++[(5,.one 50 328 [dI 4,d0,d0,d0,dN,dN,dS p.name.1,dS [],dN,dI v.1,dI v.2,.ac 1050 (e.map aL.enc).length 8,d0,.ac 1051 (ss.map eM).length 2,dN,dN,dN,dN,d0,d0,d0]),(1050,.acc 142 88 8 (e.map aL.enc)),(1051,.acc 94 24 2 (ss.map eM)),(2,.one 50 328 [d0,d0,d0,d0,dN,dN,dS [],dS [],dN,d0,d0,dN,d0,dN,dN,dN,dN,dN,d0,d0,d0])]) B) ?_ (k:=p.aA.length) ⟨[(((p.gA.period D).2.aW [kz]).set D).1],[x1],e1,(((p.gA.period D).2.aW [kz]).set D).2,by unfold PS.o7 jc;rw[Y.aA],rfl,fun h0=>by rw[J h0],fun h0=>hv ((g1.top.dF [kz]).er ((Y.top.set D).er h0)),mG (df _),jQ _ _,Y.trans (Y.top.set D),I.dz (by omega),⟨rfl,rfl,rfl,trivial⟩,cG rfl ⟨rfl,rfl,rfl,rfl,trivial⟩⟩
 clear J I
 rintro k VE B⟨l,ss,e,q,z,Iu,Z,P3,jj,hk,G,hE,hV,hB⟩
 refine eA (PS.bq a q++[(5,.one 50 328 [dI 4,d0,d0,d0,dN,dN,dS p.name.1,dS [],dN,dI v.1,dI v.2,.ac 1050 (e.map aL.enc).length 8,d0,.ac 1051 (ss.map eM).length 2,dN,dN,dN,dN,d0,d0,d0]),(1050,.acc 142 88 8 (e.map aL.enc)),(1051,.acc 94 24 2 (ss.map eM)),(2,.one 50 328 [d0,d0,d0,d0,dN,dN,dS [],dS [],dN,d0,d0,dN,d0,dN,dN,dN,dN,dN,d0,d0,d0])]) hB ?_
 have hB:bw (PS.bq a q++[(5,.one 50 328 [dI 4,d0,d0,d0,dN,dN,dS p.name.1,dS [],dN,dI v.1,dI v.2,.ac 1050 (e.map aL.enc).length 8,d0,.ac 1051 (ss.map eM).length 2,dN,dN,dN,dN,d0,d0,d0]),(1050,.acc 142 88 8 (e.map aL.enc)),(1051,.acc 94 24 2 (ss.map eM)),(2,.one 50 328 [d0,d0,d0,d0,dN,dN,dS [],dS [],dN,d0,d0,dN,d0,dN,dN,dN,dN,dN,d0,d0,d0])]) (PS.bq a q++[(5,.one 50 328 [dI 4,d0,d0,d0,dN,dN,dS p.name.1,dS [],dN,dI v.1,dI v.2,.ac 1050 (e.map aL.enc).length 8,d0,.ac 1051 (ss.map eM).length 2,dN,dN,dN,dN,d0,d0,d0]),(1050,.acc 142 88 8 (e.map aL.enc)),(1051,.acc 94 24 2 (ss.map eM)),(2,.one 50 328 [d0,d0,d0,d0,dN,dN,dS [],dS [],dN,d0,d0,dN,d0,dN,dN,dN,dN,dN,d0,d0,d0])]):=cG rfl ⟨rfl,rfl,rfl,rfl,trivial⟩
 have gi:q.aA.length=p.aA.length:=by rw[G.aA]
 have fu:=G.ok.dY
 have yz:=G.ok.lt
 refine dx _ _ hV hB (aM (ai (ae 1 aa (bI (mr F G.ok cF) aa aa aa aa (af (aK aa (fun A=>?_) (fun A=>?_)))))))
 ·have O:q.err=0:=KF A
  have h2:=G.top.sign cF
  have U:=ov G.ok A
  obtain⟨k,rfl⟩:∃k',k=k'+1:=⟨k-1,by have:=U.2;omega⟩
  rw[ow A] at z
  have hz:EG (q.sign cF).2 e 0:=(hE.zero G.ok O).go2 h2 (oy ..)
  generalize (q.sign cF).2=q1 at h2 U z hz⊢
  have g2:=h2.top.set D
  have ga:=g2.aJ
  have gl:=U.1
  refine aU (bN (bG (ae 1 aa ?_)))
  refine rW (Bi:=PS.bq a q1++[AW 4 p.name.1 v (e.map aL.enc).length (ss.map eM).length,(1050,.acc 142 88 8 (e.map aL.enc)),(1051,.acc 94 24 2 (ss.map eM))]) 1050 (IZ 5) 2000 rfl rfl rfl rfl rfl rfl rfl ⟨rfl,rfl,rfl,rfl,rfl,rfl,rfl,rfl,trivial⟩ (O' F Lq h2.top 4 p.name.1 v (ss:=ss) (by omega) hz (by omega)) (fun r Bn K=>?_)
  obtain⟨e2,x2,rfl,rfl,hE2,wB⟩:=K
  refine ez (PS.bq a (q1.set D).2++[(5,.one 50 328 [dI 4,d0,d0,d0,dN,dN,dS p.name.1,dS [],dN,dI v.1,dI v.2,.ac 1050 (e2.map aL.enc).length 8,d0,.ac 1051 ((ss++[x2]).map eM).length 2,dN,dN,dN,dN,d0,d0,d0]),(1050,.acc 142 88 8 (e2.map aL.enc)),(1051,.acc 94 24 2 ((ss++[x2]).map eM)),(2,.one 50 328 [d0,d0,d0,d0,dN,dN,dS [],dS [],dN,d0,d0,dN,d0,dN,dN,dN,dN,dN,d0,d0,d0])]) (cG aa ⟨aa,aa,aa,aa,trivial⟩) (af ?_)
  refine⟨k,fZ k,l++[(q1.set D).1],ss++[x2],e2,(q1.set D).2,z,?_,?_,fun _=>P3 O,?_,?_,G.trans (h2.trans g2),hE2.dz (by omega),⟨rfl,rfl,rfl,trivial⟩,?_⟩
  ·rw[bK,bK,Iu];rfl
  ·intro h0;rw[wB h0,Z O]
  ·rw[bK,eK];omega
  ·omega
  exact cG aa ⟨aa,aa,aa,aa,trivial⟩
 rw[ox A] at z
 rw[PS.ig A]
 have gw:=G.top.dX D
 refine dM (ai (ae 1 aa ?_))
 refine rW (Bi:=PS.bq a q++[AX 4 p.name.1 v (e.map aL.enc).length 0 (ss.map eM),(1050,.acc 142 88 8 (e.map aL.enc)),(1051,.acc 94 24 2 (ss.map eM))]) 1050 (IZ 5) 2000 rfl rfl rfl rfl rfl rfl rfl ⟨rfl,rfl,rfl,rfl,rfl,rfl,rfl,rfl,trivial⟩ (Ur F Lq G.top 4 p.name.1 v 0 (ss.map eM) hE (by omega)) (fun r Bn K=>?_)
 obtain⟨e1,x,rfl,rfl,I,J⟩:=K
 refine ez (PS.bq a (q.dX D).2++[(5,.one 50 328 [dI 4,d0,d0,d0,dN,dN,dS p.name.1,dS [],dN,dI v.1,dI v.2,.ac 1050 (e1.map aL.enc).length 8,dI x,.ac 1051 (ss.map eM).length 2,dN,dN,dN,dN,d0,d0,d0]),(1050,.acc 142 88 8 (e1.map aL.enc)),(1051,.acc 94 24 2 (ss.map eM)),(2,.one 50 328 [d0,d0,d0,d0,dN,dN,dS [],dS [],dN,d0,d0,dN,d0,dN,dN,dN,dN,dN,d0,d0,d0])]) (cG aa ⟨aa,aa,aa,aa,trivial⟩) (af (ai (ae 1 aa ?_)))
 refine fx 79 1050 rfl rfl ⟨trivial,trivial,trivial,trivial,trivial,trivial,trivial,trivial,trivial,trivial,trivial,fun _=>⟨rfl,rfl⟩,trivial,fun h=>absurd h (by decide),trivial,trivial,trivial,trivial,trivial,trivial,trivial,trivial⟩ ?_
 refine fx 79 1051 aa aa ⟨trivial,trivial,trivial,trivial,trivial,trivial,trivial,trivial,trivial,trivial,trivial,trivial,trivial,fun _=>⟨aa,aa⟩,trivial,trivial,trivial,trivial,trivial,trivial,trivial,trivial⟩ (ae 1 aa (af ?_))
 refine ax ?_
 have hm:p.update D=({kind:=4,table:=p.name.1,valid:=(p.gA.period D).1,mR:=l,wh:=(q.dX D).1,exprs:=(q.dX D).2.ex},(q.dX D).2):=by unfold PS.update;rw[←z]
 rw[hm] at hR
 exact hR _ _ ⟨_,PS.bq a _,rfl,⟨rfl,trivial⟩,{kind:=4,table:=p.name.1,valid:=v,mR:=ss,wh:=x,exprs:=e1},a,rfl,rfl,fun h0=>by rw[J h0,I.eq h0,Z (gw.er h0),P3 (gw.er h0)]⟩
open Go
set_option maxRecDepth 10000
def Vz:List (List UInt8):=[oh,og,oi,oe]
def yd(i:Nat):List UInt8:=(Vz[i]?).getD []
def PS.mu(p:PS):Nat→Int×PS
 |0=>(Int.ofNat 1,p)
 |i+1=>if(p.mu i).1=1 then(if((p.mu i).2.keyword (yd i)).1=true then(Int.ofNat 2+(i:Nat),((p.mu i).2.keyword (yd i)).2) else p.mu i) else p.mu i
variable{p q:PS}
theorem zD{i:Nat}{g:Int}(h:p.mu i=(g,q))(z:g=1)(hk:(q.keyword (yd i)).1=true):p.mu (i+1)=(Int.ofNat 2+(i:Nat),(q.keyword (yd i)).2):=by
 unfold PS.mu;rw[h,aw z,aw hk]
theorem zE{i:Nat}{g:Int}(h:p.mu i=(g,q))(z:g=1)(hk:(q.keyword (yd i)).1=false):p.mu (i+1)=(g,q):=by
 unfold PS.mu;rw[h,aw z,aj (by rw[hk];decide)]
theorem vH{i:Nat}{g:Int}(h:p.mu i=(g,q))(z:¬g=1):p.mu (i+1)=(g,q):=by
 unfold PS.mu;rw[h,aj z]
theorem VA(p:PS):p.mu 4=p.mode:=by
 have h0:p.mu 0=(1,p):=rfl
 unfold PS.mode
 cases I:(p.keyword oh).1
 ·have G:=zE h0 rfl I
  cases h2:(p.keyword og).1
  ·have A:=zE G rfl h2
   cases J:(p.keyword oi).1
   ·have z:=zE A rfl J
    cases K:(p.keyword oe).1
    ·rw[zE z rfl K];simp
    rw[zD z rfl K];simp;rfl
   have z:=zD A rfl J
   rw[vH z (by decide)];simp;rfl
  have A:=zD G rfl h2
  have z:=vH A (by decide)
  rw[vH z (by decide)];simp;rfl
 have G:=zD h0 rfl I
 have A:=vH G (by decide)
 have z:=vH A (by decide)
 rw[vH z (by decide)];simp;rfl
set_option maxHeartbeats 4000000 in
theorem Ux{T:bf}(F:FT T){D:Rd}(Lq:ke T D){a:Bool}{p:PS}(hp:bd p){R:Ex→b0→br→Prop}(K:∀VE B,ki hM.res (kn (p.query D)) .ret VE B→R .ret VE B):VC T (Vx hM.body) [(0,.vp 1000 0),(2,.vp 2 0)] (PS.bq a p++[(2,.one 50 328 [d0,d0,d0,d0,dN,dN,dS [],dS [],dN,d0,d0,dN,d0,dN,dN,dN,dN,dN,d0,d0,d0])]) R:=by
 refine ak 3 aa (ak 3 aa (aM (ak 1 aa (bN ?_))))
 refine d6 (fun k VE B=>∃(i:Nat)(g:Int)(q:PS),i≤4∧k=4-i∧p.mu i=(g,q)∧bQ p q∧bw [(0,.vp 1000 0),(2,.vp 2 0),(9,.vp 9 0),(10,.vp 10 0),(11,dI (i:Nat))] VE∧bw (PS.bq a q++[(9,.one 50 328 [dI 1,dI g,dI (-1),d0,dN,dN,dS [],dS [],dN,d0,d0,dN,d0,dN,dN,dN,dN,dN,d0,d0,d0]),(10,.one 200 64 [VV.d (cJ oh),dS og,dS oi,dS oe]),(2,.one 50 328 [d0,d0,d0,d0,dN,dN,dS [],dS [],dN,d0,d0,dN,d0,dN,dN,dN,dN,dN,d0,d0,d0])]) B) ?_ (k:=4) ⟨0,Int.ofNat 1,p,by decide,rfl,rfl,.refl hp,⟨rfl,rfl,rfl,rfl,rfl,trivial⟩,cG rfl ⟨rfl,rfl,rfl,trivial⟩⟩
 rintro k VE B⟨i,g,q,hi,rfl,U,O,hV,hB⟩
 refine eA (PS.bq a q++[(9,.one 50 328 [dI 1,dI g,dI (-1),d0,dN,dN,dS [],dS [],dN,d0,d0,dN,d0,dN,dN,dN,dN,dN,d0,d0,d0]),(10,.one 200 64 [VV.d (cJ oh),dS og,dS oi,dS oe]),(2,.one 50 328 [d0,d0,d0,d0,dN,dN,dS [],dS [],dN,d0,d0,dN,d0,dN,dN,dN,dN,dN,d0,d0,d0])]) hB ?_
 have hB:bw (PS.bq a q++[(9,.one 50 328 [dI 1,dI g,dI (-1),d0,dN,dN,dS [],dS [],dN,d0,d0,dN,d0,dN,dN,dN,dN,dN,d0,d0,d0]),(10,.one 200 64 [VV.d (cJ oh),dS og,dS oi,dS oe]),(2,.one 50 328 [d0,d0,d0,d0,dN,dN,dS [],dS [],dN,d0,d0,dN,d0,dN,dN,dN,dN,dN,d0,d0,d0])]) (PS.bq a q++[(9,.one 50 328 [dI 1,dI g,dI (-1),d0,dN,dN,dS [],dS [],dN,d0,d0,dN,d0,dN,dN,dN,dN,dN,d0,d0,d0]),(10,.one 200 64 [VV.d (cJ oh),dS og,dS oi,dS oe]),(2,.one 50 328 [d0,d0,d0,d0,dN,dN,dS [],dS [],dN,d0,d0,dN,d0,dN,dN,dN,dN,dN,d0,d0,d0])]):=cG rfl ⟨rfl,rfl,rfl,trivial⟩
 refine dx _ _ hV hB (aM (ak 2 aa (aK aa (fun I=>?_) (fun I=>?_))))
 ·have hi4:i<4:=by simp at I;omega
  obtain⟨s,Y,hk⟩:∃s,yd i=s∧[VV.d (cJ oh),.d (cJ og),.d (cJ oi),.d (cJ oe)][0+i*1]?=some (.d (cJ s)):=by
   rcases(by omega:i=0∨i=1∨i=2∨i=3) with rfl|rfl|rfl|rfl<;>exact⟨_,rfl,rfl⟩
  refine aU (aM (bN (ai (ae 4 aa (da (g:=re) aa (fun z=>?_) (fun z=>?_))))))
  ·have hg:g=1:=by simpa using z
   refine au aa (z) (bM aa ?_)
   refine au aa (z) (bM aa ?_)
   refine au aa (z) (om aa aa hi4 ?_)
   refine au aa (z) (c8 aa aa hk ?_)
   refine au aa (z) (vZ (fD F O.ok s) aa aa aa aa ?_)
   refine al (cU aa (z) aa ?_)
   refine af (aK aa (fun A=>?_) (fun A=>?_))
   ·have Z:=zD U hg (by rw[Y];exact A)
    rw[Y] at Z
    have J:=O.trans (O.top.kw s)
    refine bG (ae 1 aa (al (Cm aa aa ?_)))
    rw[wrap_i64 (by simp only[bb];omega) (by simp only[bb];omega)]
    refine ae 2 aa (af ?_)
    refine bG (ae 1 aa ?_)
    refine al (cX rfl rfl (by omega) ?_)
    refine ae 1 aa (af ?_)
    exact⟨4-(i+1),by omega,i+1,_,_,by omega,rfl,Z,J,⟨rfl,rfl,rfl,rfl,rfl,trivial⟩,cG rfl ⟨rfl,rfl,rfl,trivial⟩⟩
   have Z:=zE U hg (by rw[Y];exact A)
   have J:=O
   rw[PS.cL A]
   refine aU (bG (ae 1 aa ?_))
   refine al (cX rfl rfl (by omega) ?_)
   refine ae 1 aa (af ?_)
   exact⟨4-(i+1),by omega,i+1,_,_,by omega,rfl,Z,J,⟨rfl,rfl,rfl,rfl,rfl,trivial⟩,cG rfl ⟨rfl,rfl,rfl,trivial⟩⟩
  have hg:¬g=1:=by simpa using z
  have Z:=vH U hg
  have J:=O
  refine aS aa (z) (aS aa (z) (aS aa (z) (aS aa (z) (aS aa (z) (al (cK aa (z) aa ?_))))))
  refine af (eJ aa aa (aU (bG (ae 1 aa ?_))))
  refine al (cX rfl rfl (by omega) ?_)
  refine ae 1 aa (af ?_)
  exact⟨4-(i+1),by omega,i+1,_,_,by omega,rfl,Z,J,⟨rfl,rfl,rfl,rfl,rfl,trivial⟩,cG rfl ⟨rfl,rfl,rfl,trivial⟩⟩
 have h4:i=4:=by simp at I;omega
 subst h4
 rw[VA] at U
 have g1:=O.top.cT D true
 refine dM (ak 4 aa (ai (ae 1 aa (al (pT (G0 (a:=true) F Lq O.top) aa aa aa (fun r hr=>?_))))))
 obtain⟨s,rfl,Y⟩:=hr
 refine ae 2 aa (af ?_)
 refine aM (ai (ae 1 aa (bI (fD F g1.ok jG) aa aa aa aa (af (aK aa (fun G=>?_) (fun G=>?_))))))
 ·have hd:(q.cT D true).2.gy D=(((q.cT D true).2.keyword jG).2.aW [jX]).day D:=aw G
  have g2:=g1.top.kw jG
  have g3:=g2.top.dF [jX]
  have g4:=g3.top.day D
  have g5:=g4.top.hJ
  refine ai (ae 1 aa (bI (iW F g2.ok jX) aa aa aa aa (af (bG (ae 1 aa (al (pT (O9 F Lq g3.st) aa aa aa (fun r hr=>?_))))))))
  obtain⟨v,rfl,hv⟩:=hr
  refine ae 2 aa (af ?_)
  refine ai (ae 1 aa (bI (Gk F g4.top) aa aa aa aa (ae 2 aa (af ?_))))
  refine ak 2 aa (ax ?_)
  unfold PS.query at K
  rw[U] at K
  rw[show(((g,q):Int×PS)).2=q from rfl,hd] at K
  exact K _ _ ⟨_,PS.bq _ _,rfl,⟨rfl,trivial⟩,{kind:=1,mode:=g,day:=v,aJ:=_,cT:=s},_,rfl,rfl,fun h0=>by rw[Y (g2.er (g3.er (g4.er (g5.er h0)))),hv (g5.er h0)]⟩
 have hd:(q.cT D true).2.gy D=(-1,(q.cT D true).2):=aj (by rw[G];decide)
 rw[PS.cL G]
 have g5:=g1.top.hJ
 refine aU (ai (ae 1 aa (bI (Gk F g1.top) aa aa aa aa (ae 2 aa (af ?_)))))
 refine ak 2 aa (ax ?_)
 unfold PS.query at K
 rw[U] at K
 rw[show(((g,q):Int×PS)).2=q from rfl,hd] at K
 exact K _ _ ⟨_,PS.bq _ _,rfl,⟨rfl,trivial⟩,{kind:=1,mode:=g,day:= -1,aJ:=_,cT:=s},_,rfl,rfl,fun h0=>by rw[Y (g5.er h0)]⟩
open Go
set_option maxRecDepth 10000
set_option maxHeartbeats 4000000 in
theorem RB{T:bf}(F:FT T){D:Rd}(Lq:ke T D){p:PS}(hp:bd p)(hx:p.ex=[]):bX T 99 [.vp 1000 0] (PS.bq false p) (kn (p.cV D)):=by
 refine cr F.f99 aa ?_
 refine ak 1 aa ?_
 refine aM ?_
 refine bN ?_
 refine ai ?_
 refine ae 1 aa ?_
 refine bI (fD F hp.ok r6) aa aa aa aa ?_
 refine ae 1 aa (af ?_)
 refine aK aa (fun z=>?_) (fun z=>?_)
 ·have K:p.cV D=(p.keyword r6).2.insert D:=by unfold PS.cV;rw[aw z]
  refine dx [(0,.vp 1000 0),(2,.vp 2 0)] (PS.bq false (p.keyword r6).2++[(2,.one 50 328 [d0,d0,d0,d0,dN,dN,dS [],dS [],dN,d0,d0,dN,d0,dN,dN,dN,dN,dN,d0,d0,d0])]) ⟨aa,aa,trivial⟩ (cG aa ⟨aa,trivial⟩) ?_
  refine Uq F Lq (hp.kw r6).top ?_
  intro VE B k
  show ki hM.res (kn (p.cV D)) .ret VE B
  rw[K]
  exact k
 rw[PS.cL z]
 refine ai ?_
 refine ae 1 aa ?_
 refine bI (fD F hp.ok r7) aa aa aa aa ?_
 refine ae 1 aa (af ?_)
 refine aK aa (fun G=>?_) (fun G=>?_)
 ·have K:p.cV D=(p.keyword r7).2.remove D:=by unfold PS.cV;rw[aj (by rw[z];decide),aw G]
  refine dx [(0,.vp 1000 0),(2,.vp 2 0)] (PS.bq false (p.keyword r7).2++[(2,.one 50 328 [d0,d0,d0,d0,dN,dN,dS [],dS [],dN,d0,d0,dN,d0,dN,dN,dN,dN,dN,d0,d0,d0])]) ⟨aa,aa,trivial⟩ (cG aa ⟨aa,trivial⟩) ?_
  refine Us F Lq (hp.kw r7).top ((mi ..).trans hx) ?_
  intro VE B k
  show ki hM.res (kn (p.cV D)) .ret VE B
  rw[K]
  exact k
 rw[PS.cL G]
 refine ai ?_
 refine ae 1 aa ?_
 refine bI (fD F hp.ok r8) aa aa aa aa ?_
 refine ae 1 aa (af ?_)
 refine aK aa (fun I=>?_) (fun I=>?_)
 ·have K:p.cV D=(p.keyword r8).2.update D:=by unfold PS.cV;rw[aj (by rw[z];decide),aj (by rw[G];decide),aw I]
  refine dx [(0,.vp 1000 0),(2,.vp 2 0)] (PS.bq false (p.keyword r8).2++[(2,.one 50 328 [d0,d0,d0,d0,dN,dN,dS [],dS [],dN,d0,d0,dN,d0,dN,dN,dN,dN,dN,d0,d0,d0])]) ⟨aa,aa,trivial⟩ (cG aa ⟨aa,trivial⟩) ?_
  refine Uw F Lq (hp.kw r8).top ((mi ..).trans hx) ?_
  intro VE B k
  show ki hM.res (kn (p.cV D)) .ret VE B
  rw[K]
  exact k
 rw[PS.cL I]
 refine ai ?_
 refine ae 1 aa ?_
 refine bI (fD F hp.ok r9) aa aa aa aa ?_
 refine ae 1 aa (af ?_)
 refine aK aa (fun O=>?_) (fun O=>?_)
 ·have K:p.cV D=(p.keyword r9).2.create:=by unfold PS.cV;rw[aj (by rw[z];decide),aj (by rw[G];decide),aj (by rw[I];decide),aw O]
  refine dx [(0,.vp 1000 0),(2,.vp 2 0)] (PS.bq false (p.keyword r9).2++[(2,.one 50 328 [d0,d0,d0,d0,dN,dN,dS [],dS [],dN,d0,d0,dN,d0,dN,dN,dN,dN,dN,d0,d0,d0])]) ⟨aa,aa,trivial⟩ (cG aa ⟨aa,trivial⟩) ?_
  refine Ut F (hp.kw r9).top ?_
  intro VE B k
  show ki hM.res (kn (p.cV D)) .ret VE B
  rw[K]
  exact k
 rw[PS.cL O]
 refine ai ?_
 refine ae 1 aa ?_
 refine bI (fD F hp.ok sh) aa aa aa aa ?_
 refine ae 1 aa (af ?_)
 refine aK aa (fun Y=>?_) (fun Y=>?_)
 ·have K:p.cV D=(p.keyword sh).2.alter:=by unfold PS.cV;rw[aj (by rw[z];decide),aj (by rw[G];decide),aj (by rw[I];decide),aj (by rw[O];decide),aw Y]
  refine dx [(0,.vp 1000 0),(2,.vp 2 0)] (PS.bq false (p.keyword sh).2++[(2,.one 50 328 [d0,d0,d0,d0,dN,dN,dS [],dS [],dN,d0,d0,dN,d0,dN,dN,dN,dN,dN,d0,d0,d0])]) ⟨aa,aa,trivial⟩ (cG aa ⟨aa,trivial⟩) ?_
  refine Vy F (hp.kw sh).top ?_
  intro VE B k
  show ki hM.res (kn (p.cV D)) .ret VE B
  rw[K]
  exact k
 rw[PS.cL Y]
 refine ai ?_
 refine ae 1 aa ?_
 refine bI (fD F hp.ok sq) aa aa aa aa ?_
 refine ae 1 aa (af ?_)
 refine aK aa (fun A=>?_) (fun A=>?_)
 ·have K:p.cV D=(p.keyword sq).2.qB D:=by unfold PS.cV;rw[aj (by rw[z];decide),aj (by rw[G];decide),aj (by rw[I];decide),aj (by rw[O];decide),aj (by rw[Y];decide),aw A]
  refine dx [(0,.vp 1000 0),(2,.vp 2 0)] (PS.bq false (p.keyword sq).2++[(2,.one 50 328 [d0,d0,d0,d0,dN,dN,dS [],dS [],dN,d0,d0,dN,d0,dN,dN,dN,dN,dN,d0,d0,d0])]) ⟨aa,aa,trivial⟩ (cG aa ⟨aa,trivial⟩) ?_
  refine Wx F Lq (hp.kw sq).top aa ?_
  intro VE B k
  show ki hM.res (kn (p.cV D)) .ret VE B
  rw[K]
  exact k
 rw[PS.cL A]
 refine ai ?_
 refine ae 1 aa ?_
 refine bI (fD F hp.ok sa) aa aa aa aa ?_
 refine ae 1 aa (af ?_)
 refine aK aa (fun J=>?_) (fun J=>?_)
 ·have K:p.cV D=({kind:=9},(p.keyword sa).2):=by unfold PS.cV;rw[aj (by rw[z];decide),aj (by rw[G];decide),aj (by rw[I];decide),aj (by rw[O];decide),aj (by rw[Y];decide),aj (by rw[A];decide),aw J]
  refine dx [(0,.vp 1000 0),(2,.vp 2 0)] (PS.bq false (p.keyword sa).2++[(2,.one 50 328 [d0,d0,d0,d0,dN,dN,dS [],dS [],dN,d0,d0,dN,d0,dN,dN,dN,dN,dN,d0,d0,d0])]) ⟨aa,aa,trivial⟩ (cG aa ⟨aa,trivial⟩) ?_
  refine Uu F (hp.kw sa).top ?_
  intro VE B k
  show ki hM.res (kn (p.cV D)) .ret VE B
  rw[K]
  exact k
 rw[PS.cL J]
 refine ai ?_
 refine ae 1 aa ?_
 refine bI (fD F hp.ok sr) aa aa aa aa ?_
 refine ae 1 aa (af ?_)
 refine aK aa (fun U=>?_) (fun U=>?_)
 ·have K:p.cV D=(p.keyword sr).2.hold:=by unfold PS.cV;rw[aj (by rw[z];decide),aj (by rw[G];decide),aj (by rw[I];decide),aj (by rw[O];decide),aj (by rw[Y];decide),aj (by rw[A];decide),aj (by rw[J];decide),aw U]
  refine dx [(0,.vp 1000 0),(2,.vp 2 0)] (PS.bq false (p.keyword sr).2++[(2,.one 50 328 [d0,d0,d0,d0,dN,dN,dS [],dS [],dN,d0,d0,dN,d0,dN,dN,dN,dN,dN,d0,d0,d0])]) ⟨aa,aa,trivial⟩ (cG aa ⟨aa,trivial⟩) ?_
  refine Wy F (hp.kw sr).top ?_
  intro VE B k
  show ki hM.res (kn (p.cV D)) .ret VE B
  rw[K]
  exact k
 rw[PS.cL U]
 refine ai ?_
 refine ae 1 aa ?_
 refine bI (fD F hp.ok pA) aa aa aa aa ?_
 refine ae 1 aa (af ?_)
 refine aK aa (fun Z=>?_) (fun Z=>?_)
 ·have K:p.cV D=({kind:=11,n:=((p.keyword pA).2.number (-1)).1},((p.keyword pA).2.number (-1)).2):=by unfold PS.cV;rw[aj (by rw[z];decide),aj (by rw[G];decide),aj (by rw[I];decide),aj (by rw[O];decide),aj (by rw[Y];decide),aj (by rw[A];decide),aj (by rw[J];decide),aj (by rw[U];decide),aw Z]
  refine dx [(0,.vp 1000 0),(2,.vp 2 0)] (PS.bq false (p.keyword pA).2++[(2,.one 50 328 [d0,d0,d0,d0,dN,dN,dS [],dS [],dN,d0,d0,dN,d0,dN,dN,dN,dN,dN,d0,d0,d0])]) ⟨aa,aa,trivial⟩ (cG aa ⟨aa,trivial⟩) ?_
  refine Tm F (hp.kw pA).top ?_
  intro VE B k
  show ki hM.res (kn (p.cV D)) .ret VE B
  rw[K]
  exact k
 rw[PS.cL Z]
 refine ai ?_
 refine ae 1 aa ?_
 refine bI (fD F hp.ok pF) aa aa aa aa ?_
 refine ae 1 aa (af ?_)
 refine aK aa (fun EP=>?_) (fun EP=>?_)
 ·have K:p.cV D=({kind:=12,n:=(((p.keyword pF).2.aW [oO]).number (-1)).1},(((p.keyword pF).2.aW [oO]).number (-1)).2):=by unfold PS.cV;rw[aj (by rw[z];decide),aj (by rw[G];decide),aj (by rw[I];decide),aj (by rw[O];decide),aj (by rw[Y];decide),aj (by rw[A];decide),aj (by rw[J];decide),aj (by rw[U];decide),aj (by rw[Z];decide),aw EP]
  refine dx [(0,.vp 1000 0),(2,.vp 2 0)] (PS.bq false (p.keyword pF).2++[(2,.one 50 328 [d0,d0,d0,d0,dN,dN,dS [],dS [],dN,d0,d0,dN,d0,dN,dN,dN,dN,dN,d0,d0,d0])]) ⟨aa,aa,trivial⟩ (cG aa ⟨aa,trivial⟩) ?_
  refine Uv F (hp.kw pF).top ?_
  intro VE B k
  show ki hM.res (kn (p.cV D)) .ret VE B
  rw[K]
  exact k
 rw[PS.cL EP]
 refine aU ?_
 have K:p.cV D=p.query D:=by unfold PS.cV;rw[aj (by rw[z];decide),aj (by rw[G];decide),aj (by rw[I];decide),aj (by rw[O];decide),aj (by rw[Y];decide),aj (by rw[A];decide),aj (by rw[J];decide),aj (by rw[U];decide),aj (by rw[Z];decide),aj (by rw[EP];decide)]
 refine dx [(0,.vp 1000 0),(2,.vp 2 0)] (PS.bq false p++[(2,.one 50 328 [d0,d0,d0,d0,dN,dN,dS [],dS [],dN,d0,d0,dN,d0,dN,dN,dN,dN,dN,d0,d0,d0])]) ⟨aa,aa,trivial⟩ (cG aa ⟨aa,trivial⟩) ?_
 refine Ux F Lq hp ?_
 intro VE B k
 show ki hM.res (kn (p.cV D)) .ret VE B
 rw[K]
 exact k
end Go.Ev.Pp
