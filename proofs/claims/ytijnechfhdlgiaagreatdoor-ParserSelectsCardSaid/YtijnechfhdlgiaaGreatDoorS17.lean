/- Part 17 of rules for walks through the code of a program, and of such walks; what each part proves is said by its theorems. -/
import Derived.Test.YtijnechfhdlgiaaGreatDoorS11
import Derived.Test.YtijnechfhdlgiaaGreatDoorS16
set_option linter.unusedVariables false
set_option linter.unusedSimpArgs false
namespace Go.Ev.Pp
open Go
set_option maxRecDepth 10000
set_option maxHeartbeats 8000000 in
theorem UY{T:bd}(F:FT T){p:PS}(hp:bf p):bY T 125 [.vp 1000 0] (PS.bi p) fun r Bn=>r=ez p.create.1.enc∧Bn=PS.bi p.create.2:=by
 refine cw F.ZW aa ?_
 have ou:∀x:PS,bf x→bP x (PS.column x).2:=fun _ h=>h.column
 refine al 1 aa (ai (ae 2 aa (gq 6 6 aa aa (fun _=>⟨aa,aa⟩) ?_)))
 refine bh (aU F hp.ok [dh] (by decide)) rfl rfl rfl rfl rfl ?_
 refine af (ai (ae 1 aa (bh (name F (hp.dK [dh]).st) aa aa aa aa aa (ae 1 aa (sa 10 14 1114 96 32 3 aa aa aa (sa 10 16 1116 98 64 3 aa aa aa (sa 10 17 1117 100 32 2 aa aa aa (ae 2 aa (af ?_)))))))))
 refine ai (ae 1 aa (bh (bA F (hp.dK [dh]).top.name.ok cq) aa aa aa aa aa (af (eZ (bk 3 aa (m7 (Hp F hp.AN.top) aa aa aa aa aa aa (bk 1 aa (eo aa (dZ (rows:=[]) (ys:=[cV ((p.aU [dh]).name.2.bA cq).column.1]) aa aa aa (.bs (rows:=[cV ((p.aU [dh]).name.2.bA cq).column.1]) aa) (bO aa) (bO aa) (fun _=>aa) (fun _=>aa) ?_)))))))))
 refine bk 2 aa (c6 ?_)
 refine aK (bJ (dY (fun k VE B=>∃(l:List _)(q:PS),kE PS.column k l q=(jk PS.column ((p.aU [dh]).name.2.bA cq))∧l≠[]∧l.length≤q.aJ+1∧((p.aU [dh]).name.2.bA cq).aA.length≤k+q.aJ∧bP ((p.aU [dh]).name.2.bA cq) q∧br [(0,.vp 1000 0),(2,.vp 2 0),(3,.vp 3 0)] VE∧br (PS.bi q++[(3,.one 50 328 [dI 5,d0,d0,d0,dN,dN,dS (p.aU [dh]).name.1,dS [],dN,d0,d0,dN,d0,dN,.ac 1114 (l.map cV).length 3,dN,.ac 1116 0 3,.ac 1117 0 2,d0,d0,d0]),(1114,.acc 96 32 3 (l.map cV)),(1116,.acc 98 64 3 []),(1117,.acc 100 32 2 []),(2,.one 50 328 [d0,d0,d0,d0,dN,dN,dS [],dS [],dN,d0,d0,dN,d0,dN,dN,dN,dN,dN,d0,d0,d0])]) B) ?_ (k:=((p.aU [dh]).name.2.bA cq).aA.length) ⟨[(PS.column ((p.aU [dh]).name.2.bA cq)).1],(PS.column ((p.aU [dh]).name.2.bA cq)).2,aa,pX _ _,mR (da _),j0 _ _,ou _ hp.AN.top,⟨aa,aa,aa,trivial⟩,dq aa aa ⟨aa,aa,aa,aa,aa,trivial⟩⟩))
 rintro k VE B⟨l,q,z,lK,js,hk,A,hV,Z⟩
 refine eD (PS.bi q++[(3,.one 50 328 [dI 5,d0,d0,d0,dN,dN,dS (p.aU [dh]).name.1,dS [],dN,d0,d0,dN,d0,dN,.ac 1114 (l.map cV).length 3,dN,.ac 1116 0 3,.ac 1117 0 2,d0,d0,d0]),(1114,.acc 96 32 3 (l.map cV)),(1116,.acc 98 64 3 []),(1117,.acc 100 32 2 []),(2,.one 50 328 [d0,d0,d0,d0,dN,dN,dS [],dS [],dN,d0,d0,dN,d0,dN,dN,dN,dN,dN,d0,d0,d0])]) Z ?_
 have Z:br (PS.bi q++[(3,.one 50 328 [dI 5,d0,d0,d0,dN,dN,dS (p.aU [dh]).name.1,dS [],dN,d0,d0,dN,d0,dN,.ac 1114 (l.map cV).length 3,dN,.ac 1116 0 3,.ac 1117 0 2,d0,d0,d0]),(1114,.acc 96 32 3 (l.map cV)),(1116,.acc 98 64 3 []),(1117,.acc 100 32 2 []),(2,.one 50 328 [d0,d0,d0,d0,dN,dN,dS [],dS [],dN,d0,d0,dN,d0,dN,dN,dN,dN,dN,d0,d0,d0])]) (PS.bi q++[(3,.one 50 328 [dI 5,d0,d0,d0,dN,dN,dS (p.aU [dh]).name.1,dS [],dN,d0,d0,dN,d0,dN,.ac 1114 (l.map cV).length 3,dN,.ac 1116 0 3,.ac 1117 0 2,d0,d0,d0]),(1114,.acc 96 32 3 (l.map cV)),(1116,.acc 98 64 3 []),(1117,.acc 100 32 2 []),(2,.one 50 328 [d0,d0,d0,d0,dN,dN,dS [],dS [],dN,d0,d0,dN,d0,dN,dN,dN,dN,dN,d0,d0,d0])]):=dq rfl rfl ⟨rfl,rfl,rfl,rfl,rfl,trivial⟩
 have gp:q.aA.length=((p.aU [dh]).name.2.bA cq).aA.length:=by rw[A.aA]
 refine dn _ _ hV Z (aK (ai (ae 1 aa (bh (sign F A.ok cH) aa aa aa aa aa (af (aI aa (fun BJ=>?_) (fun BJ=>?_)))))))
 ·have h2:=A.top.sign cH
  have pA:=oR A.ok BJ
  have fy:=A.ok.d8
  obtain⟨k,rfl⟩:∃k',k=k'+1:=⟨k-1,by have:=pA.2;omega⟩
  rw[oT BJ] at z
  have h3:=h2.trans (ou _ h2.top)
  refine aQ (bJ (iw (bk 3 aa (m7 (Hp F h2.top) aa aa aa aa aa aa (bk 1 aa ?_)))))
  refine eo rfl (dZ (rows:=l.map cV) (ys:=[cV ((PS.column (q.sign cH).2).1)]) rfl rfl rfl (.bs (rows:=[cV ((PS.column (q.sign cH).2).1)]) rfl) (bO rfl) (by simp only[bC,bZ,cP,dx];omega) (fun h=>by rw[h];rfl) (fun h=>by rw[h];rfl) ?_)
  refine bk 2 aa (c6 ?_)
  refine⟨k,gh k,l++[(PS.column (q.sign cH).2).1],(PS.column (q.sign cH).2).2,z,mE lK _,?_,?_,A.trans h3,?_,?_⟩
  ·have:=h3.aJ;have:=pA.1;have:=(ou _ h2.top).aJ;rw[bC,dU];show l.length+1≤(PS.column (q.sign cH).2).2.aJ+1;omega
  ·have:=(ou _ h2.top).aJ;have:=pA.1;show((p.aU [dh]).name.2.bA cq).aA.length≤k+(PS.column (q.sign cH).2).2.aJ;omega
  ·try simp only[dr,eF,fH]
   exact⟨aa,aa,aa,trivial⟩
  try simp only[dr,eF,fH]
  exact dq aa aa ⟨aa,aa,aa,aa,aa,trivial⟩
 rw[oU BJ] at z
 rw[PS.iA BJ]
 have hI:p.s8=(l,q):=by unfold PS.s8;rw[←z]
 have Qu:p.iB=q.bA dP:=by unfold PS.iB;rw[hI]
 obtain⟨I,vf⟩:∃I,l=I:=⟨_,rfl⟩
 rw[vf] at hI⊢
 refine dD (ai (ae 1 aa (bh (bA F A.ok dP) aa aa aa aa aa (af (aK (ai ?_))))))
 rw[←Qu]
 clear hV Z z lK js hk gp Qu vf
 refine ae 1 aa (bh (keyword F hp.iB.ok rN) aa aa aa aa aa (af (aI aa (fun pB=>?_) (fun pB=>?_))))
 ·have j1:=hp.iB.top.kw rN
  obtain⟨K,y3⟩:∃K,(p.iB.keyword rN).2.names.1=K:=⟨_,rfl⟩
  have hK:p.iB.key=(K,(p.iB.keyword rN).2.names.2):=by unfold PS.key;rw[aw pB,←y3]
  have hz:p.iB.key.2=(p.iB.keyword rN).2.names.2:=by rw[hK]
  refine bD (ae 1 aa (bh (sF F j1.top) aa aa aa aa aa (ae 2 aa (af ?_))))
  refine aK ?_
  (refine eD (PS.bi p.iB.key.2++[(3,.one 50 328 [dI 5,d0,d0,d0,dN,dN,dS (p.aU [dh]).name.1,dS [],dN,d0,d0,dN,d0,dN,.ac 1114 (I.map cV).length 3,.d (f4 K),.ac 1116 (([]:List Fk).map Fk.enc).length 3,.ac 1117 0 2,d0,d0,d0]),(1114,.acc 96 32 3 (I.map cV)),(1116,.acc 98 64 3 (([]:List Fk).map Fk.enc)),(1117,.acc 100 32 2 []),(2,.one 50 328 [d0,d0,d0,d0,dN,dN,dS [],dS [],dN,d0,d0,dN,d0,dN,dN,dN,dN,dN,d0,d0,d0])]) ?_ ?_; · exact dq (by rw[hz];rfl) (by rw[hz];rfl) ⟨by rw[←y3];rfl,rfl,rfl,rfl,rfl,trivial⟩)
  refine bJ (dY (fun k VE B=>∃(l:List Fk)(q:PS),po k l q=p.pr∧l.length≤q.aJ+1∧p.aA.length≤k+q.aJ∧bP p q∧br [(0,.vp 1000 0),(2,.vp 2 0),(3,.vp 3 0)] VE∧br (PS.bi q++[(3,.one 50 328 [dI 5,d0,d0,d0,dN,dN,dS (p.aU [dh]).name.1,dS [],dN,d0,d0,dN,d0,dN,.ac 1114 (I.map cV).length 3,.d (f4 K),.ac 1116 (l.map Fk.enc).length 3,.ac 1117 0 2,d0,d0,d0]),(1114,.acc 96 32 3 (I.map cV)),(1116,.acc 98 64 3 (l.map Fk.enc)),(1117,.acc 100 32 2 []),(2,.one 50 328 [d0,d0,d0,d0,dN,dN,dS [],dS [],dN,d0,d0,dN,d0,dN,dN,dN,dN,dN,d0,d0,d0])]) B) ?_ (k:=p.aA.length) ⟨[],p.iB.key.2,aa,da _,j0 _ _,hp.yu,⟨aa,aa,aa,trivial⟩,dq aa aa ⟨aa,aa,aa,aa,aa,trivial⟩⟩)
  clear A
  rintro k VE B⟨l,q,z,js,hk,A,hV,Z⟩
  refine eD (PS.bi q++[(3,.one 50 328 [dI 5,d0,d0,d0,dN,dN,dS (p.aU [dh]).name.1,dS [],dN,d0,d0,dN,d0,dN,.ac 1114 (I.map cV).length 3,.d (f4 K),.ac 1116 (l.map Fk.enc).length 3,.ac 1117 0 2,d0,d0,d0]),(1114,.acc 96 32 3 (I.map cV)),(1116,.acc 98 64 3 (l.map Fk.enc)),(1117,.acc 100 32 2 []),(2,.one 50 328 [d0,d0,d0,d0,dN,dN,dS [],dS [],dN,d0,d0,dN,d0,dN,dN,dN,dN,dN,d0,d0,d0])]) Z ?_
  have Z:br (PS.bi q++[(3,.one 50 328 [dI 5,d0,d0,d0,dN,dN,dS (p.aU [dh]).name.1,dS [],dN,d0,d0,dN,d0,dN,.ac 1114 (I.map cV).length 3,.d (f4 K),.ac 1116 (l.map Fk.enc).length 3,.ac 1117 0 2,d0,d0,d0]),(1114,.acc 96 32 3 (I.map cV)),(1116,.acc 98 64 3 (l.map Fk.enc)),(1117,.acc 100 32 2 []),(2,.one 50 328 [d0,d0,d0,d0,dN,dN,dS [],dS [],dN,d0,d0,dN,d0,dN,dN,dN,dN,dN,d0,d0,d0])]) (PS.bi q++[(3,.one 50 328 [dI 5,d0,d0,d0,dN,dN,dS (p.aU [dh]).name.1,dS [],dN,d0,d0,dN,d0,dN,.ac 1114 (I.map cV).length 3,.d (f4 K),.ac 1116 (l.map Fk.enc).length 3,.ac 1117 0 2,d0,d0,d0]),(1114,.acc 96 32 3 (I.map cV)),(1116,.acc 98 64 3 (l.map Fk.enc)),(1117,.acc 100 32 2 []),(2,.one 50 328 [d0,d0,d0,d0,dN,dN,dS [],dS [],dN,d0,d0,dN,d0,dN,dN,dN,dN,dN,d0,d0,d0])]):=dq rfl rfl ⟨rfl,rfl,rfl,rfl,rfl,trivial⟩
  have gp:q.aA.length=p.aA.length:=by rw[A.aA]
  have fy:=A.ok.d8
  refine dn _ _ hV Z (aK (ai (ae 1 aa (bh (keyword F A.ok ma) aa aa aa aa aa (af (aI aa (fun O=>?_) (fun O=>?_)))))))
  ·have U:=nw A.ok O
   obtain⟨k,rfl⟩:∃k',k=k'+1:=⟨k-1,by omega⟩
   rw[HG O] at z
   have G:=A.top.kw ma
   have ke:=U.1
   generalize (q.keyword ma).2=J at z G ke⊢
   have j1:=G.top.names
   have j2:=G.top.tt
   have j3:=j2.top.name
   refine aQ (bJ (ai (ae 1 aa (bh (sF F G.top) aa aa aa aa aa (ae 3 aa (af ?_))))))
   refine ai (ae 2 aa (gq 42 42 aa aa (fun _=>⟨aa,aa⟩) ?_))
   refine bh (aU F j1.ok [ze] (by decide)) rfl rfl rfl rfl rfl ?_
   refine af (ai (ae 1 aa (bh (name F j2.st) aa aa aa aa aa (ae 2 aa (af ?_)))))
   refine ai (ae 1 aa (bh (sF F j3.top) aa aa aa aa aa (ae 2 aa (af ?_))))
   refine bD (ae 4 aa ?_)
   refine ak (dZ (rows:=l.map Fk.enc) (ys:=[J.fk.1.enc]) rfl rfl rfl (.bs (rows:=[J.fk.1.enc]) rfl) (bO rfl) (by simp only[bC,bZ,cP,dx];omega) (fun h=>by rw[h];rfl) (fun h=>by rw[h];rfl) ?_)
   refine ae 2 aa (af ?_)
   refine⟨k,gh k,l++[J.fk.1],J.fk.2,z,?_,?_,(A.trans G).trans G.top.fk,⟨aa,aa,aa,trivial⟩,?_⟩
   ·have:=G.top.fk.aJ;rw[bC,dU];omega
   ·have:=G.top.fk.aJ;omega
   simp only[dr,eF,fH]
   exact dq aa aa ⟨aa,aa,aa,aa,aa,trivial⟩
  rw[HH O] at z
  rw[PS.cQ O]
  obtain⟨lf,BK⟩:∃lf,l=lf:=⟨_,rfl⟩
  rw[BK] at z⊢
  clear hV Z js hk gp BK
  refine dD (bJ ?_)
  refine dY (fun k VE B=>∃(l:List (Int×List (List UInt8)))(q:PS),nY k l q=p.u9∧l.length≤q.aJ+1∧p.aA.length≤k+q.aJ∧bP p q∧br [(0,.vp 1000 0),(2,.vp 2 0),(3,.vp 3 0)] VE∧br (PS.bi q++[(3,.one 50 328 [dI 5,d0,d0,d0,dN,dN,dS (p.aU [dh]).name.1,dS [],dN,d0,d0,dN,d0,dN,.ac 1114 (I.map cV).length 3,.d (f4 K),.ac 1116 (lf.map Fk.enc).length 3,.ac 1117 (l.map dR).length 2,d0,d0,d0]),(1114,.acc 96 32 3 (I.map cV)),(1116,.acc 98 64 3 (lf.map Fk.enc)),(1117,.acc 100 32 2 (l.map dR)),(2,.one 50 328 [d0,d0,d0,d0,dN,dN,dS [],dS [],dN,d0,d0,dN,d0,dN,dN,dN,dN,dN,d0,d0,d0])]) B) ?_ (k:=p.aA.length) ⟨[],q,by unfold PS.u9;rw[←z],da _,j0 _ _,A,⟨rfl,rfl,rfl,trivial⟩,dq rfl rfl ⟨rfl,rfl,rfl,rfl,rfl,trivial⟩⟩
  have hR:p.pr.1=lf:=by rw[←z]
  clear z A fy
  rintro k VE B⟨l,q,z,js,hk,A,hV,Z⟩
  refine eD (PS.bi q++[(3,.one 50 328 [dI 5,d0,d0,d0,dN,dN,dS (p.aU [dh]).name.1,dS [],dN,d0,d0,dN,d0,dN,.ac 1114 (I.map cV).length 3,.d (f4 K),.ac 1116 (lf.map Fk.enc).length 3,.ac 1117 (l.map dR).length 2,d0,d0,d0]),(1114,.acc 96 32 3 (I.map cV)),(1116,.acc 98 64 3 (lf.map Fk.enc)),(1117,.acc 100 32 2 (l.map dR)),(2,.one 50 328 [d0,d0,d0,d0,dN,dN,dS [],dS [],dN,d0,d0,dN,d0,dN,dN,dN,dN,dN,d0,d0,d0])]) Z ?_
  have Z:br (PS.bi q++[(3,.one 50 328 [dI 5,d0,d0,d0,dN,dN,dS (p.aU [dh]).name.1,dS [],dN,d0,d0,dN,d0,dN,.ac 1114 (I.map cV).length 3,.d (f4 K),.ac 1116 (lf.map Fk.enc).length 3,.ac 1117 (l.map dR).length 2,d0,d0,d0]),(1114,.acc 96 32 3 (I.map cV)),(1116,.acc 98 64 3 (lf.map Fk.enc)),(1117,.acc 100 32 2 (l.map dR)),(2,.one 50 328 [d0,d0,d0,d0,dN,dN,dS [],dS [],dN,d0,d0,dN,d0,dN,dN,dN,dN,dN,d0,d0,d0])]) (PS.bi q++[(3,.one 50 328 [dI 5,d0,d0,d0,dN,dN,dS (p.aU [dh]).name.1,dS [],dN,d0,d0,dN,d0,dN,.ac 1114 (I.map cV).length 3,.d (f4 K),.ac 1116 (lf.map Fk.enc).length 3,.ac 1117 (l.map dR).length 2,d0,d0,d0]),(1114,.acc 96 32 3 (I.map cV)),(1116,.acc 98 64 3 (lf.map Fk.enc)),(1117,.acc 100 32 2 (l.map dR)),(2,.one 50 328 [d0,d0,d0,d0,dN,dN,dS [],dS [],dN,d0,d0,dN,d0,dN,dN,dN,dN,dN,d0,d0,d0])]):=dq rfl rfl ⟨rfl,rfl,rfl,rfl,rfl,trivial⟩
  have gp:q.aA.length=p.aA.length:=by rw[A.aA]
  have fy:=A.ok.d8
  refine dn _ _ hV Z (bJ (bJ (ai (ae 1 aa (bh (keyword F A.ok pV) aa aa aa aa aa (ae 1 aa (af ?_)))))))
  refine aI aa (fun Y=>?_) (fun Y=>?_)
  ·have hj:q.gR=some (1,(q.keyword pV).2):=by unfold PS.gR;rw[aw Y]
   obtain⟨G,U,ke⟩:=A.top.gR hj
   obtain⟨k,rfl⟩:∃k',k=k'+1:=⟨k-1,by omega⟩
   rw[vx hj] at z
   generalize (q.keyword pV).2=J at hj G U z⊢
   refine iw (bk 3 aa (m7 (sF F G.top) aa aa aa aa aa aa (bk 2 aa ?_)))
   refine eo rfl (dZ (rows:=l.map dR) (ys:=[dR (1,J.names.1)]) rfl rfl rfl (.bs (rows:=[dR (1,J.names.1)]) rfl) (bO rfl) (by simp only[bC,bZ,cP,dx];omega) (fun h=>by rw[h];rfl) (fun h=>by rw[h];rfl) ?_)
   refine bk 2 aa (c6 ?_)
   refine⟨k,gh k,l++[(1,J.names.1)],J.names.2,z,?_,?_,(A.trans G).trans G.top.names,⟨aa,aa,aa,trivial⟩,?_⟩
   ·have:=G.top.names.aJ;rw[bC,dU];omega
   ·have:=G.top.names.aJ;omega
   simp only[dr,eF,fH]
   exact dq aa aa ⟨aa,aa,aa,aa,aa,trivial⟩
  rw[PS.cQ Y]
  refine ai (ae 1 aa (bh (keyword F A.ok pF) aa aa aa aa aa (ae 1 aa (af ?_))))
  refine aI aa (fun tv=>?_) (fun tv=>?_)
  ·have hj:q.gR=some (2,(q.keyword pF).2):=by unfold PS.gR;rw[aj (by rw[Y];decide),aw tv]
   obtain⟨G,U,ke⟩:=A.top.gR hj
   obtain⟨k,rfl⟩:∃k',k=k'+1:=⟨k-1,by omega⟩
   rw[vx hj] at z
   generalize (q.keyword pF).2=J at hj G U z⊢
   refine iw (bk 3 aa (m7 (sF F G.top) aa aa aa aa aa aa (bk 2 aa ?_)))
   refine eo rfl (dZ (rows:=l.map dR) (ys:=[dR (2,J.names.1)]) rfl rfl rfl (.bs (rows:=[dR (2,J.names.1)]) rfl) (bO rfl) (by simp only[bC,bZ,cP,dx];omega) (fun h=>by rw[h];rfl) (fun h=>by rw[h];rfl) ?_)
   refine bk 2 aa (c6 ?_)
   refine⟨k,gh k,l++[(2,J.names.1)],J.names.2,z,?_,?_,(A.trans G).trans G.top.names,⟨aa,aa,aa,trivial⟩,?_⟩
   ·have:=G.top.names.aJ;rw[bC,dU];omega
   ·have:=G.top.names.aJ;omega
   simp only[dr,eF,fH]
   exact dq aa aa ⟨aa,aa,aa,aa,aa,trivial⟩
  have hj:q.gR=none:=by unfold PS.gR;rw[aj (by rw[Y];decide),aj (by rw[tv];decide)]
  rw[zp hj] at z
  rw[PS.cQ tv]
  have hm:p.create=({kind:=5,table:=(p.aU [dh]).name.1,jq:=I,key:=K,my:=lf,cons:=l},q):=by unfold PS.create;rw[hI,hK,hR,←z]
  refine ai (ae 1 aa ?_)
  refine fo 56 1114 rfl rfl ⟨trivial,trivial,trivial,trivial,trivial,trivial,trivial,trivial,trivial,trivial,trivial,trivial,trivial,trivial,fun _=>⟨rfl,rfl⟩,trivial,fun h=>absurd h (by decide),fun h=>absurd h (by decide),trivial,trivial,trivial,trivial⟩ ?_
  refine fo 56 1116 rfl rfl ⟨trivial,trivial,trivial,trivial,trivial,trivial,trivial,trivial,trivial,trivial,trivial,trivial,trivial,trivial,trivial,trivial,fun _=>⟨rfl,rfl⟩,fun h=>absurd h (by decide),trivial,trivial,trivial,trivial⟩ ?_
  refine fo 56 1117 aa aa ⟨trivial,trivial,trivial,trivial,trivial,trivial,trivial,trivial,trivial,trivial,trivial,trivial,trivial,trivial,trivial,trivial,trivial,fun _=>⟨aa,aa⟩,trivial,trivial,trivial,trivial⟩ (ae 1 aa (af ?_))
  refine ax ?_
  rw[hm]
  exact⟨_,PS.bi _,aa,cL aa aa,aa,aa⟩
 rw[PS.cQ pB]
 obtain⟨K,y3⟩:∃K:List (List UInt8),[]=K:=⟨_,rfl⟩
 have hK:p.iB.key=(K,p.iB):=by unfold PS.key;rw[aj (by rw[pB];decide),←y3]
 have hz:p.iB.key.2=p.iB:=by rw[hK]
 refine aQ (aK ?_)
 (refine eD (PS.bi p.iB.key.2++[(3,.one 50 328 [dI 5,d0,d0,d0,dN,dN,dS (p.aU [dh]).name.1,dS [],dN,d0,d0,dN,d0,dN,.ac 1114 (I.map cV).length 3,.d (f4 K),.ac 1116 (([]:List Fk).map Fk.enc).length 3,.ac 1117 0 2,d0,d0,d0]),(1114,.acc 96 32 3 (I.map cV)),(1116,.acc 98 64 3 (([]:List Fk).map Fk.enc)),(1117,.acc 100 32 2 []),(2,.one 50 328 [d0,d0,d0,d0,dN,dN,dS [],dS [],dN,d0,d0,dN,d0,dN,dN,dN,dN,dN,d0,d0,d0])]) ?_ ?_; · exact dq (by rw[hz];rfl) (by rw[hz];rfl) ⟨by rw[←y3];rfl,rfl,rfl,rfl,rfl,trivial⟩)
 refine bJ (dY (fun k VE B=>∃(l:List Fk)(q:PS),po k l q=p.pr∧l.length≤q.aJ+1∧p.aA.length≤k+q.aJ∧bP p q∧br [(0,.vp 1000 0),(2,.vp 2 0),(3,.vp 3 0)] VE∧br (PS.bi q++[(3,.one 50 328 [dI 5,d0,d0,d0,dN,dN,dS (p.aU [dh]).name.1,dS [],dN,d0,d0,dN,d0,dN,.ac 1114 (I.map cV).length 3,.d (f4 K),.ac 1116 (l.map Fk.enc).length 3,.ac 1117 0 2,d0,d0,d0]),(1114,.acc 96 32 3 (I.map cV)),(1116,.acc 98 64 3 (l.map Fk.enc)),(1117,.acc 100 32 2 []),(2,.one 50 328 [d0,d0,d0,d0,dN,dN,dS [],dS [],dN,d0,d0,dN,d0,dN,dN,dN,dN,dN,d0,d0,d0])]) B) ?_ (k:=p.aA.length) ⟨[],p.iB.key.2,aa,da _,j0 _ _,hp.yu,⟨aa,aa,aa,trivial⟩,dq aa aa ⟨aa,aa,aa,aa,aa,trivial⟩⟩)
 clear A
 rintro k VE B⟨l,q,z,js,hk,A,hV,Z⟩
 refine eD (PS.bi q++[(3,.one 50 328 [dI 5,d0,d0,d0,dN,dN,dS (p.aU [dh]).name.1,dS [],dN,d0,d0,dN,d0,dN,.ac 1114 (I.map cV).length 3,.d (f4 K),.ac 1116 (l.map Fk.enc).length 3,.ac 1117 0 2,d0,d0,d0]),(1114,.acc 96 32 3 (I.map cV)),(1116,.acc 98 64 3 (l.map Fk.enc)),(1117,.acc 100 32 2 []),(2,.one 50 328 [d0,d0,d0,d0,dN,dN,dS [],dS [],dN,d0,d0,dN,d0,dN,dN,dN,dN,dN,d0,d0,d0])]) Z ?_
 have Z:br (PS.bi q++[(3,.one 50 328 [dI 5,d0,d0,d0,dN,dN,dS (p.aU [dh]).name.1,dS [],dN,d0,d0,dN,d0,dN,.ac 1114 (I.map cV).length 3,.d (f4 K),.ac 1116 (l.map Fk.enc).length 3,.ac 1117 0 2,d0,d0,d0]),(1114,.acc 96 32 3 (I.map cV)),(1116,.acc 98 64 3 (l.map Fk.enc)),(1117,.acc 100 32 2 []),(2,.one 50 328 [d0,d0,d0,d0,dN,dN,dS [],dS [],dN,d0,d0,dN,d0,dN,dN,dN,dN,dN,d0,d0,d0])]) (PS.bi q++[(3,.one 50 328 [dI 5,d0,d0,d0,dN,dN,dS (p.aU [dh]).name.1,dS [],dN,d0,d0,dN,d0,dN,.ac 1114 (I.map cV).length 3,.d (f4 K),.ac 1116 (l.map Fk.enc).length 3,.ac 1117 0 2,d0,d0,d0]),(1114,.acc 96 32 3 (I.map cV)),(1116,.acc 98 64 3 (l.map Fk.enc)),(1117,.acc 100 32 2 []),(2,.one 50 328 [d0,d0,d0,d0,dN,dN,dS [],dS [],dN,d0,d0,dN,d0,dN,dN,dN,dN,dN,d0,d0,d0])]):=dq rfl rfl ⟨rfl,rfl,rfl,rfl,rfl,trivial⟩
 have gp:q.aA.length=p.aA.length:=by rw[A.aA]
 have fy:=A.ok.d8
 refine dn _ _ hV Z (aK (ai (ae 1 aa (bh (keyword F A.ok ma) aa aa aa aa aa (af (aI aa (fun O=>?_) (fun O=>?_)))))))
 ·have U:=nw A.ok O
  obtain⟨k,rfl⟩:∃k',k=k'+1:=⟨k-1,by omega⟩
  rw[HG O] at z
  have G:=A.top.kw ma
  have ke:=U.1
  generalize (q.keyword ma).2=J at z G ke⊢
  have j1:=G.top.names
  have j2:=G.top.tt
  have j3:=j2.top.name
  refine aQ (bJ (ai (ae 1 aa (bh (sF F G.top) aa aa aa aa aa (ae 3 aa (af ?_))))))
  refine ai (ae 2 aa (gq 42 42 aa aa (fun _=>⟨aa,aa⟩) ?_))
  refine bh (aU F j1.ok [ze] (by decide)) rfl rfl rfl rfl rfl ?_
  refine af (ai (ae 1 aa (bh (name F j2.st) aa aa aa aa aa (ae 2 aa (af ?_)))))
  refine ai (ae 1 aa (bh (sF F j3.top) aa aa aa aa aa (ae 2 aa (af ?_))))
  refine bD (ae 4 aa ?_)
  refine ak (dZ (rows:=l.map Fk.enc) (ys:=[J.fk.1.enc]) rfl rfl rfl (.bs (rows:=[J.fk.1.enc]) rfl) (bO rfl) (by simp only[bC,bZ,cP,dx];omega) (fun h=>by rw[h];rfl) (fun h=>by rw[h];rfl) ?_)
  refine ae 2 aa (af ?_)
  refine⟨k,gh k,l++[J.fk.1],J.fk.2,z,?_,?_,(A.trans G).trans G.top.fk,⟨aa,aa,aa,trivial⟩,?_⟩
  ·have:=G.top.fk.aJ;rw[bC,dU];omega
  ·have:=G.top.fk.aJ;omega
  simp only[dr,eF,fH]
  exact dq aa aa ⟨aa,aa,aa,aa,aa,trivial⟩
 rw[HH O] at z
 rw[PS.cQ O]
 obtain⟨lf,BK⟩:∃lf,l=lf:=⟨_,rfl⟩
 rw[BK] at z⊢
 clear hV Z js hk gp BK
 refine dD (bJ ?_)
 refine dY (fun k VE B=>∃(l:List (Int×List (List UInt8)))(q:PS),nY k l q=p.u9∧l.length≤q.aJ+1∧p.aA.length≤k+q.aJ∧bP p q∧br [(0,.vp 1000 0),(2,.vp 2 0),(3,.vp 3 0)] VE∧br (PS.bi q++[(3,.one 50 328 [dI 5,d0,d0,d0,dN,dN,dS (p.aU [dh]).name.1,dS [],dN,d0,d0,dN,d0,dN,.ac 1114 (I.map cV).length 3,.d (f4 K),.ac 1116 (lf.map Fk.enc).length 3,.ac 1117 (l.map dR).length 2,d0,d0,d0]),(1114,.acc 96 32 3 (I.map cV)),(1116,.acc 98 64 3 (lf.map Fk.enc)),(1117,.acc 100 32 2 (l.map dR)),(2,.one 50 328 [d0,d0,d0,d0,dN,dN,dS [],dS [],dN,d0,d0,dN,d0,dN,dN,dN,dN,dN,d0,d0,d0])]) B) ?_ (k:=p.aA.length) ⟨[],q,by unfold PS.u9;rw[←z],da _,j0 _ _,A,⟨rfl,rfl,rfl,trivial⟩,dq rfl rfl ⟨rfl,rfl,rfl,rfl,rfl,trivial⟩⟩
 have hR:p.pr.1=lf:=by rw[←z]
 clear z A fy
 rintro k VE B⟨l,q,z,js,hk,A,hV,Z⟩
 refine eD (PS.bi q++[(3,.one 50 328 [dI 5,d0,d0,d0,dN,dN,dS (p.aU [dh]).name.1,dS [],dN,d0,d0,dN,d0,dN,.ac 1114 (I.map cV).length 3,.d (f4 K),.ac 1116 (lf.map Fk.enc).length 3,.ac 1117 (l.map dR).length 2,d0,d0,d0]),(1114,.acc 96 32 3 (I.map cV)),(1116,.acc 98 64 3 (lf.map Fk.enc)),(1117,.acc 100 32 2 (l.map dR)),(2,.one 50 328 [d0,d0,d0,d0,dN,dN,dS [],dS [],dN,d0,d0,dN,d0,dN,dN,dN,dN,dN,d0,d0,d0])]) Z ?_
 have Z:br (PS.bi q++[(3,.one 50 328 [dI 5,d0,d0,d0,dN,dN,dS (p.aU [dh]).name.1,dS [],dN,d0,d0,dN,d0,dN,.ac 1114 (I.map cV).length 3,.d (f4 K),.ac 1116 (lf.map Fk.enc).length 3,.ac 1117 (l.map dR).length 2,d0,d0,d0]),(1114,.acc 96 32 3 (I.map cV)),(1116,.acc 98 64 3 (lf.map Fk.enc)),(1117,.acc 100 32 2 (l.map dR)),(2,.one 50 328 [d0,d0,d0,d0,dN,dN,dS [],dS [],dN,d0,d0,dN,d0,dN,dN,dN,dN,dN,d0,d0,d0])]) (PS.bi q++[(3,.one 50 328 [dI 5,d0,d0,d0,dN,dN,dS (p.aU [dh]).name.1,dS [],dN,d0,d0,dN,d0,dN,.ac 1114 (I.map cV).length 3,.d (f4 K),.ac 1116 (lf.map Fk.enc).length 3,.ac 1117 (l.map dR).length 2,d0,d0,d0]),(1114,.acc 96 32 3 (I.map cV)),(1116,.acc 98 64 3 (lf.map Fk.enc)),(1117,.acc 100 32 2 (l.map dR)),(2,.one 50 328 [d0,d0,d0,d0,dN,dN,dS [],dS [],dN,d0,d0,dN,d0,dN,dN,dN,dN,dN,d0,d0,d0])]):=dq rfl rfl ⟨rfl,rfl,rfl,rfl,rfl,trivial⟩
 have gp:q.aA.length=p.aA.length:=by rw[A.aA]
 have fy:=A.ok.d8
 refine dn _ _ hV Z (bJ (bJ (ai (ae 1 aa (bh (keyword F A.ok pV) aa aa aa aa aa (ae 1 aa (af ?_)))))))
 refine aI aa (fun Y=>?_) (fun Y=>?_)
 ·have hj:q.gR=some (1,(q.keyword pV).2):=by unfold PS.gR;rw[aw Y]
  obtain⟨G,U,ke⟩:=A.top.gR hj
  obtain⟨k,rfl⟩:∃k',k=k'+1:=⟨k-1,by omega⟩
  rw[vx hj] at z
  generalize (q.keyword pV).2=J at hj G U z⊢
  refine iw (bk 3 aa (m7 (sF F G.top) aa aa aa aa aa aa (bk 2 aa ?_)))
  refine eo rfl (dZ (rows:=l.map dR) (ys:=[dR (1,J.names.1)]) rfl rfl rfl (.bs (rows:=[dR (1,J.names.1)]) rfl) (bO rfl) (by simp only[bC,bZ,cP,dx];omega) (fun h=>by rw[h];rfl) (fun h=>by rw[h];rfl) ?_)
  refine bk 2 aa (c6 ?_)
  refine⟨k,gh k,l++[(1,J.names.1)],J.names.2,z,?_,?_,(A.trans G).trans G.top.names,⟨aa,aa,aa,trivial⟩,?_⟩
  ·have:=G.top.names.aJ;rw[bC,dU];omega
  ·have:=G.top.names.aJ;omega
  simp only[dr,eF,fH]
  exact dq aa aa ⟨aa,aa,aa,aa,aa,trivial⟩
 rw[PS.cQ Y]
 refine ai (ae 1 aa (bh (keyword F A.ok pF) aa aa aa aa aa (ae 1 aa (af ?_))))
 refine aI aa (fun tv=>?_) (fun tv=>?_)
 ·have hj:q.gR=some (2,(q.keyword pF).2):=by unfold PS.gR;rw[aj (by rw[Y];decide),aw tv]
  obtain⟨G,U,ke⟩:=A.top.gR hj
  obtain⟨k,rfl⟩:∃k',k=k'+1:=⟨k-1,by omega⟩
  rw[vx hj] at z
  generalize (q.keyword pF).2=J at hj G U z⊢
  refine iw (bk 3 aa (m7 (sF F G.top) aa aa aa aa aa aa (bk 2 aa ?_)))
  refine eo rfl (dZ (rows:=l.map dR) (ys:=[dR (2,J.names.1)]) rfl rfl rfl (.bs (rows:=[dR (2,J.names.1)]) rfl) (bO rfl) (by simp only[bC,bZ,cP,dx];omega) (fun h=>by rw[h];rfl) (fun h=>by rw[h];rfl) ?_)
  refine bk 2 aa (c6 ?_)
  refine⟨k,gh k,l++[(2,J.names.1)],J.names.2,z,?_,?_,(A.trans G).trans G.top.names,⟨aa,aa,aa,trivial⟩,?_⟩
  ·have:=G.top.names.aJ;rw[bC,dU];omega
  ·have:=G.top.names.aJ;omega
  simp only[dr,eF,fH]
  exact dq aa aa ⟨aa,aa,aa,aa,aa,trivial⟩
 have hj:q.gR=none:=by unfold PS.gR;rw[aj (by rw[Y];decide),aj (by rw[tv];decide)]
 rw[zp hj] at z
 rw[PS.cQ tv]
 have hm:p.create=({kind:=5,table:=(p.aU [dh]).name.1,jq:=I,key:=K,my:=lf,cons:=l},q):=by unfold PS.create;rw[hI,hK,hR,←z]
 refine ai (ae 1 aa ?_)
 refine fo 56 1114 rfl rfl ⟨trivial,trivial,trivial,trivial,trivial,trivial,trivial,trivial,trivial,trivial,trivial,trivial,trivial,trivial,fun _=>⟨rfl,rfl⟩,trivial,fun h=>absurd h (by decide),fun h=>absurd h (by decide),trivial,trivial,trivial,trivial⟩ ?_
 refine fo 56 1116 rfl rfl ⟨trivial,trivial,trivial,trivial,trivial,trivial,trivial,trivial,trivial,trivial,trivial,trivial,trivial,trivial,trivial,trivial,fun _=>⟨rfl,rfl⟩,fun h=>absurd h (by decide),trivial,trivial,trivial,trivial⟩ ?_
 refine fo 56 1117 aa aa ⟨trivial,trivial,trivial,trivial,trivial,trivial,trivial,trivial,trivial,trivial,trivial,trivial,trivial,trivial,trivial,trivial,trivial,fun _=>⟨aa,aa⟩,trivial,trivial,trivial,trivial⟩ (ae 1 aa (af ?_))
 refine ax ?_
 rw[hm]
 exact⟨_,PS.bi _,aa,cL aa aa,aa,aa⟩
open Go
def PS.fin(q:PS):PS:=if q.err=0∧q.tok.kind≠6 then q.fail 5 else q
theorem bf.fin{q:PS}(h:bf q):bP q q.fin:=by
 unfold PS.fin
 split
 ·exact h.fail (by decide)
 exact .refl h
def start(aA:List cb):PS:=⟨aA,0,0,0,0,[]⟩
structure rF(aA:List cb):Prop where
 ne:0<aA.length
 d8:aA.length≤2000
 last:∀(i:Nat)t,aA[i]?=some t→(t.kind=6↔i+1=aA.length)
 num:∀t,t∈aA→t.kind=3→nO t.text
 text:∀t,t∈aA→t.text.length≤200
theorem rF.top{aA:List cb}(h:rF aA):bf (start aA):=⟨⟨⟨h.ne,h.d8,h.last,da _,da _⟩,h.num,h.text⟩,rfl⟩
def jL(D:Rd)(aA:List cb):PS:=((start aA).cX D).2.fin
def lP(D:Rd)(aA:List cb):Stmt×Int×Int:=if(jL D aA).err≠0 then({},(jL D aA).pos,(jL D aA).err) else(((start aA).cX D).1,0,0)
def jP(D:Rd)(aA:List cb):PS:=((start aA).cW D false).2.fin
def lN(D:Rd)(aA:List cb):jC×Int×Int:=if(jP D aA).err≠0 then(⟨[],[]⟩,(jP D aA).pos,(jP D aA).err) else(((start aA).cW D false).1,0,0)
open Go
set_option maxRecDepth 10000
set_option maxHeartbeats 8000000 in
theorem Se{T:bd}(F:FT T){D:Rd}(Lf:hM T D){p:PS}(hp:bf p):bY T 62 [.vp 1000 0] (PS.bi p) fun r Bn=>r=ez (p.cX D).1.enc∧Bn=PS.bz (p.cX D).2:=by
 refine cw F.f62 aa (al 1 aa (aK (bJ (ai (ae 1 aa (bh (keyword F hp.ok sn) aa aa aa aa aa (ae 1 aa (af ?_))))))))
 refine aI aa (fun O=>?_) (fun O=>?_)
 ·have z:p.cX D=(p.keyword sn).2.insert D:=by unfold PS.cX;rw[aw O]
  have G:=hp.kw sn
  refine ai (ae 1 aa (bh (insertC F Lf G.top) aa aa aa aa aa (jE 1000 5 aa aa (ae 1 aa (af ?_)))))
  refine ax ?_
  rw[z]
  exact⟨_,PS.bz _,aa,fM aa,aa,aa⟩
 rw[PS.cQ O]
 refine ai (ae 1 aa (bh (keyword F hp.ok so) aa aa aa aa aa (ae 1 aa (af ?_))))
 refine aI aa (fun Y=>?_) (fun Y=>?_)
 ·have z:p.cX D=(p.keyword so).2.remove D:=by unfold PS.cX;rw[aj (by rw[O];decide),aw Y]
  have G:=hp.kw so
  refine ai (ae 1 aa (IY (UW F Lf G.top) aa aa aa aa aa (ae 1 aa (af ?_))))
  refine ax ?_
  rw[z]
  exact⟨_,PS.bz _,aa,fM aa,aa,aa⟩
 rw[PS.cQ Y]
 refine ai (ae 1 aa (bh (keyword F hp.ok sq) aa aa aa aa aa (ae 1 aa (af ?_))))
 refine aI aa (fun bM=>?_) (fun bM=>?_)
 ·have z:p.cX D=(p.keyword sq).2.update D:=by unfold PS.cX;rw[aj (by rw[O];decide),aj (by rw[Y];decide),aw bM]
  have G:=hp.kw sq
  refine ai (ae 1 aa (IY (UX F Lf G.top) aa aa aa aa aa (ae 1 aa (af ?_))))
  refine ax ?_
  rw[z]
  exact⟨_,PS.bz _,aa,fM aa,aa,aa⟩
 rw[PS.cQ bM]
 refine ai (ae 1 aa (bh (keyword F hp.ok sr) aa aa aa aa aa (ae 1 aa (af ?_))))
 refine aI aa (fun A=>?_) (fun A=>?_)
 ·have z:p.cX D=(p.keyword sr).2.create:=by unfold PS.cX;rw[aj (by rw[O];decide),aj (by rw[Y];decide),aj (by rw[bM];decide),aw A]
  have G:=hp.kw sr
  refine ai (ae 1 aa (bh (UY F G.top) aa aa aa aa aa (jE 1000 5 aa aa (ae 1 aa (af ?_)))))
  refine ax ?_
  rw[z]
  exact⟨_,PS.bz _,aa,fM aa,aa,aa⟩
 rw[PS.cQ A]
 refine ai (ae 1 aa (bh (keyword F hp.ok sE) aa aa aa aa aa (ae 1 aa (af ?_))))
 refine aI aa (fun I=>?_) (fun I=>?_)
 ·have z:p.cX D=(p.keyword sE).2.alter:=by unfold PS.cX;rw[aj (by rw[O];decide),aj (by rw[Y];decide),aj (by rw[bM];decide),aj (by rw[A];decide),aw I]
  have G:=hp.kw sE
  refine ai (ae 1 aa (bh (V' F G.top) aa aa aa aa aa (jE 1000 5 aa aa (ae 1 aa (af ?_)))))
  refine ax ?_
  rw[z]
  exact⟨_,PS.bz _,aa,fM aa,aa,aa⟩
 rw[PS.cQ I]
 refine ai (ae 1 aa (bh (keyword F hp.ok sI) aa aa aa aa aa (ae 1 aa (af ?_))))
 refine aI aa (fun J=>?_) (fun J=>?_)
 ·have z:p.cX D=(p.keyword sI).2.qP D:=by unfold PS.cX;rw[aj (by rw[O];decide),aj (by rw[Y];decide),aj (by rw[bM];decide),aj (by rw[A];decide),aj (by rw[I];decide),aw J]
  have G:=hp.kw sI
  refine ai (jE 1000 5 aa aa (ae 1 aa (dX (W8 F Lf G.top) aa aa aa aa (ae 1 aa (af ?_)))))
  refine ax ?_
  rw[z]
  exact⟨_,PS.bz _,aa,fM aa,aa,aa⟩
 rw[PS.cQ J]
 refine ai (ae 1 aa (bh (keyword F hp.ok su) aa aa aa aa aa (ae 1 aa (af ?_))))
 refine aI aa (fun K=>?_) (fun K=>?_)
 ·have z:p.cX D=(({kind:=9}:Stmt),(p.keyword su).2):=by unfold PS.cX;rw[aj (by rw[O];decide),aj (by rw[Y];decide),aj (by rw[bM];decide),aj (by rw[A];decide),aj (by rw[I];decide),aj (by rw[J];decide),aw K]
  have G:=hp.kw su
  refine ai (jE 1000 5 aa aa (ae 2 aa (af ?_)))
  refine ax ?_
  rw[z]
  exact⟨_,PS.bz _,aa,fM aa,aa,aa⟩
 rw[PS.cQ K]
 refine ai (ae 1 aa (bh (keyword F hp.ok sJ) aa aa aa aa aa (ae 1 aa (af ?_))))
 refine aI aa (fun U=>?_) (fun U=>?_)
 ·have z:p.cX D=(p.keyword sJ).2.hold:=by unfold PS.cX;rw[aj (by rw[O];decide),aj (by rw[Y];decide),aj (by rw[bM];decide),aj (by rw[A];decide),aj (by rw[I];decide),aj (by rw[J];decide),aj (by rw[K];decide),aw U]
  have G:=hp.kw sJ
  refine ai (ae 1 aa (bh (W9 F Lf G.top) aa aa aa aa aa (jE 1000 5 aa aa (ae 1 aa (af ?_)))))
  refine ax ?_
  rw[z]
  exact⟨_,PS.bz _,aa,fM aa,aa,aa⟩
 rw[PS.cQ U]
 refine ai (ae 1 aa (bh (keyword F hp.ok pL) aa aa aa aa aa (ae 1 aa (af ?_))))
 refine aI aa (fun Z=>?_) (fun Z=>?_)
 ·have z:p.cX D=({kind:=11,n:=((p.keyword pL).2.number (-1)).1},((p.keyword pL).2.number (-1)).2):=by unfold PS.cX;rw[aj (by rw[O];decide),aj (by rw[Y];decide),aj (by rw[bM];decide),aj (by rw[A];decide),aj (by rw[I];decide),aj (by rw[J];decide),aj (by rw[K];decide),aj (by rw[U];decide),aw Z]
  have G:=hp.kw pL
  refine ai (ae 1 aa (bh (number F Lf G.st (-1)) aa aa aa aa aa (jE 1000 5 aa aa (ae 2 aa (af ?_)))))
  refine ax ?_
  rw[z]
  exact⟨_,PS.bz _,aa,fM aa,aa,aa⟩
 rw[PS.cQ Z]
 refine ai (ae 1 aa (bh (keyword F hp.ok pP) aa aa aa aa aa (ae 1 aa (af ?_))))
 refine aI aa (fun rY=>?_) (fun rY=>?_)
 ·have z:p.cX D=({kind:=12,n:=(((p.keyword pP).2.aU [o4]).number (-1)).1},(((p.keyword pP).2.aU [o4]).number (-1)).2):=by unfold PS.cX;rw[aj (by rw[O];decide),aj (by rw[Y];decide),aj (by rw[bM];decide),aj (by rw[A];decide),aj (by rw[I];decide),aj (by rw[J];decide),aj (by rw[K];decide),aj (by rw[U];decide),aj (by rw[Z];decide),aw rY]
  have G:=hp.kw pP
  refine ai (ae 2 aa (gq 52 52 aa aa (fun _=>⟨aa,aa⟩) ?_))
  refine bh (aU F G.ok [o4] (by decide)) rfl rfl rfl rfl rfl ?_
  refine af (ai (ae 1 aa (bh (number F Lf (G.top.dK [o4]).st (-1)) aa aa aa aa aa (jE 1000 5 aa aa (ae 2 aa (af ?_))))))
  refine ax ?_
  rw[z]
  exact⟨_,PS.bz _,aa,fM aa,aa,aa⟩
 rw[PS.cQ rY]
 have z:p.cX D=p.query D:=by unfold PS.cX;rw[aj (by rw[O];decide),aj (by rw[Y];decide),aj (by rw[bM];decide),aj (by rw[A];decide),aj (by rw[I];decide),aj (by rw[J];decide),aj (by rw[K];decide),aj (by rw[U];decide),aj (by rw[Z];decide),aj (by rw[rY];decide)]
 refine aQ (ai (jE 1000 5 aa aa (ae 1 aa (dX (V9 F Lf hp) aa aa aa aa (ae 1 aa (af ?_))))))
 refine ax ?_
 rw[z]
 exact⟨_,PS.bz _,aa,fM aa,aa,aa⟩
set_option maxHeartbeats 4000000 in
theorem TV{T:bd}(F:FT T){D:Rd}(z:hM T D){p:PS}(hp:bf p):bY T 61 [.vp 1001 0,.vp 1002 0] (PS.bi p++[(1001,.one 121 8 [.vp 1000 0]),(1002,.one 50 328 [d0,d0,d0,d0,dN,dN,dS [],dS [],dN,d0,d0,dN,d0,dN,dN,dN,dN,dN,d0,d0,d0])]) fun r Bn=>r= .tuple []∧Bn=PS.bz (p.cX D).2++[(1001,.one 121 8 [.vp 1000 0]),(1002,.one 50 328 ((p.cX D).1.enc.map .d))]:=by
 refine cw F.f61 aa (bD (ae 1 aa (IY (Se F z hp) aa aa aa aa aa (ae 1 aa (af ?_)))))
 exact⟨_,PS.bz (p.cX D).2++[(1001,.one 121 8 [.vp 1000 0]),(1002,.one 50 328 ((p.cX D).1.enc.map .d))],aa,gn aa ⟨aa,aa,trivial⟩,aa,aa⟩
set_option maxHeartbeats 4000000 in
theorem Wa{T:bd}(F:FT T){D:Rd}(I:hM T D){p:PS}(hp:bf p):bY T 60 [.vp 1000 0,.fn 61 [.vp 1001 0,.vp 1002 0]] (PS.bi p++[(1001,.one 121 8 [.vp 1000 0]),(1002,.one 50 328 [d0,d0,d0,d0,dN,dN,dS [],dS [],dN,d0,d0,dN,d0,dN,dN,dN,dN,dN,d0,d0,d0])]) fun r Bn=>r= .tuple [dI (PS.fin (p.cX D).2).pos,dI (PS.fin (p.cX D).2).err]∧Bn=PS.bz (PS.fin (p.cX D).2)++[(1001,.one 121 8 [.vp 1000 0]),(1002,.one 50 328 ((p.cX D).1.enc.map .d))]:=by
 refine cw F.Qt aa ?_
 have G:bP p (p.cX D).2:=hp.cX D
 refine eD (PS.bi p++[(1001,.one 121 8 [.vp 1000 0]),(1002,.one 50 328 [d0,d0,d0,d0,dN,dN,dS [],dS [],dN,d0,d0,dN,d0,dN,dN,dN,dN,dN,d0,d0,d0])]) (dq aa aa ⟨aa,aa,trivial⟩) (al 2 aa (ai (ae 1 aa (ak (qY (eJ:=[.vp 1001 0,.vp 1002 0]) (b9:=[.vp 1001 0,.vp 1002 0]) (Bi:=PS.bi p++[(1001,.one 121 8 [.vp 1000 0]),(1002,.one 50 328 [d0,d0,d0,d0,dN,dN,dS [],dS [],dN,d0,d0,dN,d0,dN,dN,dN,dN,dN,d0,d0,d0])]) [(1000,1000),(1050,1050),(1001,1001),(1002,1002)] 2000 aa aa aa aa aa aa aa aa aa (wq aa aa aa aa ⟨aa,aa,aa,aa,trivial⟩) (TV F I hp) (fun r Bn fT=>?_))))))
 obtain⟨rfl,rfl⟩:=fT
 refine eB (PS.bz (p.cX D).2++[(1001,.one 121 8 [.vp 1000 0]),(1002,.one 50 328 ((p.cX D).1.enc.map .d))]) (gn aa ⟨aa,aa,trivial⟩) (af (aK (ai (ae 6 aa (dc (g:=aV) aa (fun bM=>?_) (fun bM=>?_))))))
 ·refine ao aa (bM) (bN aa ?_)
  refine ao aa (bM) (ET (wL F G.ok) aa aa aa aa ?_)
  refine ao aa (bM) (CW aa aa ?_)
  refine ao aa (bM) (iD aa aa ?_)
  refine ak (cT aa (bM) aa ?_)
  refine af (aI aa (fun z=>?_) (fun z=>?_))
  ·have A:PS.fin (p.cX D).2=PS.fail (p.cX D).2 5:=by unfold PS.fin;rw[aw ⟨by simpa using bM,by simpa using z⟩]
   refine bD (ae 1 aa (dX (sK F G.ok 5) aa aa aa aa (af (eZ (bk 10 aa (c6 ?_))))))
   refine ax ?_
   rw[A]
   exact⟨_,PS.bz _++[(1001,.one 121 8 [.vp 1000 0]),(1002,.one 50 328 ((p.cX D).1.enc.map .d))],aa,gn aa ⟨aa,aa,trivial⟩,aa,aa⟩
  have A:PS.fin (p.cX D).2=(p.cX D).2:=by unfold PS.fin;rw[aj (fun k=>absurd k.2 (by simpa using z))]
  refine aQ (eZ (bk 10 aa (c6 ?_)))
  refine ax ?_
  rw[A]
  exact⟨_,PS.bz _++[(1001,.one 121 8 [.vp 1000 0]),(1002,.one 50 328 ((p.cX D).1.enc.map .d))],aa,gn aa ⟨aa,aa,trivial⟩,aa,aa⟩
 have A:PS.fin (p.cX D).2=(p.cX D).2:=by unfold PS.fin;rw[aj (fun k=>absurd k.1 (by simpa using bM))]
 refine en aa (bM) (en aa (bM) (en aa (bM) (en aa (bM) (ak (cJ aa (bM) aa ?_)))))
 refine af (eC aa aa (aQ (eZ (bk 10 aa (c6 ?_)))))
 refine ax ?_
 rw[A]
 exact⟨_,PS.bz _++[(1001,.one 121 8 [.vp 1000 0]),(1002,.one 50 328 ((p.cX D).1.enc.map .d))],aa,gn aa ⟨aa,aa,trivial⟩,aa,aa⟩
set_option maxHeartbeats 4000000 in
theorem TW{T:bd}(F:FT T){D:Rd}(z:hM T D){p:PS}(hp:bf p):bY T 63 [.vp 1001 0,.vp 1002 0] (PS.bz p++[(1001,.one 121 8 [.vp 1000 0]),(1002,.one 39 48 [dN,dN])]) fun r Bn=>r= .tuple []∧Bn=PS.bz (p.cW D false).2++[(1001,.one 121 8 [.vp 1000 0]),(1002,.one 39 48 ((p.cW D false).1.enc.map .d))]:=by
 refine cw F.f63 aa (bD (ae 1 aa (dX (wM F z hp false) aa aa aa aa (ae 1 aa (af ?_)))))
 exact⟨_,PS.bz (p.cW D false).2++[(1001,.one 121 8 [.vp 1000 0]),(1002,.one 39 48 ((p.cW D false).1.enc.map .d))],aa,gn aa ⟨aa,aa,trivial⟩,aa,aa⟩
set_option maxHeartbeats 4000000 in
theorem Wb{T:bd}(F:FT T){D:Rd}(I:hM T D){p:PS}(hp:bf p):bY T 60 [.vp 1000 0,.fn 63 [.vp 1001 0,.vp 1002 0]] (PS.bz p++[(1001,.one 121 8 [.vp 1000 0]),(1002,.one 39 48 [dN,dN])]) fun r Bn=>r= .tuple [dI (PS.fin (p.cW D false).2).pos,dI (PS.fin (p.cW D false).2).err]∧Bn=PS.bz (PS.fin (p.cW D false).2)++[(1001,.one 121 8 [.vp 1000 0]),(1002,.one 39 48 ((p.cW D false).1.enc.map .d))]:=by
 refine cw F.Qt aa ?_
 have G:bP p (p.cW D false).2:=hp.cW D false
 refine eD (PS.bz p++[(1001,.one 121 8 [.vp 1000 0]),(1002,.one 39 48 [dN,dN])]) (gn aa ⟨aa,aa,trivial⟩) (al 2 aa (ai (ae 1 aa (ak (qY (eJ:=[.vp 1001 0,.vp 1002 0]) (b9:=[.vp 1001 0,.vp 1002 0]) (Bi:=PS.bz p++[(1001,.one 121 8 [.vp 1000 0]),(1002,.one 39 48 [dN,dN])]) [(1000,1000),(1001,1001),(1002,1002)] 2000 aa aa aa aa aa aa aa aa aa (ES aa aa ⟨aa,aa,aa,aa,trivial⟩) (TW F I hp) (fun r Bn fT=>?_))))))
 obtain⟨rfl,rfl⟩:=fT
 refine eB (PS.bz (p.cW D false).2++[(1001,.one 121 8 [.vp 1000 0]),(1002,.one 39 48 ((p.cW D false).1.enc.map .d))]) (gn aa ⟨aa,aa,trivial⟩) (af (aK (ai (ae 6 aa (dc (g:=aV) aa (fun bM=>?_) (fun bM=>?_))))))
 ·refine ao aa (bM) (bN aa ?_)
  refine ao aa (bM) (ET (wL F G.ok) aa aa aa aa ?_)
  refine ao aa (bM) (CW aa aa ?_)
  refine ao aa (bM) (iD aa aa ?_)
  refine ak (cT aa (bM) aa ?_)
  refine af (aI aa (fun z=>?_) (fun z=>?_))
  ·have A:PS.fin (p.cW D false).2=PS.fail (p.cW D false).2 5:=by unfold PS.fin;rw[aw ⟨by simpa using bM,by simpa using z⟩]
   refine bD (ae 1 aa (dX (sK F G.ok 5) aa aa aa aa (af (eZ (bk 10 aa (c6 ?_))))))
   refine ax ?_
   rw[A]
   exact⟨_,PS.bz _++[(1001,.one 121 8 [.vp 1000 0]),(1002,.one 39 48 ((p.cW D false).1.enc.map .d))],aa,gn aa ⟨aa,aa,trivial⟩,aa,aa⟩
  have A:PS.fin (p.cW D false).2=(p.cW D false).2:=by unfold PS.fin;rw[aj (fun k=>absurd k.2 (by simpa using z))]
  refine aQ (eZ (bk 10 aa (c6 ?_)))
  refine ax ?_
  rw[A]
  exact⟨_,PS.bz _++[(1001,.one 121 8 [.vp 1000 0]),(1002,.one 39 48 ((p.cW D false).1.enc.map .d))],aa,gn aa ⟨aa,aa,trivial⟩,aa,aa⟩
 have A:PS.fin (p.cW D false).2=(p.cW D false).2:=by unfold PS.fin;rw[aj (fun k=>absurd k.1 (by simpa using bM))]
 refine en aa (bM) (en aa (bM) (en aa (bM) (en aa (bM) (ak (cJ aa (bM) aa ?_)))))
 refine af (eC aa aa (aQ (eZ (bk 10 aa (c6 ?_)))))
 refine ax ?_
 rw[A]
 exact⟨_,PS.bz _++[(1001,.one 121 8 [.vp 1000 0]),(1002,.one 39 48 ((p.cW D false).1.enc.map .d))],aa,gn aa ⟨aa,aa,trivial⟩,aa,aa⟩
set_option maxHeartbeats 4000000 in
theorem Rh{T:bd}(F:FT T){D:Rd}(A:hM T D){aA:List cb}(G:rF aA):Sound T 29 [.d (.sl (aA.map cb.enc))] fun r=>r= .tuple [ez (lP D aA).1.enc,dI (lP D aA).2.1,dI (lP D aA).2.2]:=by
 refine eh F.f29 aa (al 3 aa (ai (ae 3 aa (nf 11 5 1150 142 88 8 aa aa aa (ae 2 aa (af ?_))))))
 refine al 1 aa (aK (ai (ae 2 aa (ak (jU (b9:=[.vp 1000 0,.fn 61 [.vp 1001 0,.vp 1002 0]]) (Bi:=PS.bi (start aA)++[(1001,.one 121 8 [.vp 1000 0]),(1002,.one 50 328 [d0,d0,d0,d0,dN,dN,dS [],dS [],dN,d0,d0,dN,d0,dN,dN,dN,dN,dN,d0,d0,d0])]) [(1000,11),(1050,1150),(1001,5),(1002,6)] 2000 aa aa aa aa aa aa aa (wq aa aa aa aa ⟨aa,aa,aa,aa,trivial⟩) (Wa F A G.top) (fun r Bn fT=>?_))))))
 obtain⟨rfl,rfl⟩:=fT
 refine eB [(2,.one 50 328 [d0,d0,d0,d0,dN,dN,dS [],dS [],dN,d0,d0,dN,d0,dN,dN,dN,dN,dN,d0,d0,d0]),(6,.one 50 328 (((start aA).cX D).1.enc.map .d))] ⟨aa,aa,trivial⟩ (ae 5 aa (af ?_))
 refine al 2 aa (aI aa (fun eA=>?_) (fun eA=>?_))
 ·have z:lP D aA=({},(jL D aA).pos,(jL D aA).err):=by unfold lP;rw[aw (by unfold jL;simpa using eA)]
  refine al 6 aa (ax ?_)
  rw[z]
  exact⟨_,rfl,(by repeat(first|exact trivial|apply And.intro)),rfl⟩
 have z:lP D aA=(((start aA).cX D).1,0,0):=by unfold lP;rw[aj (by unfold jL;simpa using eA)]
 refine aQ (al 4 aa (ax ?_))
 rw[z]
 exact⟨_,rfl,(by repeat(first|exact trivial|apply And.intro)),rfl⟩
set_option maxHeartbeats 4000000 in
theorem Q6{T:bd}(F:FT T){D:Rd}(A:hM T D){aA:List cb}(G:rF aA):Sound T 30 [.d (.sl (aA.map cb.enc))] fun r=>r= .tuple [ez (lN D aA).1.enc,dI (lN D aA).2.1,dI (lN D aA).2.2]:=by
 refine eh F.f30 aa (al 3 aa (ai (ae 3 aa (jE 11 5 aa aa (ae 2 aa (af ?_))))))
 refine al 1 aa (aK (ai (ae 2 aa (ak (jU (b9:=[.vp 1000 0,.fn 63 [.vp 1001 0,.vp 1002 0]]) (Bi:=PS.bz (start aA)++[(1001,.one 121 8 [.vp 1000 0]),(1002,.one 39 48 [dN,dN])]) [(1000,11),(1001,5),(1002,6)] 2000 aa aa aa aa aa aa aa (ES aa aa ⟨aa,aa,aa,aa,trivial⟩) (Wb F A G.top) (fun r Bn fT=>?_))))))
 obtain⟨rfl,rfl⟩:=fT
 refine eB [(2,.one 39 48 [dN,dN]),(6,.one 39 48 (((start aA).cW D false).1.enc.map .d))] ⟨aa,aa,trivial⟩ (ae 5 aa (af ?_))
 refine al 2 aa (aI aa (fun eA=>?_) (fun eA=>?_))
 ·have z:lN D aA=(⟨[],[]⟩,(jP D aA).pos,(jP D aA).err):=by unfold lN;rw[aw (by unfold jP;simpa using eA)]
  refine al 6 aa (ax ?_)
  rw[z]
  exact⟨_,rfl,(by repeat(first|exact trivial|apply And.intro)),rfl⟩
 have z:lN D aA=(((start aA).cW D false).1,0,0):=by unfold lN;rw[aj (by unfold jP;simpa using eA)]
 refine aQ (al 4 aa (ax ?_))
 rw[z]
 exact⟨_,rfl,(by repeat(first|exact trivial|apply And.intro)),rfl⟩
open Go
def PS.ea(p:PS):Nat:=if p.err=0 then 0 else p.aJ
def PS.lY(a:Bool)(p:PS):List VV:=[.d (.sl (p.aA.map cb.enc)),dI (p.aJ:Nat),dI p.err,dI (p.ea:Nat),dI (p.depth:Nat),dB a]
def PS.bq(a:Bool)(p:PS):bo:=[(1000,.one 164 64 (p.lY a))]
def PS.be(a:Bool)(p:PS)(e:List aN):bo:=[(1000,.one 164 64 (p.lY a)),(1050,.acc 142 88 8 (e.map aN.enc))]
section
variable{T:bd}{VE:b0}{B:bo}{a a':Bool}
theorem wt{f:Nat}{l:List aF}{b9:List VV}{p A:PS}{R:VV}{Q:VV→bo→Prop}(h:bY T f b9 (p.bq a) fun r Bn=>r=R∧Bn=A.bq a')(G:aY B 1000=some (.one 164 64 (p.lY a)))
  (I:(kK 2000 VE&&(kL 2000 B&&clean VE (eM gj B) gj))=true) (J:i6 VE l=some (iN gj 2000 b9)) (K:R.cC gj 2000=R) (O:Q R (A.bq a'++eM gj B)):VI T (.call f l) VE B [1000] Q:=by
 obtain⟨U,z⟩:=iF I
 obtain⟨z,Y⟩:=iF z
 exact jU (Bi:=p.bq a) gj 2000 rfl rfl U z rfl Y J ⟨rfl,G,trivial⟩ h fun r Bn hp=>by
  obtain⟨rfl,rfl⟩:=hp
  rw[K]
  exact O
theorem bI{d:Key}{A:Option (List Nat)}{r:List bt}{f:Nat}{l:List aF}{b9:List VV}{p z:PS}{R:VV}{Q:b0→bo→Prop}(h:bY T f b9 (p.bq a) fun r Bn=>r=R∧Bn=z.bq a')(G:aY B 1000=some (.one 164 64 (p.lY a)))
  (I:(kK 2000 VE&&(kL 2000 B&&clean VE (eM gj B) gj))=true) (J:i6 VE l=some (iN gj 2000 b9)) (K:R.cC gj 2000=R) (O:VO T r ((d.n,R)::VE) (z.bq a'++eM gj B) Q):VO T (⟨some d,none,A,.call f l⟩::r) VE B Q:=ak (wt h G I J K O)
theorem yO{d:Key}{m:List Nat}{fl:List FL}{r:List bt}{f:Nat}{l:List aF}{b9:List VV}{p z:PS}{R:VV}{Q:b0→bo→Prop}(h:bY T f b9 (p.bq a) fun r Bn=>r=R∧Bn=z.bq a')(hk:nU [1000] m fl=true)(A:aY B 1000=some (.one 164 64 (p.lY a)))
  (G:(kK 2000 VE&&(kL 2000 B&&clean VE (eM gj B) gj))=true) (I:i6 VE l=some (iN gj 2000 b9)) (J:R.cC gj 2000=R) (K:VQ T r ((d.n,R)::VE) (z.bq a'++eM gj B) (.un::fl) Q):VQ T (⟨some d,none,some m,.call f l⟩::r) VE B fl Q:=eo hk (wt h A G I J K)
theorem p8{f:Nat}{l:List aF}{b9:List VV}{p A:PS}{P:VV→Prop}{Q:VV→bo→Prop}(h:bY T f b9 (p.bq a) fun r Bn=>P r∧Bn=A.bq a')(G:aY B 1000=some (.one 164 64 (p.lY a)))
  (I:(kK 2000 VE&&(kL 2000 B&&clean VE (eM gj B) gj))=true) (J:i6 VE l=some (iN gj 2000 b9)) (K:∀r,P r→Q (r.cC gj 2000) (A.bq a'++eM gj B)):VI T (.call f l) VE B [1000] Q:=by
 obtain⟨O,z⟩:=iF I
 obtain⟨z,U⟩:=iF z
 exact jU (Bi:=p.bq a) gj 2000 rfl rfl O z rfl U J ⟨rfl,G,trivial⟩ h fun r Bn hp=>by
  obtain⟨Y,rfl⟩:=hp
  exact K r Y
end
open Go
variable{p:PS}{a:Bool}
theorem cI{B L:bo}(z:aY B 1000=some (.one 164 64 (p.lY a)))(h2:br L B):br (p.bq a++L) B:=⟨z,h2⟩
theorem SX(h0:p.err=0){e:Int}(he:e≠0):(p.fail e).lY a=[.d (.sl (p.aA.map cb.enc)),dI (p.aJ:Nat),dI e,dI (p.aJ:Nat),dI (p.depth:Nat),dB a]:=by
 rw[show p.fail e={p with err:=e,pos:=p.tok.pos} from aw h0]
 show [VV.d (.sl (p.aA.map cb.enc)),dI (p.aJ:Nat),dI e,dI ((if e=0 then 0 else p.aJ:Nat):Nat),dI (p.depth:Nat),dB a]=_
 rw[aj he]
theorem tN(h0:p.err=0):p.step.lY a=[.d (.sl (p.aA.map cb.enc)),dI ((p.aJ+1:Nat):Int),dI p.err,dI (p.ea:Nat),dI (p.depth:Nat),dB a]:=by
 show [VV.d (.sl (p.aA.map cb.enc)),dI ((p.aJ+1:Nat):Int),dI p.err,dI ((if p.err=0 then 0 else p.aJ+1:Nat):Nat),dI (p.depth:Nat),dB a]=_
 unfold PS.ea
 rw[aw h0,aw h0]
theorem PS.xm{k:Int}{s:List UInt8}(h:p.next k s=true):p.err=0:=by
 unfold PS.next at h
 simp only[fc,e6] at h
 exact h.1
theorem TX(h0:¬p.err=0)(k:Int)(s:List UInt8):p.next k s=false:=by
 cases h:p.next k s
 ·rfl
 exact absurd (PS.xm h) h0
theorem r8(h0:¬p.err=0)(k:Int)(s:List UInt8):p.accept k s=(false,p):=aj (by rw[TX h0];decide)
theorem SY(h0:¬p.err=0)(s:List UInt8):p.aU [s]=p:=by
 show p.fV s=p
 rw[PS.zU (by rw[show p.keyword s=_ from r8 h0 1 s]),show p.keyword s=_ from r8 h0 1 s]
 exact aj h0
theorem J2(h0:¬p.err=0)(s:List UInt8):p.bA s=p:=by
 unfold PS.bA
 rw[show p.sign s=_ from r8 h0 5 s]
 exact aj h0
structure kp(T:bd)(D:Rd):Prop where
 day:∀s:List UInt8,s.length≤200→Sound T 201 [dS s] fun r=>r= .tuple [dI (D.day s).1,dI (D.day s).2]
 iC:∀s:List UInt8,s.length≤200→Sound T 198 [dS s] fun r=>r= .tuple [.agg [dI (D.iC s).1.1,dI (D.iC s).1.2],dI (D.iC s).2]
 kN:∀s,(D.day s).1≤1000000
 int:∀(neg:Bool)s,D.int neg s=if(d6 s:Int)<9223372036854775808∨(neg=true∧(d6 s:Int)=9223372036854775808) then some (if neg=true then-(d6 s:Int) else(d6 s:Int)) else none
open Go
set_option maxRecDepth 10000
theorem mh{T:bd}(F:FT T){a:Bool}{p:PS}(hp:p.ok){e:Int}(he:e≠0):bY T 158 [.vp 1000 0,dI e] (PS.bq a p) fun r Bn=>r= .tuple []∧Bn=PS.bq a (p.fail e):=by
 refine cw F.aaj aa (al 5 aa (aI aa (fun z=>?_) (fun z=>?_)))
 ·have h0:p.err=0:=by simpa using z
  refine al 5 aa (bD (ae 8 aa (af ?_)))
  exact⟨_,PS.bq a (p.fail e),rfl,⟨by rw[SX h0 he];rfl,trivial⟩,rfl,rfl⟩
 have h0:¬p.err=0:=by simpa using z
 have A:p.fail e=p:=aj h0
 refine aQ ?_
 rw[A];exact⟨_,PS.bq a p,rfl,⟨rfl,trivial⟩,rfl,rfl⟩
theorem zf{T:bd}(F:FT T){a:Bool}{p:PS}(hp:p.ok)(k:Int)(s:List UInt8):bY T 196 [.vp 1000 0,dI k,dS s] (PS.bq a p) fun r Bn=>r=dB (p.next k s)∧Bn=PS.bq a p:=by
 refine cw F.aaD aa ?_
 have A:(p.aA.map cb.enc)[p.aJ]?=some p.tok.enc:=by rw[im,hp.get];rfl
 refine al 1 aa (eZ (bk 6 aa (vK (g:=aR) aa (fun z=>?_) (fun z=>?_))))
 ·refine el aa (z) (bN aa ?_)
  refine el aa (z) (pH aa ?_)
  refine el aa (z) (dz aa ?_)
  refine ky aa (z) aa (df aa aa aa ?_)
  refine el aa (z) (bN aa ?_)
  refine el aa (z) (pH aa ?_)
  refine el aa (z) (dz aa ?_)
  refine ky aa (z) aa (df aa aa aa ?_)
  refine el aa (z) (kR (row:=p.tok.enc) aa aa A aa ?_)
  refine el aa (z) (tS aa ?_)
  refine ky aa (z) aa (mb aa aa ?_)
  refine el aa (z) (bN aa ?_)
  refine el aa (z) (hY aa aa ?_)
  refine c8 (cT aa (z) aa ?_)
  refine bk 1 aa (vK (g:=bX) aa (fun dy=>?_) (fun dy=>?_))
  ·refine el aa (dy) (bN aa ?_)
   refine el aa (dy) (pH aa ?_)
   refine el aa (dy) (dz aa ?_)
   refine ky aa (dy) aa (df aa aa aa ?_)
   refine el aa (dy) (bN aa ?_)
   refine el aa (dy) (pH aa ?_)
   refine el aa (dy) (dz aa ?_)
   refine ky aa (dy) aa (df aa aa aa ?_)
   refine el aa (dy) (kR (row:=p.tok.enc) aa aa A aa ?_)
   refine el aa (dy) (tS aa ?_)
   refine ky aa (dy) aa (mb aa aa ?_)
   refine el aa (dy) (bN aa ?_)
   refine el aa (dy) (oA aa aa ?_)
   refine c8 (cT aa (dy) aa ?_)
   refine bk 1 aa (c6 ?_)
   refine ax (⟨_,PS.bq a p,aa,⟨aa,trivial⟩,?_,aa⟩)
   clear F hp A
   simp_all [gB,PS.next]
  refine cU aa (dy) (cU aa (dy) (cU aa (dy) (iO aa (dy) (cU aa (dy) (cU aa (dy) (cU aa (dy) (iO aa (dy) (cU aa (dy) (cU aa (dy) ?_)))))))))
  refine iO aa (dy) (cU aa (dy) (cU aa (dy) (c8 (cJ aa (dy) aa ?_))))
  refine bk 1 aa (c6 ?_)
  refine ax (⟨_,PS.bq a p,aa,⟨aa,trivial⟩,?_,aa⟩)
  clear F hp A
  simp_all [gB,PS.next]
 refine cU aa (z) (cU aa (z) (cU aa (z) (iO aa (z) (cU aa (z) (cU aa (z) (cU aa (z) (iO aa (z) (cU aa (z) (cU aa (z) ?_)))))))))
 refine iO aa (z) (cU aa (z) (cU aa (z) (c8 (cJ aa (z) aa ?_))))
 refine bk 1 aa (cU aa aa (cU aa aa (cU aa aa (iO aa aa (cU aa aa (cU aa aa (cU aa aa (iO aa aa (cU aa aa ?_)))))))))
 refine cU aa aa (iO aa aa (cU aa aa (cU aa aa (bk 2 aa (c6 ?_)))))
 refine ax (⟨_,PS.bq a p,aa,⟨aa,trivial⟩,?_,aa⟩)
 clear F hp A
 simp_all [gB,PS.next]
theorem fN{T:bd}(F:FT T){a:Bool}{p:PS}(hp:p.ok)(s:List UInt8):bY T 146 [.vp 1000 0,dS s] (PS.bq a p) fun r Bn=>r=dB (p.keyword s).1∧Bn=PS.bq a (p.keyword s).2:=by
 refine cw F.Z9 aa (al 1 aa (ai (ae 2 aa (bI (zf F hp 1 s) aa aa aa aa (ae 1 aa (af ?_))))))
 refine aK (al 1 aa (aI aa (fun z=>?_) (fun z=>?_)))
 ·have h0:=PS.xm z
  have dT:=PS.lk hp (by decide) z
  have fy:=hp.d8
  have A:p.keyword s=(true,p.step):=aw z
  refine bD (ae 4 aa ?_)
  refine ak (cM rfl rfl (by omega) ?_)
  refine ae 3 aa (af ?_)
  refine al 2 aa (ax ?_)
  exact⟨_,PS.bq a (p.keyword s).2,rfl,⟨by rw[A,tN h0];rfl,trivial⟩,by simp[gB,A,z],rfl⟩
 have A:p.keyword s=(false,p):=aj (by rw[z];decide)
 refine aQ (al 2 aa (ax ?_))
 exact⟨_,PS.bq a (p.keyword s).2,rfl,⟨by rw[A];rfl,trivial⟩,by simp[gB,A,z],rfl⟩
theorem mG{T:bd}(F:FT T){a:Bool}{p:PS}(hp:p.ok)(s:List UInt8):bY T 151 [.vp 1000 0,dS s] (PS.bq a p) fun r Bn=>r=dB (p.sign s).1∧Bn=PS.bq a (p.sign s).2:=by
 refine cw F.aad aa (al 1 aa (ai (ae 2 aa (bI (zf F hp 5 s) aa aa aa aa (ae 1 aa (af ?_))))))
 refine aK (al 1 aa (aI aa (fun z=>?_) (fun z=>?_)))
 ·have h0:=PS.xm z
  have dT:=PS.lk hp (by decide) z
  have fy:=hp.d8
  have A:p.sign s=(true,p.step):=aw z
  refine bD (ae 4 aa ?_)
  refine ak (cM rfl rfl (by omega) ?_)
  refine ae 3 aa (af ?_)
  refine al 2 aa (ax ?_)
  exact⟨_,PS.bq a (p.sign s).2,rfl,⟨by rw[A,tN h0];rfl,trivial⟩,by simp[gB,A,z],rfl⟩
 have A:p.sign s=(false,p):=aj (by rw[z];decide)
 refine aQ (al 2 aa (ax ?_))
 exact⟨_,PS.bq a (p.sign s).2,rfl,⟨by rw[A];rfl,trivial⟩,by simp[gB,A,z],rfl⟩
theorem jb{T:bd}(F:FT T){a:Bool}{p:PS}(hp:p.ok)(s:List UInt8):bY T 147 [.vp 1000 0,dS s] (PS.bq a p) fun r Bn=>r= .tuple []∧Bn=PS.bq a (p.aU [s]):=by
 refine cw F.Z' aa (ai (ae 6 aa (dc (g:=aL) aa (fun z=>?_) (fun z=>?_))))
 ·refine ao aa (z) (bN aa ?_)
  refine ao aa (z) (bN aa ?_)
  refine ao aa (z) (wt (fN F hp s) aa aa aa aa ?_)
  refine ao aa (z) (jH aa ?_)
  refine ak (cT aa (z) aa ?_)
  refine af (aI aa (fun A=>?_) (fun A=>?_))
  ·have hk:(p.keyword s).1=false:=by simpa using A
   have G:p.aU [s]=(p.keyword s).2.fail 5:=PS.zU hk
   refine bD (ae 1 aa ?_)
   refine bI (mh F (PS.w3 hp s) (by decide)) rfl rfl rfl rfl ?_
   refine af ?_
   rw[G]
   exact⟨_,PS.bq a _,aa,⟨aa,trivial⟩,aa,aa⟩
  have hk:(p.keyword s).1=true:=by simpa using A
  have G:p.aU [s]=(p.keyword s).2:=PS.CX hk
  refine aQ ?_
  rw[G]
  exact⟨_,PS.bq a _,aa,⟨aa,trivial⟩,aa,aa⟩
 have h0:¬p.err=0:=by simpa using z
 have G:p.aU [s]=p:=SY h0 s
 refine aO aa (z) (aO aa (z) (aO aa (z) (aO aa (z) (ak (cJ aa (z) aa ?_)))))
 refine af (eC aa aa (aQ ?_))
 rw[G]
 exact⟨_,PS.bq a _,aa,⟨aa,trivial⟩,aa,aa⟩
theorem oz{T:bd}(F:FT T){a:Bool}{p:PS}(hp:p.ok)(s:List UInt8):bY T 149 [.vp 1000 0,dS s] (PS.bq a p) fun r Bn=>r= .tuple []∧Bn=PS.bq a (p.bA s):=by
 refine cw F.aab aa (ai (ae 6 aa (dc (g:=aL) aa (fun z=>?_) (fun z=>?_))))
 ·refine ao aa (z) (bN aa ?_)
  refine ao aa (z) (bN aa ?_)
  refine ao aa (z) (wt (mG F hp s) aa aa aa aa ?_)
  refine ao aa (z) (jH aa ?_)
  refine ak (cT aa (z) aa ?_)
  refine af (aI aa (fun A=>?_) (fun A=>?_))
  ·have hk:(p.sign s).1=false:=by simpa using A
   have G:p.bA s=(p.sign s).2.fail 5:=aj (by rw[hk];decide)
   refine bD (ae 1 aa ?_)
   refine bI (mh F (PS.zV hp s) (by decide)) rfl rfl rfl rfl ?_
   refine af ?_
   rw[G]
   exact⟨_,PS.bq a _,aa,⟨aa,trivial⟩,aa,aa⟩
  have hk:(p.sign s).1=true:=by simpa using A
  have G:p.bA s=(p.sign s).2:=aw hk
  refine aQ ?_
  rw[G]
  exact⟨_,PS.bq a _,aa,⟨aa,trivial⟩,aa,aa⟩
 have h0:¬p.err=0:=by simpa using z
 have G:p.bA s=p:=J2 h0 s
 refine aO aa (z) (aO aa (z) (aO aa (z) (aO aa (z) (ak (cJ aa (z) aa ?_)))))
 refine af (eC aa aa (aQ ?_))
 rw[G]
 exact⟨_,PS.bq a _,aa,⟨aa,trivial⟩,aa,aa⟩
theorem vW{T:bd}(F:FT T){a:Bool}{p:PS}(hp:p.ok){k:Int}(l8:k≠6):bY T 148 [.vp 1000 0,dI k] (PS.bq a p) fun r Bn=>r=dS (p.take k 0).1∧Bn=PS.bq a (p.take k 0).2:=by
 refine cw F.aaa aa ?_
 have z:(p.aA.map cb.enc)[p.aJ]?=some p.tok.enc:=by rw[im,hp.get];rfl
 refine al 1 aa (aK (al 5 aa (aI aa (fun I=>?_) (fun I=>?_))))
 ·have h0:¬p.err=0:=by simpa using I
  have G:p.take k 0=([],p):=by unfold PS.take;rw[aj h0]
  refine al 1 aa (ax ?_)
  rw[G]
  exact⟨_,PS.bq a _,aa,⟨aa,trivial⟩,aa,aa⟩
 have h0:p.err=0:=by simpa using I
 refine aQ (aK (eZ (bk 8 aa (c8 (kR (row:=p.tok.enc) aa aa z aa ?_)))))
 refine bk 3 aa (c8 (iD aa aa ?_))
 refine c6 (aI aa (fun A=>?_) (fun A=>?_))
 ·have hk:¬p.tok.kind=k:=by simpa using A
  have G:p.take k 0=([],p.fail 5):=by unfold PS.take;rw[aw h0,aj hk]
  refine ai (ae 1 aa ?_)
  refine bI (mh F hp (by decide)) rfl rfl rfl rfl ?_
  refine af (al 1 aa (ax ?_))
  rw[G]
  exact⟨_,PS.bq a _,aa,⟨aa,trivial⟩,aa,aa⟩
 have hk:p.tok.kind=k:=by simpa using A
 have dT:=PS.lO hp l8 hk
 have fy:=hp.d8
 have G:p.take k 0=(p.tok.text,p.step):=by unfold PS.take;rw[aw h0,aw hk,aw rfl]
 have J:((p.aJ+1:Nat):Int) -Int.ofNat 1=((p.aJ:Nat):Int):=by simp only[bb];omega
 refine aQ (ai (ae 4 aa ?_))
 refine ak (cM rfl rfl (by omega) ?_)
 refine ae 3 aa (af ?_)
 refine eZ (bk 8 aa ?_)
 refine c8 (gm rfl rfl (by simp only[bb];omega) (by simp only[bb];omega) ?_)
 rw[J]
 refine c8 (kR (row:=p.tok.enc) aa aa z aa ?_)
 refine bk 3 aa (c6 ?_)
 refine ax ?_
 rw[G]
 exact⟨_,PS.bq a p.step,rfl,⟨by rw[tN h0];rfl,trivial⟩,rfl,rfl⟩
theorem OW{T:bd}(F:FT T){a:Bool}{p:PS}(hp:p.ok)(h0:p.err=0)(dT:p.aJ+1<p.aA.length):bY T 275 [.vp 1000 0] (PS.bq a p) fun r Bn=>r=dB p.enter.1∧Bn=PS.bq a (if p.enter.1=true then p.enter.2.step else p.enter.2):=by
 refine cw F.abm aa (al 1 aa (aK (al 5 aa (aI aa (fun z=>?_) (fun z=>?_)))))
 ·have A:p.depth=60:=by have:=hp.kN;simp at z;omega
  have G:p.enter=(false,p.fail 19):=aw A
  refine ai (ae 1 aa ?_)
  refine bI (mh F hp (by decide)) rfl rfl rfl rfl ?_
  refine af (al 1 aa (ax ?_))
  rw[G]
  exact⟨_,PS.bq a (p.fail 19),aa,⟨aa,trivial⟩,aa,aa⟩
 have A:¬p.depth=60:=by simp at z;omega
 have hle:=hp.kN
 have fy:=hp.d8
 have G:p.enter=(true,{p with depth:=p.depth+1}):=aj A
 refine aQ (ai (ae 4 aa ?_))
 refine ak (cM rfl rfl (by omega) ?_)
 refine ae 3 aa (af ?_)
 refine ai (ae 4 aa ?_)
 refine ak (cM rfl rfl (by omega) ?_)
 refine ae 3 aa (af ?_)
 refine al 1 aa (ax ?_)
 rw[G]
 exact⟨_,PS.bq a (PS.step {p with depth:=p.depth+1}),rfl,⟨by rw[tN (p:={p with depth:=p.depth+1}) h0];rfl,trivial⟩,rfl,rfl⟩
open Go
theorem Ir{n:Int}{m:Nat}(h:n=(m:Int))(z:m<18446744073709551616):IntKind.u64.wrap n=(m:Int):=by
 subst h
 simp[IntKind.wrap,IntKind.bits,IntKind.signed]
 omega
theorem Xa{c:UInt8}(h:48≤c.toNat∧c.toNat≤57):IntKind.u8.wrap ((c.toNat:Int) -(Int.ofNat 48))=((c.toNat-48:Nat):Int):=by
 simp[IntKind.wrap,IntKind.bits,IntKind.signed]
 omega
theorem RD{s:List UInt8}{i:Nat}{c:UInt8}(h:s[i]?=some c):d6 (s.take (i+1))=d6 (s.take i)*10+(c.toNat-48):=by
 rw[xW,h]
 unfold d6
 rw[xX]
 rfl
theorem KC{s:List UInt8}(z:∀c,c∈s→48≤c.toNat∧c.toNat≤57):d6 s<10^s.length:=by
 have aux:∀(s:List UInt8)(n:Nat),(∀c,c∈s→48≤c.toNat∧c.toNat≤57)→s.foldl (fun n c=>n*10+(c.toNat-48)) n<(n+1)*10^s.length:=by
  intro s
  induction s with
  |nil=>intro n _;simp
  |cons c r G=>
   intro n A
   have J:=A c (kG ..)
   have h2:=G (n*10+(c.toNat-48)) fun d z=>A d (nZ _ z)
   have I:(n*10+(c.toNat-48)+1)*10^r.length≤((n+1)*10)*10^r.length:=kZ _ (by omega)
   calc _<_:=h2
    _≤_:=I
    _=(n+1)*10^(r.length+1):=by rw[yz,AT,mY 10]
 have:=aux s 0 z
 rw[jx,sN] at this
 exact this
theorem QX{s:List UInt8}(h:nO s){i:Nat}(hi:i<s.length):d6 (s.take i)<10^18:=by
 have z:=KC (s:=s.take i) fun c A=>h.2.2 c (AZ A)
 rw[jw] at z
 have h2:10^min i s.length≤10^18:=AV (by decide) (by have:=h.2.1;omega)
 omega
open Go
set_option maxRecDepth 10000
theorem UZ{T:bd}(F:FT T){s:List UInt8}(z:nO s):bY T 202 [dS s] [] fun r Bn=>r= .d (.i .u64 (d6 s:Nat))∧Bn=[]:=by
 refine cw F.aaJ aa (al 1 aa (al 1 aa (aK (al 1 aa (bJ (dY (fun k VE B=>∃i:Nat,i≤s.length∧k=s.length-i∧br [(0,dS s),(3,.d (.i .u64 (d6 (s.take i):Nat))),(4,dI (i:Nat))] VE∧br [] B) ?_ (k:=s.length) ⟨0,da _,aa,⟨aa,aa,aa,trivial⟩,trivial⟩))))))
 rintro k VE B⟨i,hi,rfl,K,O⟩
 refine dn _ _ K O (aK (al 4 aa (aI aa (fun A=>?_) (fun A=>?_))))
 ·have dT:i<s.length:=by simpa using A
  obtain⟨c,G⟩:∃c,s[i]?=some c:=⟨_,eP dT⟩
  have U:=QX z dT
  have I:=z.2.2 c (kY G)
  refine aQ (aK (bJ (bD (ae 1 aa (ak (MC aa aa ?_))))))
  rw[Ir (m:=d6 (s.take i)*10) (by simp only[bb];omega) (by omega)]
  refine ae 2 aa (ak (fG aa aa G ?_))
  refine ak (Hj aa aa ?_)
  rw[Xa I]
  refine ae 1 aa ?_
  rw[Ir (m:=c.toNat-48) rfl (by omega)]
  refine ak (CV aa aa ?_)
  rw[Ir (m:=d6 (s.take i)*10+(c.toNat-48)) (by omega) (by omega)]
  refine ae 1 aa (af ?_)
  refine bD (ae 1 aa ?_)
  refine ak (cM rfl rfl (by have:=z.2.1;omega) ?_)
  refine ae 1 aa (af ?_)
  refine⟨s.length-(i+1),by omega,i+1,by omega,rfl,⟨rfl,?_,rfl,trivial⟩,trivial⟩
  rw[RD G];rfl
 have J:s.length≤i:=by simpa using A
 refine dD (al 2 aa (ax ?_))
 rw[pf J]
 exact⟨_,[],aa,trivial,aa,aa⟩
open Go
variable{p:PS}{a:Bool}{D:Rd}
theorem t8{k:Int}(z:p.err=0)(h2:p.tok.kind=k):p.take k 0=(p.tok.text,p.step):=by unfold PS.take;rw[aw z,aw h2,aw rfl]
theorem zX{k:Int}(h:(p.take k 0).2.err=0):p.err=0∧p.tok.kind=k:=by
 unfold PS.take at h
 split at h
 ·rename_i z
  split at h
  ·rename_i h2;exact⟨z,h2⟩
  rw[show(p.fail 5).err=5 by unfold PS.fail;rw[aw z]] at h;cases h
 rename_i z;exact absurd h z
theorem zD{k e:Int}(h:¬(p.take k 0).2.err=0):p.take k e=([],(p.take k 0).2)∧p.called k=false:=by
 by_cases z:p.err=0
 ·by_cases h2:p.tok.kind=k
  ·rw[t8 z h2] at h;exact absurd z h
  exact⟨by unfold PS.take;rw[aw z,aj h2,aw z,aj h2],by unfold PS.called;rw[decide_eq_false h2,Bool.and_false]⟩
 exact⟨by unfold PS.take;rw[aj z,aj z],by unfold PS.called;rw[decide_eq_false z];rfl⟩
theorem Cp{k:Int}(h:p.called k=true):p.err=0∧p.tok.kind=k:=by
 unfold PS.called at h
 simpa using h
theorem Cy{k e:Int}(z:p.called k=true)(he:e≠0):p.take k e=([],p.fail e):=by
 obtain⟨A,h2⟩:=Cp z
 unfold PS.take;rw[aw A,aw h2,aj he]
theorem vM{e:Int}(z:p.err=0):(p.fail e).err=e:=by unfold PS.fail;rw[aw z]
theorem Sf{l:Int}(h:¬(p.take 3 0).2.err=0):p.number l=(0,(p.take 3 0).2):=by
 unfold PS.number
 rw[(zD h).1,(zD (e:=0) h).2]
 rfl
theorem KD{l:Int}(z:p.called 3=true)(A:mD l p.tok.text=10):p.number l=(0,p.fail 10):=by
 unfold PS.number
 rw[A,Cy z (by decide),aj (fun k=>absurd k.2 (by decide))]
theorem U0(h:¬(p.take 4 0).2.err=0):(p.day D).2=(p.take 4 0).2:=by unfold PS.day;rw[(zD h).1]
theorem G4(z:p.called 4=true)(A:p.take 4 0=(p.tok.text,p.step))(G:D.jY p.tok.text=0):p.day D=((D.day p.tok.text).1,p.step):=by unfold PS.day;rw[G,A,aw z]
theorem CZ{e:Int}(A:p.called 4=true)(G:D.jY p.tok.text=e)(z:¬D.jY p.tok.text=0):(p.day D).2=p.fail e:=by unfold PS.day;rw[Cy A z,G]
theorem Gn{e:Int}(A:p.called 4=true)(G:D.jY p.tok.text=e)(z:¬D.jY p.tok.text=0):¬(p.day D).2.err=0:=by
 rw[CZ A G z,vM (Cp A).1,←G];exact z
theorem Sg(h:¬(p.take 4 0).2.err=0):(p.period D).2=(p.take 4 0).2:=by unfold PS.period;rw[(zD h).1]
theorem RE(z:p.called 4=true)(A:p.take 4 0=(p.tok.text,p.step))(G:(D.iC p.tok.text).2=0):p.period D=((D.iC p.tok.text).1,p.step):=by unfold PS.period;rw[G,A,aw z]
theorem KE(A:p.called 4=true)(z:¬(D.iC p.tok.text).2=0):(p.period D).2=p.fail (D.iC p.tok.text).2:=by unfold PS.period;rw[Cy A z]
theorem QY(A:p.called 4=true)(z:¬(D.iC p.tok.text).2=0):¬(p.period D).2.err=0:=by
 rw[KE A z,vM (Cp A).1];exact z
theorem r5(h0:p.err=0):p.lY a=[.d (.sl (p.aA.map cb.enc)),dI (p.aJ:Nat),dI p.err,dI (p.step.ea:Nat),dI (p.depth:Nat),dB a]:=by
 show [VV.d (.sl (p.aA.map cb.enc)),dI (p.aJ:Nat),dI p.err,dI ((if p.err=0 then 0 else p.aJ:Nat):Nat),dI (p.depth:Nat),dB a]=[VV.d (.sl (p.aA.map cb.enc)),dI (p.aJ:Nat),dI p.err,dI ((if p.err=0 then 0 else p.aJ+1:Nat):Nat),dI (p.depth:Nat),dB a]
 rw[aw h0,aw h0]
theorem G5{T:bd}(F:FT T){s:List UInt8}(z:nO s):Sound T 202 [dS s] fun r=>r= .d (.i .u64 (d6 s:Nat)):=bY.mono (UZ F z) fun v B h=>⟨by rw[h.1];trivial,h.1⟩
end Go.Ev.Pp
