/- Part 16 of rules for walks through the code of a program, and of such walks; what each part proves is said by its theorems. -/
import Derived.Test.YtddbkonalipepaaGreatDoorS15
set_option linter.unusedVariables false
set_option linter.unusedSimpArgs false
namespace Go.Ev.Pp
open Go
set_option maxRecDepth 10000
theorem qo{T:bf}(F:FT T){D:Rd}(I:g7 T D){p:PS}(hp:bd p):bV T 151 [.vp 1000 0] (PS.bz p) fun r Bn=>r=dI p.hM.1∧Bn=PS.bz p.hM.2:=by
 refine cl F.Y5 aa (ak 1 aa (aM (ai (ae 1 aa (dU (nB F hp.ok e6) aa aa aa aa (ae 1 aa (af ?_)))))))
 refine aJ aa (fun A=>?_) (fun A=>?_)
 ·have z:(p.keyword e6).1=false:=by simpa using A
  have G:p.hM=(1099511627776,p):=by unfold PS.hM;rw[aj (by rw[z];decide)]
  rw[PS.cK z]
  refine ak 1 aa (ax ?_)
  rw[G]
  exact⟨_,PS.bz _,aa,fA aa,aa,aa⟩
 have z:(p.keyword e6).1=true:=by simpa using A
 have G:p.hM=((p.keyword e6).2.aU [jZ]).number (-1):=by unfold PS.hM;rw[aq z]
 have h2:=(hp.kw e6).top.dD [jZ]
 refine aT (ai (ae 2 aa (gB 7 7 aa aa (fun _=>⟨aa,aa⟩) ?_)))
 refine dU (qJ F (hp.kw e6).ok [jZ] (by decide)) rfl rfl rfl rfl ?_
 refine af (ai (ae 1 aa (dU (T1 F I h2.st (-1)) aa aa aa aa (ae 1 aa (af ?_)))))
 refine ax ?_
 rw[G]
 exact⟨_,PS.bz _,aa,fA aa,aa,aa⟩
set_option maxHeartbeats 1000000 in
theorem xv{T:bf}(F:FT T){p:PS}(hp:bd p)(a:Bool):bV T 190 [.vp 1000 0,dB a] (PS.bi p) fun r Bn=>r=dS (p.alias a).1∧Bn=PS.bi (p.alias a).2:=by
 refine cl F.Zr aa (ak 1 aa (aM (ai (ae 1 aa (bh (next F hp.ok 1 e6) aa aa aa aa aa (ae 1 aa (af ?_)))))))
 refine aJ aa (fun O=>?_) (fun O=>?_)
 ·have G:p.next 1 e6=false:=by simpa using O
  have I:p.alias a=([],p):=by unfold PS.alias;rw[aq G]
  refine ak 1 aa (ax ?_)
  rw[I]
  exact⟨_,PS.bi _,aa,cH aa aa,aa,aa⟩
 have G:p.next 1 e6=true:=by simpa using O
 have dR:=PS.kR hp.ok (kind:=1) (by decide) G
 have fi:=hp.ok.dY
 have U:=hp.step (by unfold PS.next at G;simp only[fv,eP] at G;exact G.1) dR
 have K:(p.ay.map cL.enc)[p.aI+1]?=some p.after.enc:=by rw[iO,eY dR];unfold PS.after;rw[eY dR];rfl
 refine aT (aM (eU (bm 8 aa ?_)))
 refine dE (cV rfl rfl (by omega) ?_)
 refine dE (lS (row:=p.after.enc) aa aa K aa ?_)
 refine bm 3 aa (da ?_)
 refine ai (ae 2 aa (cX (g:=bx) aa (fun z=>?_) (fun z=>?_)))
 ·refine ao aa (z) (dq aa ?_)
  refine ao aa (z) (cW aa aa aa ?_)
  refine ao aa (z) (hH aa aa ?_)
  refine al (cS aa (z) aa ?_)
  refine ae 1 aa (cX (g:=bU) aa (fun A=>?_) (fun A=>?_))
  ·refine ao aa (A) (dq aa ?_)
   refine ao aa (A) (cW aa aa aa ?_)
   refine ao aa (A) (oj (b:=jZ) aa aa ?_)
   refine al (cS aa (A) aa ?_)
   refine af (aJ aa (fun J=>?_) (fun J=>?_))
   ·have I:p.alias a=([],p):=by unfold PS.alias;rw[aj (by rw[G];decide),aq ⟨by simpa using z,by simpa using A,by simpa using J⟩]
    refine ak 1 aa (ax ?_)
    rw[I]
    exact⟨_,PS.bi _,aa,cH aa aa,aa,aa⟩
   have I:p.alias a=p.step.name:=by unfold PS.alias;rw[aj (by rw[G];decide),aj (fun k=>absurd k.2.2 (by simpa using J))]
   refine aT (ai (ae 4 aa ?_))
   refine al (cV rfl rfl (by omega) ?_)
   refine ae 3 aa (af ?_)
   refine ai (ae 1 aa (bh (name F U.st) aa aa aa aa aa (ae 1 aa (af ?_))))
   refine ax ?_
   rw[I]
   exact⟨_,PS.bi _,aa,cH aa aa,aa,aa⟩
  have I:p.alias a=p.step.name:=by unfold PS.alias;rw[aj (by rw[G];decide),aj (fun k=>absurd k.2.1 (by simpa using A))]
  refine d6 aa (A) (d6 aa (A) (d6 aa (A) (al (cI aa (A) aa ?_))))
  refine af (eI aa aa (aT (ai (ae 4 aa ?_))))
  refine al (cV rfl rfl (by omega) ?_)
  refine ae 3 aa (af ?_)
  refine ai (ae 1 aa (bh (name F U.st) aa aa aa aa aa (ae 1 aa (af ?_))))
  refine ax ?_
  rw[I]
  exact⟨_,PS.bi _,aa,cH aa aa,aa,aa⟩
 have I:p.alias a=p.step.name:=by unfold PS.alias;rw[aj (by rw[G];decide),aj (fun k=>by rw[k.1] at z;cases z)]
 refine d6 aa (z) (d6 aa (z) (d6 aa (z) (al (cI aa (z) aa ?_))))
 refine ae 1 aa (d6 aa aa (d6 aa aa (d6 aa aa (ae 1 aa (af ?_)))))
 refine eI aa aa (aT (ai (ae 4 aa ?_)))
 refine al (cV rfl rfl (by omega) ?_)
 refine ae 3 aa (af ?_)
 refine ai (ae 1 aa (bh (name F U.st) aa aa aa aa aa (ae 1 aa (af ?_))))
 refine ax ?_
 rw[I]
 exact⟨_,PS.bi _,aa,cH aa aa,aa,aa⟩
theorem Gx{T:bf}(F:FT T){p:PS}(hp:bd p)(a:Bool):bV T 191 [.vp 1000 0,dB a] (PS.bi p) fun r Bn=>r=ep (p.source a).1.enc∧Bn=PS.bi (p.source a).2:=by
 refine cl F.Zs aa (ak 1 aa (ai (ae 1 aa (bh (name F hp.st) aa aa aa aa aa (ae 3 aa (af ?_))))))
 refine ai (ae 2 aa (bh (xv F hp.name.top a) aa aa aa aa aa (ae 2 aa (af ?_))))
 exact ak 2 aa (ax (⟨_,PS.bi (p.source a).2,aa,cH aa aa,aa,aa⟩))
set_option maxHeartbeats 2000000 in
theorem NY{T:bf}(F:FT T){D:Rd}(U:g7 T D){p:PS}(hp:bd p):bV T 155 [.vp 1000 0] (PS.bi p) fun r Bn=>r=ep (p.item D).1.enc∧Bn=PS.bi (p.item D).2:=by
 refine cl F.Y7 aa (ak 1 aa (ak 3 aa (aM (bN (ai (ae 1 aa (bh (keyword F hp.ok jw) aa aa aa aa aa (ae 1 aa (af ?_)))))))))
 refine aJ aa (fun O=>?_) (fun O=>?_)
 ·have z:p.iE D=((1, -1),((((p.keyword jw).2.bw cg).bw eM).bw dG)):=by unfold PS.iE;rw[aq O]
  have Y:=hp.kw jw
  have Z:=Y.top.gP cg
  have g3:=Z.top.gP eM
  have A:=hp.iE D
  rw[z] at A
  have K:p.item D=(⟨1, -1,(((((p.keyword jw).2.bw cg).bw eM).bw dG).alias false).1⟩,(((((p.keyword jw).2.bw cg).bw eM).bw dG).alias false).2):=by unfold PS.item;rw[z]
  refine ai (ae 1 aa (bh (bw F Y.ok cg) aa aa aa aa aa (af (ai (ae 1 aa (bh (bw F Z.ok eM) aa aa aa aa aa (af (ai (ae 1 aa ?_)))))))))
  refine bh (bw F g3.ok dG) aa aa aa aa aa (af (bG (ae 4 aa (af ?_))))
  refine aM (ai (ae 4 aa (ao aa aa (dq aa ?_))))
  refine ao aa aa (cW aa aa aa ?_)
  refine ao aa aa (iu aa aa ?_)
  refine ae 1 aa (af ?_)
  refine eI aa aa (aT (ai (ae 1 aa (bh (xv F A.top false) aa aa aa aa aa (ae 2 aa (af ?_))))))
  refine ak 2 aa (ax ?_)
  rw[K]
  exact⟨_,PS.bi _,aa,cH aa aa,aa,aa⟩
 rw[PS.cK O]
 refine ai (ae 1 aa (bh (keyword F hp.ok nk) aa aa aa aa aa (ae 1 aa (af ?_))))
 refine aJ aa (fun et=>?_) (fun et=>?_)
 ·have I:p.agg=(2,(p.keyword nk).2):=by unfold PS.agg;rw[aq et]
  have G:=hp.kw nk
  generalize (p.keyword nk).2=q at I G⊢
  have z:p.iE D=((2,(q.fJ D).1),(q.fJ D).2):=by unfold PS.iE;rw[aj (by rw[O];decide),aj (by rw[I];show¬((2:Int)=0);decide),I]
  have A:=hp.iE D
  rw[z] at A
  have K:p.item D=(⟨2,(q.fJ D).1,((q.fJ D).2.alias false).1⟩,((q.fJ D).2.alias false).2):=by unfold PS.item;rw[z]
  refine bG (ae 2 aa (af ?_))
  refine aM (ai (ae 4 aa (ao aa aa (dq aa ?_))))
  refine ao aa aa (cW aa aa aa ?_)
  refine ao aa aa (iu aa aa ?_)
  refine ae 1 aa (af ?_)
  refine e7 aa aa (ai (ae 1 aa (bh (bw F G.ok cg) aa aa aa aa aa (af (ai (ae 1 aa (bh (uB F U (G.top.gP cg).top) aa aa aa aa aa (ae 2 aa (af ?_)))))))))
  refine bG (ae 1 aa (bh (bw F ((G.top.gP cg).top.expr D).ok dG) aa aa aa aa aa (af (ai (ae 1 aa (bh (xv F A.top false) aa aa aa aa aa (ae 2 aa (af ?_))))))))
  refine ak 2 aa (ax ?_)
  rw[K]
  exact⟨_,PS.bi _,aa,cH aa aa,aa,aa⟩
 rw[PS.cK et]
 refine ai (ae 1 aa (bh (keyword F hp.ok nm) aa aa aa aa aa (ae 1 aa (af ?_))))
 refine aJ aa (fun J=>?_) (fun J=>?_)
 ·have I:p.agg=(3,(p.keyword nm).2):=by unfold PS.agg;rw[aj (by rw[et];decide),aq J]
  have G:=hp.kw nm
  generalize (p.keyword nm).2=q at I G⊢
  have z:p.iE D=((3,(q.fJ D).1),(q.fJ D).2):=by unfold PS.iE;rw[aj (by rw[O];decide),aj (by rw[I];show¬((3:Int)=0);decide),I]
  have A:=hp.iE D
  rw[z] at A
  have K:p.item D=(⟨3,(q.fJ D).1,((q.fJ D).2.alias false).1⟩,((q.fJ D).2.alias false).2):=by unfold PS.item;rw[z]
  refine bG (ae 2 aa (af ?_))
  refine aM (ai (ae 4 aa (ao aa aa (dq aa ?_))))
  refine ao aa aa (cW aa aa aa ?_)
  refine ao aa aa (iu aa aa ?_)
  refine ae 1 aa (af ?_)
  refine e7 aa aa (ai (ae 1 aa (bh (bw F G.ok cg) aa aa aa aa aa (af (ai (ae 1 aa (bh (uB F U (G.top.gP cg).top) aa aa aa aa aa (ae 2 aa (af ?_)))))))))
  refine bG (ae 1 aa (bh (bw F ((G.top.gP cg).top.expr D).ok dG) aa aa aa aa aa (af (ai (ae 1 aa (bh (xv F A.top false) aa aa aa aa aa (ae 2 aa (af ?_))))))))
  refine ak 2 aa (ax ?_)
  rw[K]
  exact⟨_,PS.bi _,aa,cH aa aa,aa,aa⟩
 rw[PS.cK J]
 refine ai (ae 1 aa (bh (keyword F hp.ok nq) aa aa aa aa aa (ae 1 aa (af ?_))))
 refine aJ aa (fun dn=>?_) (fun dn=>?_)
 ·have I:p.agg=(4,(p.keyword nq).2):=by unfold PS.agg;rw[aj (by rw[et];decide),aj (by rw[J];decide),aq dn]
  have G:=hp.kw nq
  generalize (p.keyword nq).2=q at I G⊢
  have z:p.iE D=((4,(q.fJ D).1),(q.fJ D).2):=by unfold PS.iE;rw[aj (by rw[O];decide),aj (by rw[I];show¬((4:Int)=0);decide),I]
  have A:=hp.iE D
  rw[z] at A
  have K:p.item D=(⟨4,(q.fJ D).1,((q.fJ D).2.alias false).1⟩,((q.fJ D).2.alias false).2):=by unfold PS.item;rw[z]
  refine bG (ae 2 aa (af ?_))
  refine aM (ai (ae 4 aa (ao aa aa (dq aa ?_))))
  refine ao aa aa (cW aa aa aa ?_)
  refine ao aa aa (iu aa aa ?_)
  refine ae 1 aa (af ?_)
  refine e7 aa aa (ai (ae 1 aa (bh (bw F G.ok cg) aa aa aa aa aa (af (ai (ae 1 aa (bh (uB F U (G.top.gP cg).top) aa aa aa aa aa (ae 2 aa (af ?_)))))))))
  refine bG (ae 1 aa (bh (bw F ((G.top.gP cg).top.expr D).ok dG) aa aa aa aa aa (af (ai (ae 1 aa (bh (xv F A.top false) aa aa aa aa aa (ae 2 aa (af ?_))))))))
  refine ak 2 aa (ax ?_)
  rw[K]
  exact⟨_,PS.bi _,aa,cH aa aa,aa,aa⟩
 rw[PS.cK dn]
 have I:p.agg=(0,p):=by unfold PS.agg;rw[aj (by rw[et];decide),aj (by rw[J];decide),aj (by rw[dn];decide)]
 have z:p.iE D=((0,(p.expr D).1),(p.expr D).2):=by unfold PS.iE;rw[aj (by rw[O];decide),aq (by rw[I])]
 have A:=hp.iE D
 rw[z] at A
 have K:p.item D=(⟨0,(p.expr D).1,((p.expr D).2.alias false).1⟩,((p.expr D).2.alias false).2):=by unfold PS.item;rw[z]
 refine bG (ae 1 aa (bh (uB F U hp) aa aa aa aa aa (ae 2 aa (af ?_))))
 refine aM (ai (ae 4 aa (d6 aa aa (d6 aa aa (d6 aa aa (ae 1 aa (af ?_)))))))
 refine eI aa aa (aT (ai (ae 1 aa (bh (xv F A.top false) aa aa aa aa aa (ae 2 aa (af ?_))))))
 refine ak 2 aa (ax ?_)
 rw[K]
 exact⟨_,PS.bi _,aa,cH aa aa,aa,aa⟩
theorem Eb{T:bf}(F:FT T){p:PS}(hp:bd p):bV T 157 [.vp 1000 0] (PS.bi p) fun r Bn=>r=dI p.dx.1∧Bn=PS.bi p.dx.2:=by
 refine cl F.Y9 aa (ak 1 aa (aM (ai (ae 6 aa (cX (g:=aC) aa (fun A=>?_) (fun A=>?_))))))
 ·have h0:p.err=0:=by simpa using A
  refine ao aa (A) (bM aa ?_)
  refine ao aa (A) (Hr (tok F hp.ok) aa aa aa aa aa ?_)
  refine ao aa (A) (Cn aa aa ?_)
  refine ao aa (A) (iu aa aa ?_)
  refine al (cS aa (A) aa ?_)
  refine af (aJ aa (fun bI=>?_) (fun bI=>?_))
  ·have I:p.j'=p.fail 5:=by unfold PS.j';rw[aq ⟨h0,by simpa using bI⟩]
   have J:=hp.j'
   rw[I] at J
   refine bG (ae 1 aa (bh (fail F hp.ok 5) aa aa aa aa aa (af (aM (ak 5 aa (aJ aa (fun z=>?_) (fun z=>?_)))))))
   ·have G:p.dx=(0,p.fail 5):=by unfold PS.dx;rw[I,aq (by simpa using z)]
    refine ak 1 aa (ax ?_)
    rw[G]
    exact⟨_,PS.bi _,aa,cH aa aa,aa,aa⟩
   have G:p.dx=(p.fail 5).fU:=by unfold PS.dx;rw[I,aj (by simpa using z)]
   refine aT (ai (ae 1 aa ?_))
   refine bh (fU F J.st (by simpa using z)) rfl rfl rfl rfl rfl ?_
   refine ae 1 aa (af ?_)
   refine ax ?_
   rw[G]
   exact⟨_,PS.bi _,aa,cH aa aa,aa,aa⟩
  have I:p.j'=p:=by unfold PS.j';rw[aj (fun k=>absurd k.2 (by simpa using bI))]
  refine aT (aM (ak 5 aa (aJ aa (fun z=>?_) (fun z=>?_))))
  ·have G:p.dx=(0,p):=by unfold PS.dx;rw[I,aq (by simpa using z)]
   refine ak 1 aa (ax ?_)
   rw[G]
   exact⟨_,PS.bi _,aa,cH aa aa,aa,aa⟩
  have G:p.dx=p.fU:=by unfold PS.dx;rw[I,aj (by simpa using z)]
  refine aT (ai (ae 1 aa ?_))
  refine bh (fU F hp.st (by simpa using z)) rfl rfl rfl rfl rfl ?_
  refine ae 1 aa (af ?_)
  refine ax ?_
  rw[G]
  exact⟨_,PS.bi _,aa,cH aa aa,aa,aa⟩
 have h0:¬p.err=0:=by simpa using A
 have I:p.j'=p:=by unfold PS.j';rw[aj (fun k=>h0 k.1)]
 refine d6 aa (A) (d6 aa (A) (d6 aa (A) (d6 aa (A) (al (cI aa (A) aa ?_)))))
 refine af (eI aa aa (aT (aM (ak 5 aa (aJ aa (fun z=>?_) (fun z=>?_))))))
 ·have G:p.dx=(0,p):=by unfold PS.dx;rw[I,aq (by simpa using z)]
  refine ak 1 aa (ax ?_)
  rw[G]
  exact⟨_,PS.bi _,aa,cH aa aa,aa,aa⟩
 have G:p.dx=p.fU:=by unfold PS.dx;rw[I,aj (by simpa using z)]
 refine aT (ai (ae 1 aa ?_))
 refine bh (fU F hp.st (by simpa using z)) rfl rfl rfl rfl rfl ?_
 refine ae 1 aa (af ?_)
 refine ax ?_
 rw[G]
 exact⟨_,PS.bi _,aa,cH aa aa,aa,aa⟩
set_option maxHeartbeats 2000000 in
theorem ME{T:bf}(F:FT T){D:Rd}(Lf:g7 T D){p:PS}(hp:bd p)(a:Bool):bV T 156 [.vp 1000 0,dB a] (PS.bi p) fun r Bn=>r= .d (.e8 ((p.jR D a).1.map Src.enc))∧Bn=PS.bi (p.jR D a).2:=by
 refine cl F.Y8 aa (ak 1 aa (ai (ae 2 aa (bh (Gx F hp a) aa aa aa aa aa (ae 2 aa (af ?_))))))
 refine bN (d7 (fun k VE B=>∃(l:List Src)(q:PS),oD D k l q=p.jR D a∧l≠[]∧l.length≤q.aI+1∧p.ay.length≤k+q.aI∧bO p q∧bu [(0,.vp 1000 0),(5,.bs 11 (l.map Src.enc).length 4)] VE∧bu (PS.bi q++[(11,.arr 146 48 4 (l.map Src.enc).length (l.map Src.enc))]) B) ?_ (k:=p.ay.length) ⟨[(p.source a).1],(p.source a).2,aa,pK _ _,mD (dh _),jP _ _,hp.source a,⟨aa,aa,trivial⟩,di aa aa ⟨aa,trivial⟩⟩)
 rintro k VE B⟨l,q,z,U,jk,hk,K,hV,hB⟩
 refine ey (PS.bi q++[(11,.arr 146 48 4 (l.map Src.enc).length (l.map Src.enc))]) hB ?_
 have hB:bu (PS.bi q++[(11,.arr 146 48 4 (l.map Src.enc).length (l.map Src.enc))]) (PS.bi q++[(11,.arr 146 48 4 (l.map Src.enc).length (l.map Src.enc))]):=di rfl rfl ⟨rfl,trivial⟩
 have gh:q.ay.length=p.ay.length:=by rw[K.ay]
 refine dy _ _ hV hB (bN (ai (ae 1 aa (bh (keyword F K.ok nK) aa aa aa aa aa (ae 1 aa (af ?_))))))
 refine aM (ak 1 aa (aJ aa (fun A=>?_) (fun A=>?_)))
 ·have h2:=K.top.kw nK
  refine bG (ae 2 aa (gB 16 16 aa aa (fun _=>⟨aa,aa⟩) ?_))
  refine bh (aU F h2.ok [j9] (by decide)) rfl rfl rfl rfl rfl ?_
  refine af (ai ?_)
  have O:q.join=some (true,((q.keyword nK).2.aU [j9])):=by unfold PS.join;rw[aq A]
  obtain⟨J,Y,jY⟩:=K.top.join O
  have fi:=K.ok.dY
  obtain⟨k,rfl⟩:∃k',k=k'+1:=⟨k-1,by omega⟩
  rw[yY O] at z
  rw[A]
  generalize ((q.keyword nK).2.aU [j9])=I at O J Y z⊢
  have g1:=J.top.source false
  have g2:=g1.top.dD [o9]
  have g3:=J.top.gC D true
  have ga:=g3.aI
  refine ae 1 aa (bh (Gx F J.top false) aa aa aa aa aa (ae 2 aa (af ?_)))
  refine ak 3 aa (ai (ae 2 aa (gB 27 27 aa aa (fun _=>⟨aa,aa⟩) ?_)))
  refine bh (aU F g1.ok [o9] (by decide)) rfl rfl rfl rfl rfl ?_
  refine af (ai (ae 1 aa (bh (uB F Lf g2.top) aa aa aa aa aa (ae 2 aa (af ?_)))))
  refine bG (ae 3 aa ?_)
  refine al (rT (rows:=l.map Src.enc) (ys:=[(I.gC D true).1.enc]) rfl rfl rfl (.bs (rows:=[(I.gC D true).1.enc]) rfl) (bS rfl) (by simp only[bJ,cF,dj,dJ];omega) ?_)
  refine ae 1 aa (af ?_)
  refine⟨k,fS k,l++[(I.gC D true).1],(I.gC D true).2,z,mh U _,?_,?_,(K.trans J).trans g3,?_,?_⟩
  ·rw[bJ,eG];show l.length+1≤(I.gC D true).2.aI+1;omega
  ·show p.ay.length≤k+(I.gC D true).2.aI;omega
  ·simp only[dX,ez,fw];exact⟨rfl,rfl,trivial⟩
  simp only[dX,ez,fw];exact di rfl rfl ⟨rfl,trivial⟩
 rw[PS.cK A]
 refine ai (ae 1 aa (bh (keyword F K.ok j9) aa aa aa aa aa (ae 1 aa (af ?_))))
 refine aJ aa (fun Z=>?_) (fun Z=>?_)
 ·have G:(q.keyword j9).1=false:=by simpa using Z
  have O:q.join=none:=by unfold PS.join;rw[aj (by rw[A];decide),aj (by rw[G];decide)]
  rw[BE O] at z
  rw[PS.cK G]
  refine ai (ae 1 aa (gB 21 11 aa aa (fun _=>⟨aa,aa⟩) (ae 1 aa (af ?_))))
  refine ax ?_
  rw[←z,DC.qN (by simpa using U)]
  exact⟨_,PS.bi _,aa,cH aa aa,aa,aa⟩
 have G:(q.keyword j9).1=true:=by simpa using Z
 refine aT (ai ?_)
 have O:q.join=some (false,(q.keyword j9).2):=by unfold PS.join;rw[aj (by rw[A];decide),aq G]
 obtain⟨J,Y,jY⟩:=K.top.join O
 have fi:=K.ok.dY
 obtain⟨k,rfl⟩:∃k',k=k'+1:=⟨k-1,by omega⟩
 rw[yY O] at z
 rw[A]
 generalize (q.keyword j9).2=I at O J Y z⊢
 have g1:=J.top.source false
 have g2:=g1.top.dD [o9]
 have g3:=J.top.gC D false
 have ga:=g3.aI
 refine ae 1 aa (bh (Gx F J.top false) aa aa aa aa aa (ae 2 aa (af ?_)))
 refine ak 3 aa (ai (ae 2 aa (gB 27 27 aa aa (fun _=>⟨aa,aa⟩) ?_)))
 refine bh (aU F g1.ok [o9] (by decide)) rfl rfl rfl rfl rfl ?_
 refine af (ai (ae 1 aa (bh (uB F Lf g2.top) aa aa aa aa aa (ae 2 aa (af ?_)))))
 refine bG (ae 3 aa ?_)
 refine al (rT (rows:=l.map Src.enc) (ys:=[(I.gC D false).1.enc]) rfl rfl rfl (.bs (rows:=[(I.gC D false).1.enc]) rfl) (bS rfl) (by simp only[bJ,cF,dj,dJ];omega) ?_)
 refine ae 1 aa (af ?_)
 refine⟨k,fS k,l++[(I.gC D false).1],(I.gC D false).2,z,mh U _,?_,?_,(K.trans J).trans g3,?_,?_⟩
 ·rw[bJ,eG];show l.length+1≤(I.gC D false).2.aI+1;omega
 ·show p.ay.length≤k+(I.gC D false).2.aI;omega
 ·simp only[dX,ez,fw];exact⟨rfl,rfl,trivial⟩
 simp only[dX,ez,fw];exact di rfl rfl ⟨rfl,trivial⟩
open Go
set_option maxRecDepth 10000
set_option maxHeartbeats 4000000 in
theorem coreC{T:bf}(F:FT T){D:Rd}(Lf:g7 T D){p:PS}(hp:bd p)(a:Bool):bV T 102 [.vp 1000 0,dB a] (PS.bz p) fun r Bn=>r=ep (p.core D a).1.enc∧Bn=PS.bz (p.core D a).2:=by
 refine cl F.Yw aa ?_
 have oa:∀x:PS,bd x→bO x (PS.item x D).2:=fun _ h=>h.item D
 have O:∀x:PS,bd x→bO x (PS.dx x).2:=fun _ h=>h.dx
 refine ak 1 aa (ak 4 aa (ai (mW 1000 5 1050 116 88 8 aa aa aa (ae 2 aa (gB 10 10 aa aa (fun _=>⟨aa,aa⟩) ?_)))))
 refine bh (aU F hp.nil.ok [zA] (by decide)) rfl rfl rfl rfl rfl ?_
 refine af (ai (ae 1 aa (bh (keyword F hp.iN.ok jc) aa aa aa aa aa (ae 1 aa (rK 14 2 1102 144 32 3 aa aa aa (rK 14 6 1106 3 8 1 aa aa aa (ae 2 aa (af ?_))))))))
 refine aM (ai (ae 1 aa (bh (sign F hp.ff.ok eM) aa aa aa aa aa (ae 1 aa (af ?_)))))
 refine aJ aa (fun va=>?_) (fun va=>?_)
 ·have Fe:(p.ff.sign eM).1=false:=by simpa using va
  have hI0:p.ff.items D=je (fun p=>p.item D) p.ff:=by unfold PS.items;rw[aj (by rw[Fe];decide)]
  rw[PS.ic Fe]
  refine eU (bm 3 aa (mR (NY F Lf hp.ff.top) aa aa aa aa aa aa (bm 1 aa (eJ aa (eu (rows:=[]) (ys:=[(p.ff.item D).1.enc]) aa aa aa (.bs (rows:=[(p.ff.item D).1.enc]) aa) (bS aa) (bS aa) (fun _=>aa) (fun _=>aa) ?_)))))
  refine bm 2 aa (da ?_)
  refine bN (d7 (fun k VE B=>∃(l:List _)(q:PS),kv (fun p=>PS.item p D) k l q=(je (fun p=>PS.item p D) p.ff)∧l≠[]∧l.length≤q.aI+1∧p.ff.ay.length≤k+q.aI∧bO p.ff q∧bu [(0,.vp 1000 0),(1,dB a),(4,.vp 4 0),(5,.vp 5 0)] VE∧bu (PS.bi q++[(5,.one 87 120 [dB (p.iN.keyword jc).1,dN,.ac 1102 (l.map Item.enc).length 3,dN,d0,dB false,.ac 1106 0 1]),(1102,.acc 144 32 3 (l.map Item.enc)),(1106,.acc 3 8 1 []),(4,.one 87 120 [dB false,dN,dN,dN,d0,dB false,dN])]) B) ?_ (k:=p.ff.ay.length) ⟨[(PS.item p.ff D).1],(PS.item p.ff D).2,aa,pK _ _,mD (dh _),jP _ _,oa _ hp.ff.top,⟨aa,aa,aa,aa,trivial⟩,di aa aa ⟨aa,aa,aa,aa,trivial⟩⟩)
  rintro k VE B⟨l,q,z,Y,jk,hk,A,hV,Z⟩
  refine ey (PS.bi q++[(5,.one 87 120 [dB (p.iN.keyword jc).1,dN,.ac 1102 (l.map Item.enc).length 3,dN,d0,dB false,.ac 1106 0 1]),(1102,.acc 144 32 3 (l.map Item.enc)),(1106,.acc 3 8 1 []),(4,.one 87 120 [dB false,dN,dN,dN,d0,dB false,dN])]) Z ?_
  have Z:bu (PS.bi q++[(5,.one 87 120 [dB (p.iN.keyword jc).1,dN,.ac 1102 (l.map Item.enc).length 3,dN,d0,dB false,.ac 1106 0 1]),(1102,.acc 144 32 3 (l.map Item.enc)),(1106,.acc 3 8 1 []),(4,.one 87 120 [dB false,dN,dN,dN,d0,dB false,dN])]) (PS.bi q++[(5,.one 87 120 [dB (p.iN.keyword jc).1,dN,.ac 1102 (l.map Item.enc).length 3,dN,d0,dB false,.ac 1106 0 1]),(1102,.acc 144 32 3 (l.map Item.enc)),(1106,.acc 3 8 1 []),(4,.one 87 120 [dB false,dN,dN,dN,d0,dB false,dN])]):=di rfl rfl ⟨rfl,rfl,rfl,rfl,trivial⟩
  have gh:q.ay.length=p.ff.ay.length:=by rw[A.ay]
  refine dy _ _ hV Z (aM (ai (ae 1 aa (bh (sign F A.ok cE) aa aa aa aa aa (af (aJ aa (fun pb=>?_) (fun pb=>?_)))))))
  ·have h2:=A.top.sign cE
   have G:=ot A.ok pb
   have fi:=A.ok.dY
   obtain⟨k,rfl⟩:∃k',k=k'+1:=⟨k-1,by have:=G.2;omega⟩
   rw[ou pb] at z
   have h3:=h2.trans (oa _ h2.top)
   refine aT (bN (iK (bm 3 aa (mR (NY F Lf h2.top) aa aa aa aa aa aa (bm 1 aa ?_)))))
   refine eJ rfl (eu (rows:=l.map Item.enc) (ys:=[((PS.item (q.sign cE).2 D).1).enc]) rfl rfl rfl (.bs (rows:=[((PS.item (q.sign cE).2 D).1).enc]) rfl) (bS rfl) (by simp only[bJ,cF,dj,dJ];omega) (fun h=>by rw[h];rfl) (fun h=>by rw[h];rfl) ?_)
   refine bm 2 aa (da ?_)
   refine⟨k,fS k,l++[(PS.item (q.sign cE).2 D).1],(PS.item (q.sign cE).2 D).2,z,mh Y _,?_,?_,A.trans h3,?_,?_⟩
   ·have:=h3.aI;have:=G.1;have:=(oa _ h2.top).aI;rw[bJ,eG];show l.length+1≤(PS.item (q.sign cE).2 D).2.aI+1;omega
   ·have:=(oa _ h2.top).aI;have:=G.1;show p.ff.ay.length≤k+(PS.item (q.sign cE).2 D).2.aI;omega
   ·try simp only[dX,ez,fw]
    exact⟨aa,aa,aa,aa,trivial⟩
   try simp only[dX,ez,fw]
   exact di aa aa ⟨aa,aa,aa,aa,trivial⟩
  rw[ov pb] at z
  rw[PS.ic pb]
  have U:p.ff.items D=(l,q):=by rw[hI0,←z]
  refine dM (ai (ew (PS.bi q++[(5,.one 87 120 [dB (p.iN.keyword jc).1,dN,.ac 1102 (l.map Item.enc).length 3,dN,d0,dB false,.ac 1106 0 1]),(1102,.acc 144 32 3 (l.map Item.enc)),(1106,.acc 3 8 1 []),(4,.one 87 120 [dB false,dN,dN,dN,d0,dB false,dN])]) (di aa aa ⟨aa,aa,aa,aa,trivial⟩) ?_))
  have ID:p.fo D=q.aU [hZ]:=by unfold PS.fo;rw[U]
  refine ae 2 aa (gB 35 35 aa aa (fun _=>⟨aa,aa⟩) ?_)
  refine bh (aU F A.ok [hZ] (by decide)) rfl rfl rfl rfl rfl ?_
  refine af (ai ?_)
  rw[←ID]
  refine ae 2 aa (bh (ME F Lf (hp.fo D).top a) aa aa aa aa aa (ae 2 aa (af ?_)))
  refine ai (ae 1 aa (bh (CK F Lf (hp.iX D a).top) aa aa aa aa aa (ae 2 aa (af ?_))))
  refine aM (ai (ae 1 aa (bh (keyword F (hp.dC D a).ok gq) aa aa aa aa aa (af (aJ aa (fun K=>?_) (fun K=>?_))))))
  ·have j1:=(hp.dC D a).top.kw gq
   have j2:=j1.top.dD [gI]
   refine ai (ae 2 aa (gB 47 47 aa aa (fun _=>⟨aa,aa⟩) ?_))
   refine bh (aU F j1.ok [gI] (by decide)) rfl rfl rfl rfl rfl ?_
   refine af (ak 2 aa (eU (bm 3 aa (mR (Eb F j2.top) aa aa aa aa aa aa (bm 1 aa (eJ aa (eu (rows:=[]) (ys:=[[.i .i64 (((p.dC D a).keyword gq).2.aU [gI]).dx.1]]) aa aa aa (.bs (rows:=[[.i .i64 (((p.dC D a).keyword gq).2.aU [gI]).dx.1]]) aa) (bS aa) (bS aa) (fun _=>aa) (fun _=>aa) ?_)))))))
   refine bm 2 aa (da ?_)
   refine bN ?_
   obtain⟨I,nW⟩:∃I,I=l:=⟨_,rfl⟩
   obtain⟨q0,sU⟩:∃q0,q0=q:=⟨_,rfl⟩
   rw[←sU] at U
   rw[←nW] at U⊢
   refine d7 (fun k VE B=>∃(l:List _)(q:PS),kv PS.dx k l q=(je PS.dx (((p.dC D a).keyword gq).2.aU [gI]))∧l≠[]∧l.length≤q.aI+1∧(((p.dC D a).keyword gq).2.aU [gI]).ay.length≤k+q.aI∧bO (((p.dC D a).keyword gq).2.aU [gI]) q∧bu [(0,.vp 1000 0),(4,.vp 4 0),(5,.vp 5 0)] VE∧bu (PS.bi q++[(5,.one 87 120 [dB (p.iN.keyword jc).1,dN,.ac 1102 (I.map Item.enc).length 3,.d (.e8 (((p.fo D).jR D a).1.map Src.enc)),dI ((p.iX D a).dW D).1,dB true,.ac 1106 (l.map (fun i=>[DC.i .i64 i])).length 1]),(1102,.acc 144 32 3 (I.map Item.enc)),(1106,.acc 3 8 1 (l.map (fun i=>[DC.i .i64 i]))),(4,.one 87 120 [dB false,dN,dN,dN,d0,dB false,dN])]) B) ?_ (k:=(((p.dC D a).keyword gq).2.aU [gI]).ay.length) ⟨[(PS.dx (((p.dC D a).keyword gq).2.aU [gI])).1],(PS.dx (((p.dC D a).keyword gq).2.aU [gI])).2,aa,pK _ _,mD (dh _),jP _ _,O _ j2.top,⟨aa,aa,aa,trivial⟩,di aa aa ⟨aa,aa,aa,aa,trivial⟩⟩
   clear nW sU
   rintro k VE B⟨l,q,z,Y,jk,hk,A,hV,Z⟩
   refine ey (PS.bi q++[(5,.one 87 120 [dB (p.iN.keyword jc).1,dN,.ac 1102 (I.map Item.enc).length 3,.d (.e8 (((p.fo D).jR D a).1.map Src.enc)),dI ((p.iX D a).dW D).1,dB true,.ac 1106 (l.map (fun i=>[DC.i .i64 i])).length 1]),(1102,.acc 144 32 3 (I.map Item.enc)),(1106,.acc 3 8 1 (l.map (fun i=>[DC.i .i64 i]))),(4,.one 87 120 [dB false,dN,dN,dN,d0,dB false,dN])]) Z ?_
   have Z:bu (PS.bi q++[(5,.one 87 120 [dB (p.iN.keyword jc).1,dN,.ac 1102 (I.map Item.enc).length 3,.d (.e8 (((p.fo D).jR D a).1.map Src.enc)),dI ((p.iX D a).dW D).1,dB true,.ac 1106 (l.map (fun i=>[DC.i .i64 i])).length 1]),(1102,.acc 144 32 3 (I.map Item.enc)),(1106,.acc 3 8 1 (l.map (fun i=>[DC.i .i64 i]))),(4,.one 87 120 [dB false,dN,dN,dN,d0,dB false,dN])]) (PS.bi q++[(5,.one 87 120 [dB (p.iN.keyword jc).1,dN,.ac 1102 (I.map Item.enc).length 3,.d (.e8 (((p.fo D).jR D a).1.map Src.enc)),dI ((p.iX D a).dW D).1,dB true,.ac 1106 (l.map (fun i=>[DC.i .i64 i])).length 1]),(1102,.acc 144 32 3 (I.map Item.enc)),(1106,.acc 3 8 1 (l.map (fun i=>[DC.i .i64 i]))),(4,.one 87 120 [dB false,dN,dN,dN,d0,dB false,dN])]):=di rfl rfl ⟨rfl,rfl,rfl,rfl,trivial⟩
   have gh:q.ay.length=(((p.dC D a).keyword gq).2.aU [gI]).ay.length:=by rw[A.ay]
   refine dy _ _ hV Z (aM (ai (ae 1 aa (bh (sign F A.ok cE) aa aa aa aa aa (af (aJ aa (fun J=>?_) (fun J=>?_)))))))
   ·have h2:=A.top.sign cE
    have G:=ot A.ok J
    have fi:=A.ok.dY
    obtain⟨k,rfl⟩:∃k',k=k'+1:=⟨k-1,by have:=G.2;omega⟩
    rw[ou J] at z
    have h3:=h2.trans (O _ h2.top)
    refine aT (bN (iK (bm 3 aa (mR (Eb F h2.top) aa aa aa aa aa aa (bm 1 aa ?_)))))
    refine eJ rfl (eu (rows:=l.map (fun i=>[DC.i .i64 i])) (ys:=[[.i .i64 (PS.dx (q.sign cE).2).1]]) rfl rfl rfl (.bs (rows:=[[.i .i64 (PS.dx (q.sign cE).2).1]]) rfl) (bS rfl) (by simp only[bJ,cF,dj,dJ];omega) (fun h=>by rw[h];rfl) (fun h=>by rw[h];rfl) ?_)
    refine bm 2 aa (da ?_)
    refine⟨k,fS k,l++[(PS.dx (q.sign cE).2).1],(PS.dx (q.sign cE).2).2,z,mh Y _,?_,?_,A.trans h3,?_,?_⟩
    ·have:=h3.aI;have:=G.1;have:=(O _ h2.top).aI;rw[bJ,eG];show l.length+1≤(PS.dx (q.sign cE).2).2.aI+1;omega
    ·have:=(O _ h2.top).aI;have:=G.1;show(((p.dC D a).keyword gq).2.aU [gI]).ay.length≤k+(PS.dx (q.sign cE).2).2.aI;omega
    ·try simp only[dX,ez,fw]
     exact⟨aa,aa,aa,trivial⟩
    try simp only[dX,ez,fw]
    exact di aa aa ⟨aa,aa,aa,aa,trivial⟩
   rw[ov J] at z
   rw[PS.ic J]
   have hG:(p.dC D a).group=((true,l),q):=by unfold PS.group;rw[aq K,←z]
   have hm:p.core D a=(⟨(p.iN.keyword jc).1,q.ex,I,((p.fo D).jR D a).1,((p.iX D a).dW D).1,true,l⟩,q):=by unfold PS.core;rw[hG,U]
   refine dM (ai (ae 4 aa (fu 69 1050 aa aa (fun _=>⟨aa,aa⟩) (ae 2 aa (af ?_)))))
   refine ai (jt 1000 5 aa aa (ae 1 aa ?_))
   refine fu 71 1102 rfl rfl (by refine⟨trivial,trivial,?_,trivial,trivial,trivial,?_,trivial⟩<;>intro h<;>first|exact⟨rfl,rfl⟩|exact absurd h (by decide)) ?_
   refine fu 71 1106 rfl rfl (by refine⟨trivial,trivial,trivial,trivial,trivial,trivial,?_,trivial⟩<;>intro h<;>first|exact⟨rfl,rfl⟩|exact absurd h (by decide)) ?_
   refine ae 1 aa (af ?_)
   refine ax ?_
   rw[hm]
   exact⟨_,PS.bz _,aa,fA aa,aa,aa⟩
  have hG:(p.dC D a).group=((false,[]),p.dC D a):=by unfold PS.group;rw[aj (by rw[K];decide)]
  have hm:p.core D a=(⟨(p.iN.keyword jc).1,(p.dC D a).ex,l,((p.fo D).jR D a).1,((p.iX D a).dW D).1,false,[]⟩,p.dC D a):=by unfold PS.core;rw[hG,U]
  rw[PS.cK K]
  refine aT (ai (ae 4 aa (fu 69 1050 aa aa (fun _=>⟨aa,aa⟩) (ae 2 aa (af ?_)))))
  refine ai (jt 1000 5 aa aa (ae 1 aa ?_))
  refine fu 71 1102 rfl rfl (by refine⟨trivial,trivial,?_,trivial,trivial,trivial,?_,trivial⟩<;>intro h<;>first|exact⟨rfl,rfl⟩|exact absurd h (by decide)) ?_
  refine fu 71 1106 rfl rfl (by refine⟨trivial,trivial,trivial,trivial,trivial,trivial,?_,trivial⟩<;>intro h<;>first|exact⟨rfl,rfl⟩|exact absurd h (by decide)) ?_
  refine ae 1 aa (af ?_)
  refine ax ?_
  rw[hm]
  exact⟨_,PS.bz _,aa,fA aa,aa,aa⟩
 have Fe:(p.ff.sign eM).1=true:=by simpa using va
 have U:p.ff.items D=([],(p.ff.sign eM).2):=by unfold PS.items;rw[aq Fe]
 obtain⟨l,hl⟩:∃l:List Item,[]=l:=⟨_,rfl⟩
 rw[hl] at U
 have A:=hp.ff.top.sign eM
 generalize (p.ff.sign eM).2=q at U A⊢
 refine aT (ai ?_)
 refine ew (PS.bi q++[(5,.one 87 120 [dB (p.iN.keyword jc).1,dN,.ac 1102 (l.map Item.enc).length 3,dN,d0,dB false,.ac 1106 0 1]),(1102,.acc 144 32 3 (l.map Item.enc)),(1106,.acc 3 8 1 []),(4,.one 87 120 [dB false,dN,dN,dN,d0,dB false,dN])]) ?_ ?_; · exact di rfl rfl ⟨by rw[←hl];rfl,by rw[←hl];rfl,rfl,rfl,trivial⟩
 have ID:p.fo D=q.aU [hZ]:=by unfold PS.fo;rw[U]
 refine ae 2 aa (gB 35 35 aa aa (fun _=>⟨aa,aa⟩) ?_)
 refine bh (aU F A.ok [hZ] (by decide)) rfl rfl rfl rfl rfl ?_
 refine af (ai ?_)
 rw[←ID]
 refine ae 2 aa (bh (ME F Lf (hp.fo D).top a) aa aa aa aa aa (ae 2 aa (af ?_)))
 refine ai (ae 1 aa (bh (CK F Lf (hp.iX D a).top) aa aa aa aa aa (ae 2 aa (af ?_))))
 refine aM (ai (ae 1 aa (bh (keyword F (hp.dC D a).ok gq) aa aa aa aa aa (af (aJ aa (fun K=>?_) (fun K=>?_))))))
 ·have j1:=(hp.dC D a).top.kw gq
  have j2:=j1.top.dD [gI]
  refine ai (ae 2 aa (gB 47 47 aa aa (fun _=>⟨aa,aa⟩) ?_))
  refine bh (aU F j1.ok [gI] (by decide)) rfl rfl rfl rfl rfl ?_
  refine af (ak 2 aa (eU (bm 3 aa (mR (Eb F j2.top) aa aa aa aa aa aa (bm 1 aa (eJ aa (eu (rows:=[]) (ys:=[[.i .i64 (((p.dC D a).keyword gq).2.aU [gI]).dx.1]]) aa aa aa (.bs (rows:=[[.i .i64 (((p.dC D a).keyword gq).2.aU [gI]).dx.1]]) aa) (bS aa) (bS aa) (fun _=>aa) (fun _=>aa) ?_)))))))
  refine bm 2 aa (da ?_)
  refine bN ?_
  obtain⟨I,nW⟩:∃I,I=l:=⟨_,rfl⟩
  obtain⟨q0,sU⟩:∃q0,q0=q:=⟨_,rfl⟩
  rw[←sU] at U
  rw[←nW] at U⊢
  refine d7 (fun k VE B=>∃(l:List _)(q:PS),kv PS.dx k l q=(je PS.dx (((p.dC D a).keyword gq).2.aU [gI]))∧l≠[]∧l.length≤q.aI+1∧(((p.dC D a).keyword gq).2.aU [gI]).ay.length≤k+q.aI∧bO (((p.dC D a).keyword gq).2.aU [gI]) q∧bu [(0,.vp 1000 0),(4,.vp 4 0),(5,.vp 5 0)] VE∧bu (PS.bi q++[(5,.one 87 120 [dB (p.iN.keyword jc).1,dN,.ac 1102 (I.map Item.enc).length 3,.d (.e8 (((p.fo D).jR D a).1.map Src.enc)),dI ((p.iX D a).dW D).1,dB true,.ac 1106 (l.map (fun i=>[DC.i .i64 i])).length 1]),(1102,.acc 144 32 3 (I.map Item.enc)),(1106,.acc 3 8 1 (l.map (fun i=>[DC.i .i64 i]))),(4,.one 87 120 [dB false,dN,dN,dN,d0,dB false,dN])]) B) ?_ (k:=(((p.dC D a).keyword gq).2.aU [gI]).ay.length) ⟨[(PS.dx (((p.dC D a).keyword gq).2.aU [gI])).1],(PS.dx (((p.dC D a).keyword gq).2.aU [gI])).2,aa,pK _ _,mD (dh _),jP _ _,O _ j2.top,⟨aa,aa,aa,trivial⟩,di aa aa ⟨aa,aa,aa,aa,trivial⟩⟩
  clear nW sU
  rintro k VE B⟨l,q,z,Y,jk,hk,A,hV,Z⟩
  refine ey (PS.bi q++[(5,.one 87 120 [dB (p.iN.keyword jc).1,dN,.ac 1102 (I.map Item.enc).length 3,.d (.e8 (((p.fo D).jR D a).1.map Src.enc)),dI ((p.iX D a).dW D).1,dB true,.ac 1106 (l.map (fun i=>[DC.i .i64 i])).length 1]),(1102,.acc 144 32 3 (I.map Item.enc)),(1106,.acc 3 8 1 (l.map (fun i=>[DC.i .i64 i]))),(4,.one 87 120 [dB false,dN,dN,dN,d0,dB false,dN])]) Z ?_
  have Z:bu (PS.bi q++[(5,.one 87 120 [dB (p.iN.keyword jc).1,dN,.ac 1102 (I.map Item.enc).length 3,.d (.e8 (((p.fo D).jR D a).1.map Src.enc)),dI ((p.iX D a).dW D).1,dB true,.ac 1106 (l.map (fun i=>[DC.i .i64 i])).length 1]),(1102,.acc 144 32 3 (I.map Item.enc)),(1106,.acc 3 8 1 (l.map (fun i=>[DC.i .i64 i]))),(4,.one 87 120 [dB false,dN,dN,dN,d0,dB false,dN])]) (PS.bi q++[(5,.one 87 120 [dB (p.iN.keyword jc).1,dN,.ac 1102 (I.map Item.enc).length 3,.d (.e8 (((p.fo D).jR D a).1.map Src.enc)),dI ((p.iX D a).dW D).1,dB true,.ac 1106 (l.map (fun i=>[DC.i .i64 i])).length 1]),(1102,.acc 144 32 3 (I.map Item.enc)),(1106,.acc 3 8 1 (l.map (fun i=>[DC.i .i64 i]))),(4,.one 87 120 [dB false,dN,dN,dN,d0,dB false,dN])]):=di rfl rfl ⟨rfl,rfl,rfl,rfl,trivial⟩
  have gh:q.ay.length=(((p.dC D a).keyword gq).2.aU [gI]).ay.length:=by rw[A.ay]
  refine dy _ _ hV Z (aM (ai (ae 1 aa (bh (sign F A.ok cE) aa aa aa aa aa (af (aJ aa (fun J=>?_) (fun J=>?_)))))))
  ·have h2:=A.top.sign cE
   have G:=ot A.ok J
   have fi:=A.ok.dY
   obtain⟨k,rfl⟩:∃k',k=k'+1:=⟨k-1,by have:=G.2;omega⟩
   rw[ou J] at z
   have h3:=h2.trans (O _ h2.top)
   refine aT (bN (iK (bm 3 aa (mR (Eb F h2.top) aa aa aa aa aa aa (bm 1 aa ?_)))))
   refine eJ rfl (eu (rows:=l.map (fun i=>[DC.i .i64 i])) (ys:=[[.i .i64 (PS.dx (q.sign cE).2).1]]) rfl rfl rfl (.bs (rows:=[[.i .i64 (PS.dx (q.sign cE).2).1]]) rfl) (bS rfl) (by simp only[bJ,cF,dj,dJ];omega) (fun h=>by rw[h];rfl) (fun h=>by rw[h];rfl) ?_)
   refine bm 2 aa (da ?_)
   refine⟨k,fS k,l++[(PS.dx (q.sign cE).2).1],(PS.dx (q.sign cE).2).2,z,mh Y _,?_,?_,A.trans h3,?_,?_⟩
   ·have:=h3.aI;have:=G.1;have:=(O _ h2.top).aI;rw[bJ,eG];show l.length+1≤(PS.dx (q.sign cE).2).2.aI+1;omega
   ·have:=(O _ h2.top).aI;have:=G.1;show(((p.dC D a).keyword gq).2.aU [gI]).ay.length≤k+(PS.dx (q.sign cE).2).2.aI;omega
   ·try simp only[dX,ez,fw]
    exact⟨aa,aa,aa,trivial⟩
   try simp only[dX,ez,fw]
   exact di aa aa ⟨aa,aa,aa,aa,trivial⟩
  rw[ov J] at z
  rw[PS.ic J]
  have hG:(p.dC D a).group=((true,l),q):=by unfold PS.group;rw[aq K,←z]
  have hm:p.core D a=(⟨(p.iN.keyword jc).1,q.ex,I,((p.fo D).jR D a).1,((p.iX D a).dW D).1,true,l⟩,q):=by unfold PS.core;rw[hG,U]
  refine dM (ai (ae 4 aa (fu 69 1050 aa aa (fun _=>⟨aa,aa⟩) (ae 2 aa (af ?_)))))
  refine ai (jt 1000 5 aa aa (ae 1 aa ?_))
  refine fu 71 1102 rfl rfl (by refine⟨trivial,trivial,?_,trivial,trivial,trivial,?_,trivial⟩<;>intro h<;>first|exact⟨rfl,rfl⟩|exact absurd h (by decide)) ?_
  refine fu 71 1106 rfl rfl (by refine⟨trivial,trivial,trivial,trivial,trivial,trivial,?_,trivial⟩<;>intro h<;>first|exact⟨rfl,rfl⟩|exact absurd h (by decide)) ?_
  refine ae 1 aa (af ?_)
  refine ax ?_
  rw[hm]
  exact⟨_,PS.bz _,aa,fA aa,aa,aa⟩
 have hG:(p.dC D a).group=((false,[]),p.dC D a):=by unfold PS.group;rw[aj (by rw[K];decide)]
 have hm:p.core D a=(⟨(p.iN.keyword jc).1,(p.dC D a).ex,l,((p.fo D).jR D a).1,((p.iX D a).dW D).1,false,[]⟩,p.dC D a):=by unfold PS.core;rw[hG,U]
 rw[PS.cK K]
 refine aT (ai (ae 4 aa (fu 69 1050 aa aa (fun _=>⟨aa,aa⟩) (ae 2 aa (af ?_)))))
 refine ai (jt 1000 5 aa aa (ae 1 aa ?_))
 refine fu 71 1102 rfl rfl (by refine⟨trivial,trivial,?_,trivial,trivial,trivial,?_,trivial⟩<;>intro h<;>first|exact⟨rfl,rfl⟩|exact absurd h (by decide)) ?_
 refine fu 71 1106 rfl rfl (by refine⟨trivial,trivial,trivial,trivial,trivial,trivial,?_,trivial⟩<;>intro h<;>first|exact⟨rfl,rfl⟩|exact absurd h (by decide)) ?_
 refine ae 1 aa (af ?_)
 refine ax ?_
 rw[hm]
 exact⟨_,PS.bz _,aa,fA aa,aa,aa⟩
open Go
set_option maxRecDepth 10000
set_option maxHeartbeats 4000000 in
theorem wx{T:bf}(F:FT T){D:Rd}(Lf:g7 T D){p:PS}(hp:bd p)(a:Bool):bV T 42 [.vp 1000 0,dB a] (PS.bz p) fun r Bn=>r=ep (p.cQ D a).1.enc∧Bn=PS.bz (p.cQ D a).2:=by
 refine cl F.f42 aa (ak 1 aa (ai (ae 2 aa (dU (coreC F Lf hp a) aa aa aa aa (ae 2 aa (rK 10 1 1101 3 8 1 aa aa aa (ae 2 aa (af ?_))))))))
 refine bN (d7 (fun k VE B=>∃(s:js)(q:PS),pX D a k s q=p.cQ D a∧s.fN≠[]∧s.fN.length≤q.aI+1∧s.ops.length≤q.aI+1∧p.ay.length≤k+q.aI∧bO p q∧bu [(0,.vp 1000 0),(1,dB a),(4,.vp 4 0),(5,.vp 5 0)] VE∧bu (PS.bz q++[(5,.one 27 48 [.bs 9 (s.fN.map Core.enc).length 7,.ac 1101 (s.ops.map (fun i=>[DC.i .i64 i])).length 1]),(9,.arr 87 120 7 (s.fN.map Core.enc).length (s.fN.map Core.enc)),(1101,.acc 3 8 1 (s.ops.map (fun i=>[DC.i .i64 i]))),(4,.one 27 48 [dN,dN])]) B) ?_ (k:=p.ay.length) ⟨⟨[(p.core D a).1],[]⟩,(p.core D a).2,aa,pK _ _,mD (dh _),dh _,jP _ _,hp.core D a,⟨aa,aa,aa,aa,trivial⟩,gg aa ⟨aa,aa,aa,aa,trivial⟩⟩)
 rintro k VE B⟨s,q,z,Z,jk,sL,hk,O,hV,hB⟩
 refine ey (PS.bz q++[(5,.one 27 48 [.bs 9 (s.fN.map Core.enc).length 7,.ac 1101 (s.ops.map (fun i=>[DC.i .i64 i])).length 1]),(9,.arr 87 120 7 (s.fN.map Core.enc).length (s.fN.map Core.enc)),(1101,.acc 3 8 1 (s.ops.map (fun i=>[DC.i .i64 i]))),(4,.one 27 48 [dN,dN])]) hB ?_
 have hB:bu (PS.bz q++[(5,.one 27 48 [.bs 9 (s.fN.map Core.enc).length 7,.ac 1101 (s.ops.map (fun i=>[DC.i .i64 i])).length 1]),(9,.arr 87 120 7 (s.fN.map Core.enc).length (s.fN.map Core.enc)),(1101,.acc 3 8 1 (s.ops.map (fun i=>[DC.i .i64 i]))),(4,.one 27 48 [dN,dN])]) (PS.bz q++[(5,.one 27 48 [.bs 9 (s.fN.map Core.enc).length 7,.ac 1101 (s.ops.map (fun i=>[DC.i .i64 i])).length 1]),(9,.arr 87 120 7 (s.fN.map Core.enc).length (s.fN.map Core.enc)),(1101,.acc 3 8 1 (s.ops.map (fun i=>[DC.i .i64 i]))),(4,.one 27 48 [dN,dN])]):=gg rfl ⟨rfl,rfl,rfl,rfl,trivial⟩
 have gh:q.ay.length=p.ay.length:=by rw[O.ay]
 have fi:=O.ok.dY
 refine dy _ _ hV hB (bN (aM (bN (ai (ae 1 aa (dU (nB F O.ok tG) aa aa aa aa (ae 1 aa (af ?_))))))))
 refine aJ aa (fun J=>?_) (fun J=>?_)
 ·have K:q.op=some (6,(q.keyword tG).2):=by unfold PS.op;rw[aq J]
  obtain⟨A,U,jY⟩:=O.top.op K
  obtain⟨k,rfl⟩:∃k',k=k'+1:=⟨k-1,by omega⟩
  rw[vk K] at z
  generalize (q.keyword tG).2=G at K A U z⊢
  have I:=A.top.dD [gK]
  have g2:=I.top.core D a
  have ga:=I.aI
  have gb:=g2.aI
  refine bG (ae 3 aa ?_)
  refine al (eu (rows:=(s.ops.map (fun i=>[DC.i .i64 i]))) (ys:=[[.i .i64 6]]) rfl rfl rfl (.bs (rows:=[[.i .i64 6]]) rfl) (bS rfl) (by simp only[bJ,cF,dj,dJ];omega) (fun h=>by rw[h];rfl) (fun h=>by rw[h];rfl) ?_)
  refine ae 2 aa (af ?_)
  refine ai (ae 2 aa (gB 37 37 aa aa (fun _=>⟨aa,aa⟩) ?_))
  refine dU (qJ F A.ok [gK] (by decide)) rfl rfl rfl rfl ?_
  refine af (iK (bm 4 aa (HY (coreC F Lf I.top a) aa aa aa aa aa (bm 1 aa ?_))))
  refine eJ rfl (rT (rows:=s.fN.map Core.enc) (ys:=[((G.aU [gK]).core D a).1.enc]) rfl rfl rfl (.bs (rows:=[((G.aU [gK]).core D a).1.enc]) rfl) (bS rfl) (by simp only[bJ,cF,dj,dJ];omega) ?_)
  refine bm 2 aa (da ?_)
  refine⟨k,fS k,⟨s.fN++[((G.aU [gK]).core D a).1],s.ops++[6]⟩,((G.aU [gK]).core D a).2,z,mh Z _,?_,?_,?_,(O.trans A).trans (I.trans g2),?_,?_⟩
  ·rw[bJ,eG];omega
  ·rw[bJ,eG];omega
  ·omega
  ·exact⟨aa,aa,aa,aa,trivial⟩
  simp only[dX,ez,fw]
  exact gg aa ⟨aa,aa,aa,aa,trivial⟩
 rw[PS.cK J]
 refine ai (ae 1 aa (dU (nB F O.ok tt) aa aa aa aa (ae 1 aa (af ?_))))
 refine aJ aa (fun Y=>?_) (fun Y=>?_)
 ·have K:q.op=some (7,(q.keyword tt).2):=by unfold PS.op;rw[aj (by rw[J];decide),aq Y]
  obtain⟨A,U,jY⟩:=O.top.op K
  obtain⟨k,rfl⟩:∃k',k=k'+1:=⟨k-1,by omega⟩
  rw[vk K] at z
  generalize (q.keyword tt).2=G at K A U z⊢
  have I:=A.top.dD [gK]
  have g2:=I.top.core D a
  have ga:=I.aI
  have gb:=g2.aI
  refine bG (ae 3 aa ?_)
  refine al (eu (rows:=(s.ops.map (fun i=>[DC.i .i64 i]))) (ys:=[[.i .i64 7]]) rfl rfl rfl (.bs (rows:=[[.i .i64 7]]) rfl) (bS rfl) (by simp only[bJ,cF,dj,dJ];omega) (fun h=>by rw[h];rfl) (fun h=>by rw[h];rfl) ?_)
  refine ae 2 aa (af ?_)
  refine ai (ae 2 aa (gB 37 37 aa aa (fun _=>⟨aa,aa⟩) ?_))
  refine dU (qJ F A.ok [gK] (by decide)) rfl rfl rfl rfl ?_
  refine af (iK (bm 4 aa (HY (coreC F Lf I.top a) aa aa aa aa aa (bm 1 aa ?_))))
  refine eJ rfl (rT (rows:=s.fN.map Core.enc) (ys:=[((G.aU [gK]).core D a).1.enc]) rfl rfl rfl (.bs (rows:=[((G.aU [gK]).core D a).1.enc]) rfl) (bS rfl) (by simp only[bJ,cF,dj,dJ];omega) ?_)
  refine bm 2 aa (da ?_)
  refine⟨k,fS k,⟨s.fN++[((G.aU [gK]).core D a).1],s.ops++[7]⟩,((G.aU [gK]).core D a).2,z,mh Z _,?_,?_,?_,(O.trans A).trans (I.trans g2),?_,?_⟩
  ·rw[bJ,eG];omega
  ·rw[bJ,eG];omega
  ·omega
  ·exact⟨aa,aa,aa,aa,trivial⟩
  simp only[dX,ez,fw]
  exact gg aa ⟨aa,aa,aa,aa,trivial⟩
 rw[PS.cK Y]
 refine ai (ae 1 aa (dU (nB F O.ok s9) aa aa aa aa (ae 1 aa (af ?_))))
 refine aJ aa (fun Ff=>?_) (fun Ff=>?_)
 ·have K:q.op=some (8,(q.keyword s9).2):=by unfold PS.op;rw[aj (by rw[J];decide),aj (by rw[Y];decide),aq Ff]
  obtain⟨A,U,jY⟩:=O.top.op K
  obtain⟨k,rfl⟩:∃k',k=k'+1:=⟨k-1,by omega⟩
  rw[vk K] at z
  generalize (q.keyword s9).2=G at K A U z⊢
  have I:=A.top.dD [gK]
  have g2:=I.top.core D a
  have ga:=I.aI
  have gb:=g2.aI
  refine bG (ae 3 aa ?_)
  refine al (eu (rows:=(s.ops.map (fun i=>[DC.i .i64 i]))) (ys:=[[.i .i64 8]]) rfl rfl rfl (.bs (rows:=[[.i .i64 8]]) rfl) (bS rfl) (by simp only[bJ,cF,dj,dJ];omega) (fun h=>by rw[h];rfl) (fun h=>by rw[h];rfl) ?_)
  refine ae 2 aa (af ?_)
  refine ai (ae 2 aa (gB 37 37 aa aa (fun _=>⟨aa,aa⟩) ?_))
  refine dU (qJ F A.ok [gK] (by decide)) rfl rfl rfl rfl ?_
  refine af (iK (bm 4 aa (HY (coreC F Lf I.top a) aa aa aa aa aa (bm 1 aa ?_))))
  refine eJ rfl (rT (rows:=s.fN.map Core.enc) (ys:=[((G.aU [gK]).core D a).1.enc]) rfl rfl rfl (.bs (rows:=[((G.aU [gK]).core D a).1.enc]) rfl) (bS rfl) (by simp only[bJ,cF,dj,dJ];omega) ?_)
  refine bm 2 aa (da ?_)
  refine⟨k,fS k,⟨s.fN++[((G.aU [gK]).core D a).1],s.ops++[8]⟩,((G.aU [gK]).core D a).2,z,mh Z _,?_,?_,?_,(O.trans A).trans (I.trans g2),?_,?_⟩
  ·rw[bJ,eG];omega
  ·rw[bJ,eG];omega
  ·omega
  ·exact⟨aa,aa,aa,aa,trivial⟩
  simp only[dX,ez,fw]
  exact gg aa ⟨aa,aa,aa,aa,trivial⟩
 have K:q.op=none:=by unfold PS.op;rw[aj (by rw[J];decide),aj (by rw[Y];decide),aj (by rw[Ff];decide)]
 rw[BV K] at z
 rw[PS.cK Ff]
 refine ai (ae 1 aa ?_)
 refine gB 11 9 rfl rfl ⟨fun _=>⟨rfl,rfl⟩,fun h=>absurd h (by decide),trivial⟩ ?_
 refine fu 11 1101 aa aa ⟨trivial,fun _=>⟨aa,aa⟩,trivial⟩ (ae 1 aa (af ?_))
 refine ax ?_
 rw[←z]
 unfold js.enc
 rw[DC.qN (rows:=s.fN.map Core.enc) (by simpa using Z)]
 exact⟨_,PS.bz _,aa,fA aa,aa,aa⟩
set_option maxHeartbeats 4000000 in
theorem U8{T:bf}(F:FT T){D:Rd}(K:g7 T D){p:PS}(hp:bd p):bV T 101 [.vp 1000 0] (PS.bz p) fun r Bn=>r=ep (p.query D).1.enc∧Bn=PS.bz (p.query D).2:=by
 refine cl F.Yv aa (ak 1 aa (ak 3 aa (aM (bN (ai (ae 1 aa (dU (nB F hp.ok oe) aa aa aa aa (ae 1 aa (af ?_)))))))))
 refine aJ aa (fun h5=>?_) (fun h5=>?_)
 ·obtain⟨m,A⟩:∃m:Int,2=m:=⟨_,rfl⟩
  have O:p.mode=(m,(p.keyword oe).2):=by unfold PS.mode;rw[aq h5,A]
  have U:=hp.kw oe
  generalize (p.keyword oe).2=q at O U⊢
  refine bG (ae 2 aa (af ?_))
  refine ai ?_
  refine ew (PS.bz q++[(3,.one 38 328 [dI 1,dI m,dI (-1),dI 1099511627776,dN,dN,dS [],dS [],dN,d0,d0,dN,d0,dN,dN,dN,dN,dN,d0,d0,d0]),(2,.one 38 328 [d0,d0,d0,d0,dN,dN,dS [],dS [],dN,d0,d0,dN,d0,dN,dN,dN,dN,dN,d0,d0,d0])]) ?_ ?_; · exact gg rfl ⟨by rw[←A];rfl,rfl,trivial⟩
  refine ae 1 aa (dU (wx F K U.top true) aa aa aa aa (ae 2 aa (af ?_)))
  refine aM (ai ?_)
  have J:=U.top.cQ D true
  refine ae 1 aa (dU (nB F J.ok jG) aa aa aa aa (af (aJ aa (fun z=>?_) (fun z=>?_))))
  ·have G:(q.cQ D true).2.gD D=(((q.cQ D true).2.keyword jG).2.aU [jV]).day D:=by unfold PS.gD;rw[aq z]
   have Y:=J.top.kw jG
   have Z:=Y.top.dD [jV]
   have I:=J.top.gD D
   rw[G] at I
   refine ai (ae 2 aa (gB 27 27 aa aa (fun _=>⟨aa,aa⟩) ?_))
   refine dU (qJ F Y.ok [jV] (by decide)) rfl rfl rfl rfl ?_
   refine af (bG (ae 1 aa (dU (yt F K Z.st) aa aa aa aa (ae 2 aa (af ?_)))))
   refine ai (ae 1 aa (dU (qo F K I.top) aa aa aa aa (ae 2 aa (af ?_))))
   refine ak 2 aa (ax ?_)
   unfold PS.query
   rw[O,G]
   exact⟨_,PS.bz _,aa,fA aa,aa,aa⟩
  have G:(q.cQ D true).2.gD D=(-1,(q.cQ D true).2):=by unfold PS.gD;rw[aj (by rw[z];decide)]
  rw[PS.cK z]
  have I:=J.top.gD D
  rw[G] at I
  refine aT (ai (ae 1 aa (dU (qo F K I.top) aa aa aa aa (ae 2 aa (af ?_)))))
  refine ak 2 aa (ax ?_)
  unfold PS.query
  rw[O,G]
  exact⟨_,PS.bz _,aa,fA aa,aa,aa⟩
 rw[PS.cK h5]
 refine ai (ae 1 aa (dU (nB F hp.ok od) aa aa aa aa (ae 1 aa (af ?_))))
 refine aJ aa (fun h9=>?_) (fun h9=>?_)
 ·obtain⟨m,A⟩:∃m:Int,3=m:=⟨_,rfl⟩
  have O:p.mode=(m,(p.keyword od).2):=by unfold PS.mode;rw[aj (by rw[h5];decide),aq h9,A]
  have U:=hp.kw od
  generalize (p.keyword od).2=q at O U⊢
  refine bG (ae 2 aa (af ?_))
  refine ai ?_
  refine ew (PS.bz q++[(3,.one 38 328 [dI 1,dI m,dI (-1),dI 1099511627776,dN,dN,dS [],dS [],dN,d0,d0,dN,d0,dN,dN,dN,dN,dN,d0,d0,d0]),(2,.one 38 328 [d0,d0,d0,d0,dN,dN,dS [],dS [],dN,d0,d0,dN,d0,dN,dN,dN,dN,dN,d0,d0,d0])]) ?_ ?_; · exact gg rfl ⟨by rw[←A];rfl,rfl,trivial⟩
  refine ae 1 aa (dU (wx F K U.top true) aa aa aa aa (ae 2 aa (af ?_)))
  refine aM (ai ?_)
  have J:=U.top.cQ D true
  refine ae 1 aa (dU (nB F J.ok jG) aa aa aa aa (af (aJ aa (fun z=>?_) (fun z=>?_))))
  ·have G:(q.cQ D true).2.gD D=(((q.cQ D true).2.keyword jG).2.aU [jV]).day D:=by unfold PS.gD;rw[aq z]
   have Y:=J.top.kw jG
   have Z:=Y.top.dD [jV]
   have I:=J.top.gD D
   rw[G] at I
   refine ai (ae 2 aa (gB 27 27 aa aa (fun _=>⟨aa,aa⟩) ?_))
   refine dU (qJ F Y.ok [jV] (by decide)) rfl rfl rfl rfl ?_
   refine af (bG (ae 1 aa (dU (yt F K Z.st) aa aa aa aa (ae 2 aa (af ?_)))))
   refine ai (ae 1 aa (dU (qo F K I.top) aa aa aa aa (ae 2 aa (af ?_))))
   refine ak 2 aa (ax ?_)
   unfold PS.query
   rw[O,G]
   exact⟨_,PS.bz _,aa,fA aa,aa,aa⟩
  have G:(q.cQ D true).2.gD D=(-1,(q.cQ D true).2):=by unfold PS.gD;rw[aj (by rw[z];decide)]
  rw[PS.cK z]
  have I:=J.top.gD D
  rw[G] at I
  refine aT (ai (ae 1 aa (dU (qo F K I.top) aa aa aa aa (ae 2 aa (af ?_)))))
  refine ak 2 aa (ax ?_)
  unfold PS.query
  rw[O,G]
  exact⟨_,PS.bz _,aa,fA aa,aa,aa⟩
 rw[PS.cK h9]
 refine ai (ae 1 aa (dU (nB F hp.ok og) aa aa aa aa (ae 1 aa (af ?_))))
 refine aJ aa (fun bI=>?_) (fun bI=>?_)
 ·obtain⟨m,A⟩:∃m:Int,4=m:=⟨_,rfl⟩
  have O:p.mode=(m,(p.keyword og).2):=by unfold PS.mode;rw[aj (by rw[h5];decide),aj (by rw[h9];decide),aq bI,A]
  have U:=hp.kw og
  generalize (p.keyword og).2=q at O U⊢
  refine bG (ae 2 aa (af ?_))
  refine ai ?_
  refine ew (PS.bz q++[(3,.one 38 328 [dI 1,dI m,dI (-1),dI 1099511627776,dN,dN,dS [],dS [],dN,d0,d0,dN,d0,dN,dN,dN,dN,dN,d0,d0,d0]),(2,.one 38 328 [d0,d0,d0,d0,dN,dN,dS [],dS [],dN,d0,d0,dN,d0,dN,dN,dN,dN,dN,d0,d0,d0])]) ?_ ?_; · exact gg rfl ⟨by rw[←A];rfl,rfl,trivial⟩
  refine ae 1 aa (dU (wx F K U.top true) aa aa aa aa (ae 2 aa (af ?_)))
  refine aM (ai ?_)
  have J:=U.top.cQ D true
  refine ae 1 aa (dU (nB F J.ok jG) aa aa aa aa (af (aJ aa (fun z=>?_) (fun z=>?_))))
  ·have G:(q.cQ D true).2.gD D=(((q.cQ D true).2.keyword jG).2.aU [jV]).day D:=by unfold PS.gD;rw[aq z]
   have Y:=J.top.kw jG
   have Z:=Y.top.dD [jV]
   have I:=J.top.gD D
   rw[G] at I
   refine ai (ae 2 aa (gB 27 27 aa aa (fun _=>⟨aa,aa⟩) ?_))
   refine dU (qJ F Y.ok [jV] (by decide)) rfl rfl rfl rfl ?_
   refine af (bG (ae 1 aa (dU (yt F K Z.st) aa aa aa aa (ae 2 aa (af ?_)))))
   refine ai (ae 1 aa (dU (qo F K I.top) aa aa aa aa (ae 2 aa (af ?_))))
   refine ak 2 aa (ax ?_)
   unfold PS.query
   rw[O,G]
   exact⟨_,PS.bz _,aa,fA aa,aa,aa⟩
  have G:(q.cQ D true).2.gD D=(-1,(q.cQ D true).2):=by unfold PS.gD;rw[aj (by rw[z];decide)]
  rw[PS.cK z]
  have I:=J.top.gD D
  rw[G] at I
  refine aT (ai (ae 1 aa (dU (qo F K I.top) aa aa aa aa (ae 2 aa (af ?_)))))
  refine ak 2 aa (ax ?_)
  unfold PS.query
  rw[O,G]
  exact⟨_,PS.bz _,aa,fA aa,aa,aa⟩
 rw[PS.cK bI]
 refine ai (ae 1 aa (dU (nB F hp.ok oc) aa aa aa aa (ae 1 aa (af ?_))))
 refine aJ aa (fun va=>?_) (fun va=>?_)
 ·obtain⟨m,A⟩:∃m:Int,5=m:=⟨_,rfl⟩
  have O:p.mode=(m,(p.keyword oc).2):=by unfold PS.mode;rw[aj (by rw[h5];decide),aj (by rw[h9];decide),aj (by rw[bI];decide),aq va,A]
  have U:=hp.kw oc
  generalize (p.keyword oc).2=q at O U⊢
  refine bG (ae 2 aa (af ?_))
  refine ai ?_
  refine ew (PS.bz q++[(3,.one 38 328 [dI 1,dI m,dI (-1),dI 1099511627776,dN,dN,dS [],dS [],dN,d0,d0,dN,d0,dN,dN,dN,dN,dN,d0,d0,d0]),(2,.one 38 328 [d0,d0,d0,d0,dN,dN,dS [],dS [],dN,d0,d0,dN,d0,dN,dN,dN,dN,dN,d0,d0,d0])]) ?_ ?_; · exact gg rfl ⟨by rw[←A];rfl,rfl,trivial⟩
  refine ae 1 aa (dU (wx F K U.top true) aa aa aa aa (ae 2 aa (af ?_)))
  refine aM (ai ?_)
  have J:=U.top.cQ D true
  refine ae 1 aa (dU (nB F J.ok jG) aa aa aa aa (af (aJ aa (fun z=>?_) (fun z=>?_))))
  ·have G:(q.cQ D true).2.gD D=(((q.cQ D true).2.keyword jG).2.aU [jV]).day D:=by unfold PS.gD;rw[aq z]
   have Y:=J.top.kw jG
   have Z:=Y.top.dD [jV]
   have I:=J.top.gD D
   rw[G] at I
   refine ai (ae 2 aa (gB 27 27 aa aa (fun _=>⟨aa,aa⟩) ?_))
   refine dU (qJ F Y.ok [jV] (by decide)) rfl rfl rfl rfl ?_
   refine af (bG (ae 1 aa (dU (yt F K Z.st) aa aa aa aa (ae 2 aa (af ?_)))))
   refine ai (ae 1 aa (dU (qo F K I.top) aa aa aa aa (ae 2 aa (af ?_))))
   refine ak 2 aa (ax ?_)
   unfold PS.query
   rw[O,G]
   exact⟨_,PS.bz _,aa,fA aa,aa,aa⟩
  have G:(q.cQ D true).2.gD D=(-1,(q.cQ D true).2):=by unfold PS.gD;rw[aj (by rw[z];decide)]
  rw[PS.cK z]
  have I:=J.top.gD D
  rw[G] at I
  refine aT (ai (ae 1 aa (dU (qo F K I.top) aa aa aa aa (ae 2 aa (af ?_)))))
  refine ak 2 aa (ax ?_)
  unfold PS.query
  rw[O,G]
  exact⟨_,PS.bz _,aa,fA aa,aa,aa⟩
 rw[PS.cK va]
 obtain⟨m,A⟩:∃m:Int,1=m:=⟨_,rfl⟩
 obtain⟨q,sU⟩:∃q,p=q:=⟨_,rfl⟩
 have O:p.mode=(m,q):=by unfold PS.mode;rw[aj (by rw[h5];decide),aj (by rw[h9];decide),aj (by rw[bI];decide),aj (by rw[va];decide),A,sU]
 have U:bO p q:=by rw[←sU];exact .refl hp
 refine aT (ai ?_)
 refine ew (PS.bz q++[(3,.one 38 328 [dI 1,dI m,dI (-1),dI 1099511627776,dN,dN,dS [],dS [],dN,d0,d0,dN,d0,dN,dN,dN,dN,dN,d0,d0,d0]),(2,.one 38 328 [d0,d0,d0,d0,dN,dN,dS [],dS [],dN,d0,d0,dN,d0,dN,dN,dN,dN,dN,d0,d0,d0])]) ?_ ?_; · exact gg (by rw[←sU];rfl) ⟨by rw[←A];rfl,rfl,trivial⟩
 refine ae 1 aa (dU (wx F K U.top true) aa aa aa aa (ae 2 aa (af ?_)))
 refine aM (ai ?_)
 have J:=U.top.cQ D true
 refine ae 1 aa (dU (nB F J.ok jG) aa aa aa aa (af (aJ aa (fun z=>?_) (fun z=>?_))))
 ·have G:(q.cQ D true).2.gD D=(((q.cQ D true).2.keyword jG).2.aU [jV]).day D:=by unfold PS.gD;rw[aq z]
  have Y:=J.top.kw jG
  have Z:=Y.top.dD [jV]
  have I:=J.top.gD D
  rw[G] at I
  refine ai (ae 2 aa (gB 27 27 aa aa (fun _=>⟨aa,aa⟩) ?_))
  refine dU (qJ F Y.ok [jV] (by decide)) rfl rfl rfl rfl ?_
  refine af (bG (ae 1 aa (dU (yt F K Z.st) aa aa aa aa (ae 2 aa (af ?_)))))
  refine ai (ae 1 aa (dU (qo F K I.top) aa aa aa aa (ae 2 aa (af ?_))))
  refine ak 2 aa (ax ?_)
  unfold PS.query
  rw[O,G]
  exact⟨_,PS.bz _,aa,fA aa,aa,aa⟩
 have G:(q.cQ D true).2.gD D=(-1,(q.cQ D true).2):=by unfold PS.gD;rw[aj (by rw[z];decide)]
 rw[PS.cK z]
 have I:=J.top.gD D
 rw[G] at I
 refine aT (ai (ae 1 aa (dU (qo F K I.top) aa aa aa aa (ae 2 aa (af ?_)))))
 refine ak 2 aa (ax ?_)
 unfold PS.query
 rw[O,G]
 exact⟨_,PS.bz _,aa,fA aa,aa,aa⟩
set_option maxHeartbeats 2000000 in
theorem V9{T:bf}(F:FT T){D:Rd}(z:g7 T D){p:PS}(hp:bd p):bV T 97 [.vp 1000 0] (PS.bz p) fun r Bn=>r=ep (p.qz D).1.enc∧Bn=PS.bz (p.qz D).2:=by
 refine cl F.f97 aa (ak 1 aa (ai (ae 1 aa (dU (wx F z hp false) aa aa aa aa (ae 3 aa (af ?_))))))
 refine ai (ae 2 aa (gB 8 8 aa aa (fun _=>⟨aa,aa⟩) ?_))
 refine dU (qJ F (hp.cQ D false).ok [jG,jV] (by decide)) rfl rfl rfl rfl ?_
 refine af (ai (ae 1 aa (dU (yt F z (hp.q7 D).st) aa aa aa aa (ae 2 aa (af ?_)))))
 refine ai (ae 1 aa (dU (qo F z ((hp.q7 D).top.day D).top) aa aa aa aa (ae 2 aa (af ?_))))
 exact ak 2 aa (ax (⟨_,PS.bz (p.qz D).2,aa,fA aa,aa,aa⟩))
set_option maxHeartbeats 2000000 in
theorem V'{T:bf}(F:FT T){D:Rd}(A:g7 T D){p:PS}(hp:bd p):bV T 98 [.vp 1000 0] (PS.bi p) fun r Bn=>r=ep p.hold.1.enc∧Bn=PS.bi p.hold.2:=by
 refine cl F.f98 aa (ak 1 aa (ai (ae 1 aa (bh (number F A hp.st (-1)) aa aa aa aa aa (ae 3 aa (af ?_))))))
 refine ai (ae 2 aa (gB 8 8 aa aa (fun _=>⟨aa,aa⟩) ?_))
 refine bh (aU F (hp.number _).ok [hZ] (by decide)) rfl rfl rfl rfl rfl ?_
 refine af (ai (ae 1 aa (bh (number F A hp.lU.st (-1)) aa aa aa aa aa (ae 3 aa (af ?_)))))
 refine ai (ae 2 aa (gB 15 15 aa aa (fun _=>⟨aa,aa⟩) ?_))
 refine bh (aU F (hp.lU.top.number _).ok [IB] (by decide)) rfl rfl rfl rfl rfl ?_
 refine af (aM (ai (ae 1 aa (bh (keyword F hp.mi.ok xu) aa aa aa aa aa (af (aJ aa (fun z=>?_) (fun z=>?_)))))))
 ·have G:p.pP=(1099511627776,(p.mi.keyword xu).2):=by unfold PS.pP;rw[aq z]
  refine bG (ae 3 aa (af ?_))
  refine ak 2 aa (ax ?_)
  unfold PS.hold
  rw[G]
  exact⟨_,PS.bi _,aa,cH aa aa,aa,aa⟩
 have G:p.pP=p.mi.number (p.lU.number (-1)).1:=by unfold PS.pP;rw[aj (by rw[z];decide)]
 rw[PS.cK z]
 refine bG (ae 4 aa (bh (number F A hp.mi.st (p.lU.number (-1)).1) aa aa aa aa aa (ae 3 aa (af ?_))))
 refine ak 2 aa (ax ?_)
 unfold PS.hold
 rw[G]
 exact⟨_,PS.bi _,aa,cH aa aa,aa,aa⟩
end Go.Ev.Pp
