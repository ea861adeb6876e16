/- Part 30 of rules for walks through the code of a program, and of such walks; what each part proves is said by its theorems. -/
import Derived.Test.YtmpoloiempjdpaaGreatR21
import Derived.Test.YtmpoloiempjdpaaGreatR22
import Derived.Test.YtmpoloiempjdpaaGreatR23
import Derived.Test.YtmpoloiempjdpaaGreatR24
import Derived.Test.YtmpoloiempjdpaaGreatR25
import Derived.Test.YtmpoloiempjdpaaGreatR26
import Derived.Test.YtmpoloiempjdpaaGreatR27
import Derived.Test.YtmpoloiempjdpaaGreatR29
set_option linter.unusedVariables false
set_option linter.unusedSimpArgs false
noncomputable section
set_option maxRecDepth 100000
set_option maxHeartbeats 4000000
namespace Go.Ev.Rp
open Go Go.Ev.Pp
attribute [local irreducible] VC VO VQ VI Sound bY
theorem clIB{T:aM}(F:FT T){M:DC}{z:ai}(I:au z M)(O:z.length≤1000000000)(L:af bn z):Sound T 56 [.d M] fun r=>∃U A,r= .d U∧au A U∧(A.length:Int)≤1000000000∧af bn A:=by
 refine bm F.XV aa (r0 8 aa ?_);rcases I with G|⟨Y,G⟩
 ·subst G;refine aw (qg aa aa ?_);refine ro 1 aa (dq aa aa (aA 5 aa (rL (rows:=[]) (ys:=z) aa aa aa (.sD (.inl aa) (cD L aa)) ao ae ?_)));exact ro 2 aa (lz 2 5 aa aa (fun _=>⟨aa,aa⟩) (W))
 subst G;exact W
theorem clRows{T:aM}(F:FT T){a0:DC}{G:ai}(U:au G a0)(cT:G.length≤4096)(bN:af HH G):Sound T 32 [.d a0] fun r=>∃y0 bw,r= .d y0∧au bw y0∧(bw.length:Int)≤4096∧af HH bw:=by
 refine bm F.q32 aa (ch 12 aa (aQ aa U ?_));refine ro 3 aa (dP 3 90 134 48 2 aa aa (bj [7,6,2,0] [] aa aa (fun e0 b0 k VE B=>∃z A,an ((3,.ac 90 A.length 2)::(8,.d (dJ z))::e0) VE∧an ((90,.acc 134 48 2 A)::b0) B∧k=((G.length:Int) -z).toNat∧(0≤z∧(z≤(G.length:Int)∨z=0))∧((A.length:Int)≤z)∧(af HH A)) ?_ fin));rintro _ VE B⟨z,A,hV,hB,rfl,bU,cS,GG⟩;refine aU _ _ hV hB (rc 5 aa ?_);refine ay aa ?_ ?_<;>intro g1
 ·refine rc 5 aa ?_;obtain⟨gW,⟨pB,I,vb,L⟩,fH,⟨nF,M,nz,O⟩,bS⟩:=qI z bN;refine aw (aH aa aa U ae bS aa ?_);refine ro 8 aa (aP aa (aB aa (clV F I ae L) ?_));rintro _ _⟨Y,oL,rfl,Al,CY,vc,LL,hfy3_0⟩;refine rq 2 aa (aP aa (aB aa (clIB F M ae O) ?_));rintro _ _⟨Z,lD,rfl,va,tq,ts⟩;refine rq 2 aa ?_;refine aP rfl (aY (rows:=A) (ys:=[[Y,Z]]) rfl rfl rfl (.bs (rows:=[[Y,Z]]) rfl) ao ae (fun h=>by rw[h];rfl) (fun h=>by rw[h];rfl) ?_);exact W
 exact rc 6 aa (cA 2 90 aa aa (fun _=>⟨aa,aa⟩) (W))
end Go.Ev.Rp
namespace Go.Ev.Rp
open Go Go.Ev.Pp
theorem clHN{T:aM}(F:FT T):Sound T 28 [dN] fun r=>r=dN:=by
 refine bm F.q28 aa (ch 8 aa (s8 aa aa ?_));exact ro 1 aa (eu aa aa (eA 5 aa (bL aa aa aa)))
theorem clHB{T:aM}(F:FT T){w:ai}(A:w.length≤100000)(z:af kH w):Ag T 28 [.d (.sl w)] fun r B=>r= .bs 5 w.length 3∧B=[(5,.arr 51 24 3 w.length w)]:=by
 refine ij F.q28 aa (ch 8 aa (qg aa aa ?_));refine ro 1 aa (dq aa aa (aA 5 aa (rL (rows:=[]) (ys:=w) aa aa aa (.sD (.inl aa) (cD z aa)) ao ae ?_)));exact ro 3 aa (⟨[_],[(5,.arr 51 24 3 w.length w)],aa,⟨aa,trivial⟩,aa,aa⟩)
def V9(w:ai)(y:DC)(fs:de):Prop:=(w=[]∧y= .nil∧fs=[])∨∃g,y= .raw g w.length 3∧fs=[(g,.arr 51 24 3 w.length w)]
def pR(A:de)(R G:ai)(fs:de):Prop:=∃z,fs=A++z∧jg R G z
theorem pR.nil{z:de}:pR z [] [] z:=⟨[],by simp,rfl⟩
theorem pR.len{z:de}{R A:ai}{fs:de}(h:pR z R A fs):R.length=A.length:=by
 obtain⟨_,_,h⟩:=h;exact h.len
theorem pR.snoc{z:de}{r r':List DC}{l:de}(h:zP r r' l){R G:ai}{fs:de}(k:pR z R G fs):pR z (R++[r]) (G++[r']) (fs++l):=by
 obtain⟨A,rfl,k⟩:=k;exact⟨A++l,by simp,jg.snoc h k⟩
theorem cloneE{T:aM}(F:FT T){nv mv:Nat}{L M Z O a4 a5:DC}{A:ai}(ct:au A Z)(df:A.length≤16)(bQ:af (rW nv mv) A){Y:ai}(dx:au Y a4)(eU:Y.length≤50)(dg:af kH Y){fK:ai}(gh:au fK a5)(nc:fK.length≤13)(ib:af jN fK)(mw:nv≤99)(ru:mv≤100000):
  Gx T 14 [.agg [.d L,.d M,.d Z,.d O,.d a4,.d a5]] [] fun r fs=>∃y2 y4 y5 w2 p7 uu jF,r= .agg [.d L,.d M,.d y2,.d O,.d y4,.d y5]∧V9 Y y4 uu∧jg A w2 p7∧au jF y5∧jF.length≤13∧af jN jF∧((w2=[]∧y2= .nil∧fs=uu++p7)∨∃g,w2≠[]∧y2= .raw g w2.length 6∧fs=uu++p7++[(g,.arr 43 136 6 w2.length w2)]):=by
 refine Qt F.q14 aa (pA (c9 2 aa (xr (xk (R:=fun x VE B fs=>x= .normal∧∃y4,V9 Y y4 fs∧an [(0,.agg [.d L,.d M,.d Z,.d O,.d a4,.d a5]),(1,.vp 1 0),(2,.vp 2 0),(3,.vp 3 0)] VE∧an [(1,.one 29 96 [.d L,.d M,.d Z,.d O,.d a4,.d a5]),(2,.one 29 96 [.d i0,.d i0,dN,.d i0,dN,dN]),(3,.one 29 96 [.d L,.d M,dN,.d O,.d y4,dN])] B) (xk (R:=fun x VE B fs=>fs=[]∧x= .normal∧an [(0,.agg [.d L,.d M,.d Z,.d O,.d a4,.d a5]),(1,.vp 1 0),(2,.vp 2 0),(3,.vp 3 0)] VE∧((Y=[]∧an [(1,.one 29 96 [.d L,.d M,.d Z,.d O,.d a4,.d a5]),(2,.one 29 96 [.d i0,.d i0,dN,.d i0,dN,dN]),(3,.one 29 96 [.d L,.d M,dN,.d O,dN,dN])] B)∨∃gH,an [(3005,.bP gH (.arr 51 24 3 Y.length Y)),(1,.one 29 96 [.d L,.d M,.d Z,.d O,.d a4,.d a5]),(2,.one 29 96 [.d i0,.d i0,dN,.d i0,dN,dN]),(3,.one 29 96 [.d L,.d M,dN,.d O,.d (.raw gH Y.length 3),dN])] B)) (oF (te ?_)) ?_) ?_))))
 ·refine mS 8 aa ?_;rcases dx with rfl|⟨XY,rfl⟩
  ·refine aP aa (zM 3000 aa aa aa aa (clHB F al dg) (fun r1 Bn1 Ca=>?_));obtain⟨rfl,rfl⟩:=Ca;refine ny 3005 aa (fun gH=>?_);exact vq_rawB 18 3005 aa aa (Du 3 aa (⟨aa,aa,⟨aa,aa,aa,aa,trivial⟩,.inr ⟨gH,aa,aa,aa,aa,trivial⟩⟩))
  refine aP aa (aB aa (clHN F) (fun r1 _ Ca=>?_));subst Ca;exact Du 3 aa (⟨aa,aa,⟨aa,aa,aa,aa,trivial⟩,.inl ⟨XY,aa,aa,aa,trivial⟩⟩)
 ·rintro x VE B fs⟨rfl,rfl,hV,⟨XY,hB⟩|⟨gH,hB⟩⟩
  ·exact nr _ _ hV hB (je ⟨aa,.nil,.inl ⟨XY,aa,aa⟩,⟨aa,aa,aa,aa,trivial⟩,⟨aa,aa,aa,trivial⟩⟩)
  exact nr _ _ hV hB (xg (t:=.arr 51 24 3 Y.length Y) 3005 aa trivial trivial aa (je ⟨aa,.raw gH Y.length 3,.inr ⟨gH,aa,aa⟩,⟨aa,aa,aa,aa,trivial⟩,⟨aa,aa,aa,trivial⟩⟩))
 rintro x VE B uu⟨rfl,y4,hH,hV,hB⟩;refine nr _ _ hV hB (je ?_);refine xr (pA (eY 2 aa (aw (aQ aa ct ?_))));refine c9 1 aa (qu (nr [(0,.agg [.d L,.d M,.d Z,.d O,.d a4,.d a5]),(1,.vp 1 0),(2,.vp 2 0),(3,.vp 3 0),(21,.d Z),(22,.d (dJ (A.length:Int))),(23,.d i0)] [(1,.one 29 96 [.d L,.d M,.d Z,.d O,.d a4,.d a5]),(2,.one 29 96 [.d i0,.d i0,dN,.d i0,dN,dN]),(3,.one 29 96 [.d L,.d M,dN,.d O,.d y4,dN])] ⟨aa,aa,aa,aa,aa,aa,aa,trivial⟩ ⟨aa,aa,aa,trivial⟩ (je ?_)));have hloopI:True:=trivial;refine qu (ZL 3 2 90 43 136 6 aa aa aa (je ?_));refine xk (R:=fun x VE B fs=>x= .normal∧∃(i:Int)(U:ai),pR uu A U fs∧an [(0,.agg [.d L,.d M,.d Z,.d O,.d a4,.d a5]),(1,.vp 1 0),(2,.vp 2 0),(3,.vp 3 0),(21,.d Z)] VE∧an [(1,.one 29 96 [.d L,.d M,.d Z,.d O,.d a4,.d a5]),(2,.one 29 96 [.d i0,.d i0,dN,.d i0,dN,dN]),(3,.one 29 96 [.d L,.d M,.ac 90 U.length 6,.d O,.d y4,dN]),(90,.acc 43 136 6 U)] B) (QP (ab5 (fun k VE B fs=>∃(G:Int)(U:ai),0≤G∧G≤(A.length:Int)∧pR uu (A.take G.toNat) U fs∧k=((A.length:Int) -G).toNat∧an [(0,.agg [.d L,.d M,.d Z,.d O,.d a4,.d a5]),(1,.vp 1 0),(2,.vp 2 0),(3,.vp 3 0),(21,.d Z),(22,.d (dJ (A.length:Int))),(23,.d (dJ G))] VE∧an [(1,.one 29 96 [.d L,.d M,.d Z,.d O,.d a4,.d a5]),(2,.one 29 96 [.d i0,.d i0,dN,.d i0,dN,dN]),(3,.one 29 96 [.d L,.d M,.ac 90 U.length 6,.d O,.d y4,dN]),(90,.acc 43 136 6 U)] B) ?_ (k:=((A.length:Int) -0).toNat) ⟨0,[],ae,ae,pR.nil,aa,⟨aa,aa,aa,aa,aa,aa,aa,trivial⟩,⟨aa,aa,aa,aa,trivial⟩⟩)) ?_
 ·rintro _ VE B fs⟨G,U,f0,f1,hO,rfl,hV,hB⟩;refine xk (R:=fun x bh B' cX=>cX=fs∧((x= .exit 0∧¬G<(A.length:Int)∧an [(0,.agg [.d L,.d M,.d Z,.d O,.d a4,.d a5]),(1,.vp 1 0),(2,.vp 2 0),(3,.vp 3 0),(21,.d Z)] bh∧an [(1,.one 29 96 [.d L,.d M,.d Z,.d O,.d a4,.d a5]),(2,.one 29 96 [.d i0,.d i0,dN,.d i0,dN,dN]),(3,.one 29 96 [.d L,.d M,.ac 90 U.length 6,.d O,.d y4,dN]),(90,.acc 43 136 6 U)] B')∨(x= .normal∧G<(A.length:Int)∧∃r r':List DC,A[G.toNat]?=some r∧an [(0,.agg [.d L,.d M,.d Z,.d O,.d a4,.d a5]),(1,.vp 1 0),(2,.vp 2 0),(3,.vp 3 0),(21,.d Z),(22,.d (dJ (A.length:Int))),(23,.d (dJ (G+1)))] bh∧((zP r r' []∧an [(1,.one 29 96 [.d L,.d M,.d Z,.d O,.d a4,.d a5]),(2,.one 29 96 [.d i0,.d i0,dN,.d i0,dN,dN]),(3,.one 29 96 [.d L,.d M,.ac 90 (U++[r']).length 6,.d O,.d y4,dN]),(90,.acc 43 136 6 (U++[r']))] B')∨∃g w,zP r r' [(g,.arr 48 64 6 w.length w)]∧an [(2005,.bP g (.arr 48 64 6 w.length w)),(1,.one 29 96 [.d L,.d M,.d Z,.d O,.d a4,.d a5]),(2,.one 29 96 [.d i0,.d i0,dN,.d i0,dN,dN]),(3,.one 29 96 [.d L,.d M,.ac 90 (U++[r']).length 6,.d O,.d y4,dN]),(90,.acc 43 136 6 (U++[r']))] B')))) (oF ?_) ?_
  ·have hw3l:U.length≤16:=by have:=pR.len hO;rw[ju] at this;omega
   refine aU _ _ hV hB (ew (c9 1 aa (ff ?_)));refine cE aa ?_ ?_<;>intro h2
   ·have g2:G<(A.length:Int):=by simpa using h2
    refine lv (ff (kz (ew ?_)));obtain⟨x0,JL,x1,EP,x2,wF,x3,XZ,x4,X1,x5,JV,fJ⟩:=qI G bQ;refine aw (aH aa aa ct ae fJ aa ?_);refine c9 3 aa (Dt ?_);rcases Ty.aL EP,Ty.aL wF,Ty.aL XZ,Ty.aL X1,Ty.aL JV with⟨⟨wx1,V',hnx1,hrx1⟩,⟨wx2,Wa,hnx2,hrx2⟩,⟨wx3,Wb,hnx3,hrx3⟩,⟨wx4,Wc,hnx4,hrx4⟩,⟨I,Wd,hnx5,Ou⟩⟩
    refine mS 2 aa (aP aa (aB aa (clSchema F JL V' ae hrx1 Wa ae hrx2 Wb ae hrx3 Wc ae hrx4) ?_));rintro _ _⟨y1,kx,y2,dE,y3,E4,y5,jF,rfl,ajK,hny1,ajL,hmy1,hq1,ajM,hny2,hry2,hmy2,hq2,ajN,hny3,hry3,hmy3,hq3,ajO,hny5,ajP,hmy5,hq5⟩;subst hq2;subst hq3;refine mS 2 aa ?_;rcases Wd with X2|⟨ew5,X2⟩
    ·subst X2;refine aP aa (zM 2000 aa aa aa aa (clVerB F ae Ou) (fun r5 Bn5 X3=>?_));obtain⟨rfl,rfl⟩:=X3;refine Du 3 aa (cw [23,22,21,6,3,2,1,0] [90,3,2,1,6,2005] aa aa (ff (ew (eY 2 aa (aw (Re aa ?_))))));refine c9 1 aa (kz (FC [36,23,22,21,6,3,2,1,0] [90,3,2,1,6,2005] aa aa (fun e0 b0 k VE B=>∃zi,0≤zi∧k=((I.length:Int) -zi).toNat∧an ((37,.d (dJ zi))::e0) VE∧an b0 B) ?_ (k:=((I.length:Int) -0).toNat) ⟨0,ae,aa,⟨aa,aa,aa,aa,aa,aa,aa,aa,aa,aa,trivial⟩,⟨aa,aa,aa,aa,aa,aa,trivial⟩⟩));rintro _ VE B⟨zi,f37,rfl,hV,hB⟩;refine aU _ _ hV hB (ew (c9 1 aa (ff ?_)));refine cE aa ?_ ?_<;>intro h6
     ·have g6:zi<(I.length:Int):=by simpa using h6
      refine lv (ff (kz (ew (c9 2 aa (te ?_)))));obtain⟨j7,iZ,fx⟩:=bD (z:=zi) (n:=I.length) ae ae;obtain⟨r7,eK⟩:∃r,I[j7]?=some r:=⟨_,dm fx⟩;have Pn:=lu Ou eK;obtain⟨z0,hz0,z1,⟨wz1,hdz1,hnz1,hrz1⟩,z2,ng,z3,Po,z4,hz4,z5,X4,rfl⟩:=qO Pn;refine mS 6 aa ?_;refine aV (eL rfl (by rw[←iZ];rfl) fx ?_);refine mS 1 aa (aP aa (jG aa aa (bf _) (bf _) fx eK aa ?_));refine aP aa (aB aa (clVe F hdz1 ae hrz1) (fun r8 _ JW=>?_));subst JW;refine aV (eL rfl (by rw[←iZ];rfl) fx ?_);refine mS 1 aa (iK aa (rF aa aa aa aa aa aa ao ao eK (fun w8 n9 sP=>?_)));have n9:w8=I:=by
       rw[n9,putD_same (by rfl)];obtain⟨h8,e8⟩:=List.getElem?_eq_some_iff.1 eK;rw[←e8,lm146]
      subst n9;refine Af (i7 (aw (bx aa aa ae ae ?_)));refine c9 1 aa ?_;exact⟨_,(by omega:((w8.length:Int) -(zi+1)).toNat<_),zi+1,ae,rfl,⟨rfl,rfl,rfl,rfl,rfl,rfl,rfl,rfl,rfl,rfl,trivial⟩,⟨rfl,rfl,rfl,rfl,rfl,rfl,trivial⟩⟩
     refine oj (i7 (eY 3 aa (Sg 2005 aa (fun g=>?_))));refine rO 55 (.agg [.d x0,.d y1,.d y2,.d y3,.d y5,.d (.raw g I.length 6)]) aa (fun H X β a hp h=>K2 (i:=5) aa (fun _=>raw_bs (hp 2005 g (.arr 48 64 6 I.length I) aa trivial)) h) (eY 1 aa ?_);refine aw (aY (rows:=U) (ys:=[[x0,y1,y2,y3,y5,.raw g I.length 6]]) rfl rfl rfl (.bs (rows:=[[x0,y1,y2,y3,y5,.raw g I.length 6]]) rfl) ao ae (fun h=>by rw[h];rfl) (fun h=>by rw[h];rfl) ?_);refine c9 2 aa (i7 (aw (bx aa aa ae ae ?_)));refine c9 1 aa (⟨aa,.inr ⟨aa,g2,_,[x0,y1,y2,y3,y5,.raw g I.length 6],fJ,⟨aa,aa,aa,aa,aa,aa,aa,trivial⟩,.inr ⟨g,I,⟨x0,x1,y1,x2,y2,x3,y3,x4,y5,_,_,aa,aa,⟨wx1,kx,V',ajK,hq1,ajL⟩,⟨_,Wa,ajM⟩,⟨_,Wb,ajN⟩,⟨wx4,jF,Wc,ajO,hq5,ajP⟩,.inr ⟨I,g,aa,aa,aa⟩⟩,⟨aa,aa,aa,aa,aa,trivial⟩⟩⟩⟩)
    subst X2;refine aP aa (aB aa (clVerN F) (fun r5 _ X3=>?_));subst X3;refine Du 3 aa (cw [23,22,21,6,3,2,1,0] [90,3,2,1,6] aa aa (ff (ew (eY 2 aa (aw (zT aa ?_))))));refine c9 1 aa (kz (FC [37,36,23,22,21,6,3,2,1,0] [90,3,2,1,6] aa aa (fun e0 b0 k VE B=>k=0∧an e0 VE∧an b0 B) ?_ (k:=0) ⟨aa,⟨aa,aa,aa,aa,aa,aa,aa,aa,aa,aa,trivial⟩,⟨aa,aa,aa,aa,aa,trivial⟩⟩));rintro _ VE B⟨rfl,hV,hB⟩;refine aU _ _ hV hB (ew (c9 1 aa (ff ?_)));refine cE aa ?_ ?_<;>intro h6
    ·exact absurd h6 ao
    refine oj (i7 (eY 3 aa (eY 1 aa ?_)));refine aw (aY (rows:=U) (ys:=[[x0,y1,y2,y3,y5,.nil]]) rfl rfl rfl (.bs (rows:=[[x0,y1,y2,y3,y5,.nil]]) rfl) ao ae (fun h=>by rw[h];rfl) (fun h=>by rw[h];rfl) ?_);refine c9 2 aa (i7 (aw (bx aa aa ae ae ?_)));refine c9 1 aa (⟨aa,.inr ⟨aa,g2,_,[x0,y1,y2,y3,y5,.nil],fJ,⟨aa,aa,aa,aa,aa,aa,aa,trivial⟩,.inl ⟨⟨x0,x1,y1,x2,y2,x3,y3,x4,y5,_,_,aa,aa,⟨wx1,kx,V',ajK,hq1,ajL⟩,⟨_,Wa,ajM⟩,⟨_,Wb,ajN⟩,⟨wx4,jF,Wc,ajO,hq5,ajP⟩,.inl ⟨aa,aa,aa⟩⟩,⟨aa,aa,aa,aa,trivial⟩⟩⟩⟩)
   have g2:¬G<(A.length:Int):=by simpa using h2
   exact oj (⟨aa,.inl ⟨aa,g2,⟨aa,aa,aa,aa,aa,trivial⟩,⟨aa,aa,aa,aa,trivial⟩⟩⟩)
  rintro x bh B' cX⟨rfl,⟨rfl,hx,kV,kB⟩|⟨rfl,hx,r,r',hg,kV,⟨hc,kB⟩|⟨g,w,hc,kB⟩⟩⟩
  ·refine je ⟨aa,G,U,?_,kV,kB⟩;rwa [pF al] at hO
  ·refine je ⟨_,?_,G+1,U++[r'],al,al,?_,aa,kV,kB⟩
   ·omega
   rw[take_succ f0 hg];have:=pR.snoc hc hO;rwa [Np] at this
  refine nr _ _ kV kB (xg (t:=.arr 48 64 6 w.length w) 2005 aa trivial trivial aa (je ⟨_,?_,G+1,U++[r'],al,al,?_,aa,⟨aa,aa,aa,aa,aa,aa,aa,trivial⟩,⟨aa,aa,aa,aa,trivial⟩⟩))
  ·omega
  rw[take_succ f0 hg];exact pR.snoc hc hO
 rintro x VE B fs⟨rfl,i,U,hO,hV,hB⟩;obtain⟨p7,rfl,hO⟩:=hO;refine nr _ _ hV hB (je ?_);refine qu (ZL 3 5 91 90 72 6 aa aa aa (je ?_));refine xr (pA (eY 2 aa (aw (aQ aa gh ?_))));refine c9 1 aa (oF (kz (FC [62,61,3,2,1,0] [90,2,1] aa aa (fun e0 b0 k VE B=>∃sR wc,(0≤sR∧(sR≤(fK.length:Int)∨sR=0))∧((wc.length:Int)≤sR)∧af jN wc∧k=((fK.length:Int) -sR).toNat∧an ((63,.d (dJ sR))::e0) VE∧an ((3,.one 29 96 [.d L,.d M,.ac 90 U.length 6,.d O,.d y4,.ac 91 wc.length 6])::(91,.acc 90 72 6 wc)::b0) B) ?_ (k:=((fK.length:Int) -0).toNat) ⟨0,[],⟨ae,.inr aa⟩,ae,cb,aa,⟨aa,aa,aa,aa,aa,aa,aa,trivial⟩,⟨aa,aa,aa,aa,aa,trivial⟩⟩)));rintro _ VE B⟨sR,wc,f0,f1,JR,rfl,hV,hB⟩;refine aU _ _ hV hB (ew (c9 1 aa (ff ?_)));refine cE aa ?_ ?_<;>intro h6
 ·have g6:sR<(fK.length:Int):=by simpa using h6
  refine lv (ff (kz (ew ?_)));obtain⟨x0,JL,x1,EP,x2,wF,x3,XZ,x4,X1,x5,JV,eK⟩:=qI sR ib;obtain⟨I,Wd,hnx5,Ou⟩:=Ty.aL JV;refine aw (aH aa aa gh ae eK aa ?_);refine c9 3 aa (ew (eY 2 aa (aw (aB aa (clRows F Wd ae Ou) (fun r8 _ JW=>?_)))));obtain⟨y8,wy8,rfl,hdy8,hny8,hry8⟩:=JW;refine c9 2 aa (i7 (eY 4 aa ?_));refine aw (aY (rows:=wc) (ys:=[[x0,x1,x2,x3,x4,y8]]) rfl rfl rfl (.bs (rows:=[[x0,x1,x2,x3,x4,y8]]) rfl) ao ae (fun h=>by rw[h];rfl) (fun h=>by rw[h];rfl) ?_);refine c9 2 aa (i7 (aw (bx aa aa ae ae ?_)));refine c9 1 aa ?_;exact⟨_,(by omega:((fK.length:Int) -(sR+1)).toNat<_),sR+1,wc++[[x0,x1,x2,x3,x4,y8]],⟨ae,.inl ae⟩,cR,dW JR (dG (ah JL (ah EP (ah wF (ah XZ (ah X1 (ah (aL hdy8 ae hry8) bl))))))),rfl,⟨rfl,rfl,rfl,rfl,rfl,rfl,rfl,trivial⟩,⟨rfl,rfl,rfl,rfl,rfl,trivial⟩⟩
 refine oj (pA (eY 1 aa (eH 78 91 aa aa ⟨trivial,trivial,(fun e=>absurd e ao),trivial,trivial,(fun _=>⟨aa,aa⟩),trivial⟩ ?_)));have wM:au wc (.cF wc):=by
  cases wc with
  |nil=>exact .inr ⟨rfl,rfl⟩
  |cons=>exact .inl rfl
 cases U with
 |nil=>
  refine rO 78 (.agg [.d L,.d M,dN,.d O,.d y4,.d (.cF wc)]) aa (fun H X β a hp h=>K2 (i:=2) aa (fun _=>Sk) h) (c9 1 aa (oF (mM ?_)));exact⟨_,aa,ov aa,.nil,y4,.cF wc,[],p7,uu,wc,aa,hH,hO,wM,al,JR,.inl ⟨aa,aa,aa⟩⟩
 |cons q U=>
  refine Sg 90 aa (fun g=>?_);refine rO 78 (.agg [.d L,.d M,.d (.raw g (q::U).length 6),.d O,.d y4,.d (.cF wc)]) rfl (fun H X β a hp h=>K2 (i:=2) rfl (fun _=>raw_ac (hp 90 g (.acc 43 136 6 (q::U)) rfl (fun e=>by cases e)) (Nr _)) h) ?_;refine c9 1 aa ?_;refine qu (xg (t:=.arr 43 136 6 (q::U).length (q::U)) 90 rfl (fun e=>by cases e) trivial rfl (je (oF (mM ?_))));exact⟨_,rfl,ov rfl,.raw g (q::U).length 6,y4,.cF wc,q::U,p7,uu,wc,rfl,hH,hO,wM,al,JR,.inr ⟨g,(fun e=>by cases e),rfl,rfl⟩⟩
end Go.Ev.Rp
namespace Go.Ev.Rp
open Go Go.Ev.Pp
section
variable{VE:bb}{B:aK}
end
theorem acp{α:Type}:∀{r l m:List (Nat×α)},an r l→(∀k v,aF l k=some v→aF m k=some v)→an r m
 |[],_,_,_,_=>trivial
 |(i,v)::r,_,_,h,k=>⟨k i v h.1,acp h.2 k⟩
section
variable{VE:bb}{B0:aK}{cX:de}{R:bb→aK→de→Prop}
theorem zP.gB{nv mv:Nat}{r r':List DC}{l:de}(h:zP r r' l)(z:e6 (rW nv mv) r):(l=[]∧e6 (rW nv mv) r')∨∃g w,l=[(g,.arr 48 64 6 w.length w)]∧r'[5]?=some (.raw g w.length 6)∧e6 (rW nv mv) (r'.set 5 (.sl w)):=by
 obtain⟨nm,v,v',k,k',f,f',c,c',x,x',rfl,rfl,⟨wv,wv',A,G,I,L⟩,⟨wk,M,O⟩,⟨wf,U,Y⟩,⟨wc,wc',Z,hc2,hc3,hc4⟩,hx⟩:=h;obtain⟨_,_,e,k0,z⟩:=dw z
 cases e
 obtain⟨_,_,e,⟨u1,a1,b1,c1⟩,z⟩:=dw z
 cases e
 obtain⟨_,_,e,⟨u2,a2,b2,c2⟩,z⟩:=dw z
 cases e
 obtain⟨_,_,e,⟨u3,a3,b3,c3⟩,z⟩:=dw z
 cases e
 obtain⟨_,_,e,⟨u4,a4,b4,c4⟩,z⟩:=dw z
 cases e
 obtain⟨_,_,e,⟨u5,a5,b5,c5⟩,z⟩:=dw z
 cases e
 obtain rfl:=au.uniq A a1;obtain rfl:=au.uniq M a2;obtain rfl:=au.uniq U a3;obtain rfl:=au.uniq Z a4;have rest:∀y:DC,(Ty.l mv gb).ok y→e6 (rW nv mv) [nm,v',k',f',c',y]:=fun y hy=>
  ah k0 (ah (aL G (I.1▸b1) L) (ah (aL O b2 c2) (ah (aL Y b3 c3) (ah (aL hc2 (hc3.1▸b4) hc4) (ah hy bl)))))
 rcases hx with⟨rfl,rfl,rfl⟩|⟨w,g,rfl,rfl,rfl⟩
 ·exact .inl ⟨aa,rest _ gw⟩
 refine .inr ⟨g,w,aa,aa,rest _ (aL (.inl aa) ?_ ?_)⟩
 ·obtain rfl:=au.uniq (.inl rfl:au w (.sl w)) a5;exact b5
 obtain rfl:=au.uniq (.inl rfl:au w (.sl w)) a5;exact c5
end
end Go.Ev.Rp
namespace Go.Ev.Rp
open Go Go.Ev.Pp
attribute [local irreducible] VC VO VQ VI Sound bY
end Go.Ev.Rp
namespace Go.Ev.Rp
open Go Go.Ev.Pp
attribute [local irreducible] VC VO VQ VI Sound bY
end Go.Ev.Rp
namespace Go.Ev.Rp
open Go Go.Ev.Pp
attribute [local irreducible] VC VO VQ VI Sound bY
end Go.Ev.Rp
namespace Go.Ev.Rp
open Go Go.Ev.Pp
attribute [local irreducible] VC VO VQ VI Sound bY
end Go.Ev.Rp
namespace Go.Ev.Rp
open Go Go.Ev.Pp
attribute [local irreducible] VC VO VQ VI Sound bY
end Go.Ev.Rp
namespace Go.Ev.Rp
open Go Go.Ev.Pp
attribute [local irreducible] VC VO VQ VI Sound bY
end Go.Ev.Rp
namespace Go.Ev.Rp
open Go Go.Ev.Pp
section
variable{T:aM}{VE:bb}{B:aK}{fs:de}
theorem Ru{k:Key}{a b:IC}{t:Bool}{R:Ex→bb→aK→de→Prop}(A:aF VE k.n=some (dB t))(G:t=true→VD T a VE B fs R)(h2:t=false→VD T b VE B fs R):VD T (.cond (.t k) a b) VE B fs R:=fun H0 X0 P Hs E H β z=>
 KE (t:=t) (z.rel.bool A) (fun e=>G e H0 X0 P Hs E H β z) (fun e=>h2 e H0 X0 P Hs E H β z)
theorem vd_condTH{k:Key}{a b:IC}{t:Bool}{R:Ex→bb→aK→de→Prop}(z:aF VE k.n=some (dB t))(A:t=true)(h:VD T a VE B fs R):VD T (.cond (.t k) a b) VE B fs R:=Ru z (fun _=>h) (fun e=>by rw[A] at e;cases e)
theorem vd_skip{R:Ex→bb→aK→de→Prop}(h:R .normal VE B fs):VD T .skip VE B fs R:=oF (lv h)
theorem Sw{R:Ex→bb→aK→de→Prop}(h:R .ret VE B fs):VD T .ret VE B fs R:=oF (mM h)
theorem vd_blockV{id:Nat}{c:IC}{R:Ex→bb→aK→de→Prop}(h:VD T c VE B fs fun x=>R (B2 id x)):VD T (.block id c) VE B fs R:=QP (by
 have:(fun x=>R (EY id x))=fun x=>R (B2 id x):=funext fun x=>by rw[aef]
 rw[this];exact h)
theorem Rel.frzRV{H0:Nat→Nat}{X0:Nat→Prop}{E:Env}{H:ax}{β:Nat→Nat}(M:Rel H0 X0 VE B E H β){b c f elem aD es lo e U i n:Nat}{w:ai}{row:List VV}(Y:aF B b=some (.bP f (.arr elem aD es lo w)))(Z:aF B c=some (.one e U row))(XX:b≠c)(hn:n=w.length)(hi:row[i]?=some (.d (.raw f n es))):Rel H0 X0 VE ((c,.one e U (row.set i (.d (.sl w))))::cQ B b) E H β:=by
 subst hn;have hf:=M.pinned Y trivial;have h:=M.drop b;have A:∀d s,aF (cQ B b) d=some s→b≠d∧aF B d=some s:=fun d s z=>by
  rw[jb] at z
  by_cases e:b=d
  ·rw[bg e] at z;cases z
  rw[aZ e] at z;exact⟨e,z⟩
 have sH:aF (cQ B b) c=some (.one e U row):=by rw[jb,aZ XX];exact Z
 have O:=jH (s':=.one e U (row.set i (.d (.sl w)))) sH ga;generalize hX:XB X0 ((c,.one e U (row.set i (.d (.sl w))))::cQ B b) β=X;have hl:eP H (XB X0 (cQ B b) β) H X:=by rw[←hX];exact⟨bf _,fun f _ hx=>⟨fun k=>hx (k.imp id fun⟨c,t,z,ho,h2⟩=>by obtain⟨u,I,L⟩:=O c t z ho;exact⟨c,u,I,L,h2⟩),rfl⟩⟩
 have lI:eP H (XB X0 B β) H X:=by rw[←hX];exact⟨bf _,fun f _ hx=>⟨fun k=>hx (k.imp id fun⟨c,t,z,ho,h2⟩=>by obtain⟨u,I,L⟩:=O c t z ho;exact⟨c,u,(A c u I).2,L,h2⟩),rfl⟩⟩
 have hx:¬X (β b):=by
  rw[←hX];rintro(k|⟨d,s,z,ri,h2⟩)
  ·exact(M.new b _ Y trivial).1 k
  obtain⟨u,I,L⟩:=O d s z ri;exact(A d u I).1 (M.inj d b u _ (A d u I).2 Y L trivial h2).symm
 have IN:bF H X (.sl w) (.slice f w.length 0 w.length es):=by
  simp only[bF];refine⟨f,w.length,0,es,rfl,.inr ⟨hf▸hx,hf▸(M.new b _ Y trivial).2,0,by simp,dz.nx fun q r hq=>?_⟩⟩;have Pe:=(M.box b _ Y).2;have EL:lo≤w.length:=by obtain⟨_,_,_,_,h,_⟩:=Pe;exact h
  obtain⟨l,z,h2,h3⟩:=db.cells Pe EL (bf _) (List.getElem?_eq_some_iff.1 hq).1 hq;exact⟨l,by rw[fh];exact hf▸z,h2,h3.lift lI⟩
 refine⟨h.jD,h.aR,h.x0,fun d t Z ho=>?_,fun c d t u Z sL hs ht he=>?_,fun k v hk=>?_,fun d t G=>?_⟩
 ·obtain⟨u,I,L⟩:=O d t Z ho;exact h.new d u I L
 ·obtain⟨s1,I,L⟩:=O c t Z hs;obtain⟨t1,k3,k4⟩:=O d u sL ht;exact h.inj c d s1 t1 I k3 L k4 he
 ·obtain⟨a,z,h2⟩:=h.env k v hk;exact⟨a,z,hX▸h2.lift hl⟩
 rw[hX];rw[c7] at G
 by_cases k:c=d
 ·subst k;rw[bg rfl] at G
  cases G
  obtain⟨l,sK,cs,z,h2,h3,h4⟩:=(h.box c _ sH).lift hl rfl;exact⟨l,sK,cs,z,h2,h3,bc.IL (fun a ha=>by simp only[aE,bF] at ha⊢;rw[ha];exact(by simpa only[bF] using IN)) hi h4⟩
 rw[aZ k] at G;exact(h.box d t G).lift hl rfl
theorem ent_frzB{R:bb→aK→de→Prop}(b c i:Nat){f elem aD es lo e G n:Nat}{w:ai}{row:List VV}(O:aF B b=some (.bP f (.arr elem aD es lo w)))(L:aF B c=some (.one e G row))(z:b≠c)(U:n=w.length)(hi:row[i]?=some (.d (.raw f n es)))
  (h:jR VE ((c,.one e G (row.set i (.d (.sl w))))::cQ B b) fs R):jR VE B fs R:=fun H0 X0 P Hs E H β M=>by
 have I:aF (cQ B b) c=some (.one e G row):=by rw[jb,aZ z];exact L
 exact h H0 X0 P Hs E H β (M.vS (W:=fun _=>False) ⟨rfl,bf _,fun _ h=>.inl h,fun d t Y Z=>.inl (by
  obtain⟨u,A,m2⟩:=jH (s':=.one e G (row.set i (.d (.sl w)))) I ga d t Y Z;rw[jb] at A
  by_cases e:b=d
  ·rw[bg e] at A;cases A
  rw[aZ e] at A;exact⟨u,A,m2,rfl⟩),fun _ _ _=>rfl⟩ (Rel.frzRV M.rel O L z U hi))
end
section
variable{VE:bb}{B1:aK}{R:bb→aK→de→Prop}
end
end Go.Ev.Rp
namespace Go.Ev.Rp
open Go Go.Ev.Pp
section
variable{VE:bb}{B1:aK}{R:bb→aK→de→Prop}
theorem ent_holds{c e I:Nat}{z:ai}{L:DC}{A fs:de}{x0 x1 x2 x3 x5:VV}(Z:V9 z L A)(hE:mz 2005 VE=true)(hV:an VE VE)(h2:jC 2005 ((c,.one e I [x0,x1,x2,x3,.d L,x5])::B1)=true)(M:an B1 B1)(hn:jC c B1=true)(G:2005≠c)
  (h:∀y,au z y→jR VE ((c,.one e I [x0,x1,x2,x3,.d y,x5])::B1) fs R):jR VE ((c,.one e I [x0,x1,x2,x3,.d L,x5])::B1) (A++fs) R:=by
 rcases Z with⟨rfl,rfl,rfl⟩|⟨g,rfl,rfl⟩
 ·exact h .nil (.inr ⟨aa,aa⟩)
 have O:jC 2005 B1=true:=by simp only[jC,cN] at h2;exact h2.2
 refine xf 2005 hE h2 (ent_frzB 2005 c 4 (n:=z.length) rfl (by rw[c7,aZ G,c7,bg rfl]) G rfl rfl (nr VE ((c,.one e I [x0,x1,x2,x3,.d (.sl z),x5])::B1) hV ⟨by rw[c7,bg rfl];rfl,acp M fun k v U=>?_⟩ (h (.sl z) (.inl rfl))));have n1:=(CC hn U).1;have Y:=(CC O U).1;rw[c7,aZ (fun e=>n1 e.symm),jb,aZ (fun e=>Y e.symm),c7,aZ (fun e=>Y e.symm),c7,aZ (fun e=>n1 e.symm)];exact U
end
theorem acq{T:aM}(F:FT T){nv mv:Nat}{a1 a2 a4 a5:DC}{z z3:Int}{M:ai}(ct:au M a2)(Z:M.length≤16)(bQ:af (rW nv mv) M){O:ai}(dx:au O a4)(eU:O.length≤20)(dg:af kH O){fK:ai}(gh:au fK a5)(nc:fK.length≤13)(ib:af jN fK)(mw:nv≤99)(ru:mv≤100000)(hz0:0≤z∧z≤1000)(Po:0≤z3∧z3≤z){G:Int}(bV:a1= .i .i64 G)(hy1: -9223372036854775808≤G∧G≤9223372036854775807){zn:Int}(hzn:0≤zn∧zn≤z):
  Sound T 6 [.agg [.d (dJ z),.d a1,.d a2,.d (dJ z3),.d a4,.d a5],.d (dJ zn)] fun r=>(zn<z3∧r= .tuple [.agg [.d i0,.d i0,dN,.d i0,dN,dN],.d (dJ 18)])∨(z3≤zn∧∃y2 I A W L,r= .tuple [.agg [.d (dJ z),.d (dJ G),.d y2,.d (dJ zn),.d I,.d A],.d i0]∧au W y2∧kg (rG zn (O)) M W∧au (O) I∧au L A∧L.length≤13∧af jN L):=by
 refine bm F.q6 aa (vc_of_vd ?_);subst bV;refine pA (c9 3 aa (xr (vd_blockV (pA (eY 3 aa ?_)))));refine br aa ?_ ?_<;>intro g1
 ·refine oh aa aa (oh aa aa (oh aa aa (oh aa aa (aw (Cp aa aa aa ?_)))));refine c9 1 aa (vd_condTH aa aa (pA (c9 3 aa (Sw ?_))));exfalso;first|omega|(simp_all;omega)
 refine bM aa aa (LB aa ?_);refine bM aa aa (QK aa ?_);refine bM aa aa (oe aa aa aa ?_);refine bM aa aa (aeh aa aa ?_);refine aw (zH aa aa aa ?_);refine c9 1 aa (Ru aa (fun h2=>?_) (fun h2=>?_))
 ·have g2:=yY h2;refine pA (c9 3 aa (Sw ?_));exfalso;first|omega|(simp_all;omega)
 have g2:=yY h2;refine pA (c9 5 aa (Ru aa (fun h3=>?_) (fun h3=>?_)))
 ·have g3:=yY h3;exact pA (c9 3 aa (Sw (bL aa aa (.inl ⟨ae,aa⟩))))
 have g3:=yY h3;refine vd_skip (xr (Qr ?_));refine agP 1 aa (Qu aa (ov aa) (cloneE F ct Z bQ dx al dg gh nc ib mw ru) (fun r10 fs10 _ hp10=>?_));obtain⟨y2,y4r,A,w2,p7,uu,L,rfl,hH,hO,wM,fY,sQ,hc⟩:=hp10;refine agP 2 aa (Rj ?_);have hlen:=hO.len;refine pA (c9 3 aa ?_);obtain⟨U,rfl,hcT⟩:∃U,fs10=uu++U∧((w2=[]∧y2= .nil∧U=p7)∨∃g,w2≠[]∧y2= .raw g w2.length 6∧U=p7++[(g,.arr 43 136 6 w2.length w2)]):=by
  rcases hc with⟨rfl,rfl,rfl⟩|⟨g,fP,rfl,rfl⟩
  ·exact⟨_,aa,.inl ⟨aa,aa,aa⟩⟩
  exact⟨_,agB ..,.inr ⟨g,fP,aa,aa⟩⟩
 refine qu (nr [(4,.vp 4 0),(6,.vp 6 0)] [(6,.one 29 96 [.d (dJ z),.d (dJ G),.d y2,.d (dJ zn),.d y4r,.d A]),(4,.one 29 96 [.d i0,.d i0,dN,.d i0,dN,dN])] ⟨aa,aa,trivial⟩ ⟨aa,aa,trivial⟩ (ent_holds hH aa ⟨aa,aa,trivial⟩ aa ⟨aa,trivial⟩ aa ao (fun I X5=>je ?_)));rcases hcT with⟨rfl,rfl,rfl⟩|⟨gT,fP,rfl,rfl⟩
 ·have e0:M=[]:=List.length_eq_zero_iff.1 (by rw[hlen];rfl);subst e0;simp only[jg] at hO;subst hO;refine qu (nr [(4,.vp 4 0),(6,.vp 6 0)] [(6,.one 29 96 [.d (dJ z),.d (dJ G),dN,.d (dJ zn),.d I,.d A]),(4,.one 29 96 [.d i0,.d i0,dN,.d i0,dN,dN])] ⟨aa,aa,trivial⟩ ⟨aa,aa,trivial⟩ (ab6 6 aa fun g=>Cv (k:=6) (v':=.k (.ptr g 1 0)) aa (fun H X β a Y h=>ael (Y 6 g (.one 29 96 [.d (dJ z),.d (dJ G),dN,.d (dJ zn),.d I,.d A]) aa trivial) h) (xg (t:=.one 29 96 [.d (dJ z),.d (dJ G),dN,.d (dJ zn),.d I,.d A]) 6 aa trivial (ov aa) aa (je ?_))));refine xr (Qr ?_);refine Qu aa ⟨trivial,trivial⟩ (pruneD0 F) (fun r2 fs2 _ Pq=>?_);subst Pq;refine Rj (qu (nr [(4,.vp 4 0),(6,.k (.ptr g 1 0))] [(4,.one 29 96 [.d i0,.d i0,dN,.d i0,dN,dN])] ⟨aa,aa,trivial⟩ ⟨aa,trivial⟩ (xf 2000 aa aa (Cv (k:=6) (v':=.vp 2000 0) aa (fun H X β a Y h=>LD (Y 2000 g (.one 29 96 [.d (dJ z),.d (dJ G),dN,.d (dJ zn),.d I,.d A]) aa trivial) h) (je ?_)))));refine oF (ew (KJ 2000 aa (c9 3 aa (mM ?_))));exact bL rfl rfl (.inr ⟨ae,.nil,I,A,[],L,rfl,(.inr ⟨rfl,rfl⟩),⟨rfl,fun q r r1 h=>by simp at h⟩,X5,wM,fY,sQ⟩)
 refine qu (nr [(4,.vp 4 0),(6,.vp 6 0)] [(6,.one 29 96 [.d (dJ z),.d (dJ G),.d (.raw gT w2.length 6),.d (dJ zn),.d I,.d A]),(4,.one 29 96 [.d i0,.d i0,dN,.d i0,dN,dN])] ⟨aa,aa,trivial⟩ ⟨aa,aa,trivial⟩ (ab6 6 aa fun g=>Cv (k:=6) (v':=.k (.ptr g 1 0)) aa (fun H X β a Y h=>ael (Y 6 g (.one 29 96 [.d (dJ z),.d (dJ G),.d (.raw gT w2.length 6),.d (dJ zn),.d I,.d A]) aa trivial) h) (xg (t:=.one 29 96 [.d (dJ z),.d (dJ G),.d (.raw gT w2.length 6),.d (dJ zn),.d I,.d A]) 6 aa trivial (ov aa) aa (je ?_))));refine xr (Qr ?_);refine Qu aa ⟨trivial,trivial⟩ (pruneD F hO Z bQ ak ak ae ae X5 ae dg ru) (fun r2 fs2 _ Pq=>?_);obtain⟨W,hr,rfl⟩:=Pq;refine Rj (qu (nr [(4,.vp 4 0),(6,.k (.ptr g 1 0))] [(4,.one 29 96 [.d i0,.d i0,dN,.d i0,dN,dN])] ⟨aa,aa,trivial⟩ ⟨aa,trivial⟩ (xf 2000 aa aa (xf 2002 aa aa (Cv (k:=6) (v':=.vp 2000 0) aa (fun H X β a Y h=>LD (Y 2000 g (.one 29 96 [.d (dJ z),.d (dJ G),.d (.raw gT W.length 6),.d (dJ zn),.d I,.d A]) aa trivial) h) (je ?_))))));exact oF (ew (KJ 2000 aa (eY 1 aa (rO 28 (.agg [.d (dJ z),.d (dJ G),.bs 2002 W.length 6,.d (dJ zn),.d I,.d A]) aa (fun H X β a Y h=>K2 (i:=2) aa (fun _=>Gy (Y 2002 gT (.arr 43 136 6 W.length W) aa trivial)) h) (KJ 2002 aa (eZ 28 2002 aa aa ⟨trivial,trivial,(fun _=>⟨aa,aa⟩),trivial,trivial,trivial,trivial⟩ (c9 2 aa (mM (bL aa aa (.inr ⟨ae,(.sl W),I,A,W,L,aa,(.inl aa),hr,X5,wM,fY,sQ⟩))))))))))
end Go.Ev.Rp
namespace Go.Ev.Rp
open Go Go.Ev.Pp
attribute [local irreducible] VC VO VQ VI Sound bY
theorem intvC{T:aM}(F:FT T){A:DC}(z:tJ.ok A):Sound T 137 [.d A] fun r=>∃G I L,r= .agg [.d G,.d I,.d L]∧tJ.ok G∧tJ.ok I∧(Ty.s 1000).ok L:=by
 refine bm F.q137 aa ?_;obtain⟨aJ,rfl,M,O⟩:=z;exact W
theorem ag2{T:aM}(F:FT T){aJ:Int}(A:0≤aJ)(G:aJ≤65535){aS:Int}(I:1≤aS)(L:aS≤1000):Sound T 138 [.d (dJ aJ),.d (dJ aS)] fun r=>∃z,r= .d z∧(Ty.i .i64 0 (aS-1)).ok z:=by
 refine bm F.q138 aa (r0 10 aa ?_);refine ay aa ?_ ?_<;>intro Z
 ·exact W
 refine aA 5 aa (Ri aa aa ae ae (fun z2 M O=>?_));refine aN 1 aa (bx aa aa ae ae ?_);refine aN 1 aa (Ri aa aa ae ae (fun z3 U Y=>?_));exact eJ 3 aa (bL aa aa fin)
theorem vX{T:aM}(F:FT T){a0 a1:DC}(L:(Ty.i .i64 0 65535).ok a0)(M:(Ty.i .u16 0 65535).ok a1):Sound T 87 [.d a0,.d a1] fun r=>∃y0 y1 y2,r= .agg [.d y0,.d y1,.d y2]∧tJ.ok y0∧tJ.ok y1∧(Ty.s 1000).ok y2:=by
 refine bm F.q87 aa ?_;rcases L,M with⟨⟨aJ,rfl,iv,iw⟩,⟨aS,rfl,eB,ee⟩⟩
 refine ch 8 aa (c6 aa aa aa ae ae ?_);refine ro 2 aa ?_;refine ay aa ?_ ?_<;>intro h1
 ·exact W
 refine aA 5 aa (c6 aa aa aa ae ae ?_);refine ro 2 aa ?_;refine ay aa ?_ ?_<;>intro g2
 ·refine aA 3 aa (c6 aa aa aa ae ae ?_);refine aw (fm aa ao ae ae ?_);refine aw (dQ aa aa ae ae ?_);refine aw (aB aa (intvC F ak) ?_);rintro _ _⟨lh,En,Ov,rfl,O,U,Y⟩;exact W
 refine aA 5 aa (c6 aa aa aa ae ae ?_);have Z:af VY [[(aq [])],[(aq [97])],[(aq [98,39])]]:=(cH (ah (bB (s:=[]) ao) bl) (cH (ah (bB (s:=[97]) ao) bl) (cH (ah (bB (s:=[98,39]) ao) bl) cb)));obtain⟨j4,p0,A⟩:=bD (z:=(aS % 3)) (n:=3) ae ae;obtain⟨r4,G⟩:∃r,([[(aq [])],[(aq [97])],[(aq [98,39])]]:ai)[j4]?=some r:=⟨_,dm Up⟩;have hr4:=lu Z G;obtain⟨_,⟨sx4_0,rfl,I⟩,rfl⟩:=qO hr4;refine aw (eL rfl (by rw[←p0];rfl) A ?_);refine aw (jG (rows:=[[(aq [])],[(aq [97])],[(aq [98,39])]]) aa aa (bf _) (bf _) A G aa ?_);exact ro 4 aa (bL aa aa fin)
theorem We{T:aM}(F:FT T){G I:DC}(z:(Ty.i .u16 0 65535).ok G)(A:(Ty.i .u16 0 65535).ok I):Sound T 88 [.d G,.d I] fun r=>∃L M,r= .agg [.d L,.d M]∧(Ty.i .i64 0 40).ok L∧(Ty.i .i64 0 1000000).ok M:=by
 refine bm F.q88 aa ?_;rcases z,A with⟨⟨aJ,rfl,O,U⟩,⟨aS,rfl,Y,Z⟩⟩
 refine ch 7 aa (c6 aa aa aa ae ae ?_);refine aw (fm aa ao ae ae ?_);refine aN 8 aa (c6 aa aa aa ae ae ?_);refine ro 2 aa ?_;refine ay aa ?_ ?_<;>intro h1
 ·exact W
 refine aA 3 aa (bx aa aa ae ae ?_);refine aN 1 aa (c6 aa aa aa ae ae ?_);refine aw (fm aa ao ae ae ?_);refine aw (bx aa aa ae ae ?_);exact eJ 9 aa (bL aa aa fin)
theorem ajQ{T:aM}(F:FT T){Y:DC}(I:(Ty.i .u16 0 65535).ok Y):Sound T 84 [.d Y] fun r=>∃Z,r= .d Z∧(Ty.s 10).ok Z:=by
 refine bm F.q84 aa ?_;obtain⟨aJ,rfl,iv,iw⟩:=I;refine ch 8 aa (c6 aa aa aa ae ae ?_);have L:af VY [[(aq [116])],[(aq [117])],[(aq [119])]]:=(cH (ah (bB (s:=[116]) ao) bl) (cH (ah (bB (s:=[117]) ao) bl) (cH (ah (bB (s:=[119]) ao) bl) cb)));obtain⟨j1,M,A⟩:=bD (z:=(aJ % 3)) (n:=3) ae ae;obtain⟨r1,G⟩:∃r,([[(aq [116])],[(aq [117])],[(aq [119])]]:ai)[j1]?=some r:=⟨_,dm Up⟩;have O:=lu L G;obtain⟨ajR,U,rfl⟩:=qO O;refine aw (eL rfl (by rw[←M];rfl) A ?_);refine aw (jG (rows:=[[(aq [116])],[(aq [117])],[(aq [119])]]) aa aa (bf _) (bf _) A G aa ?_);exact eJ 3 aa (bL aa aa fin)
theorem Wf{T:aM}(F:FT T){a0:DC}(I:(Ty.i .i64 0 4).ok a0):Sound T 83 [.d a0] fun r=>∃y0 y1 y2,r= .agg [.d y0,.d y1,.d y2]∧(Ty.i .i64 1 12).ok y0∧(Ty.s 1000).ok y1∧tJ.ok y2:=by
 refine bm F.q83 aa ?_;obtain⟨aJ,rfl,iv,iw⟩:=I;refine r0 19 aa (aV (bx aa aa ae ae ?_));refine rq 1 aa ?_;obtain⟨A,L,M⟩:=bD (z:=aJ) (n:=5) ae ae;refine aV (bG rfl (by rw[←L];rfl) M ?_);obtain⟨m1,O,gM⟩:∃m:List UInt8,([.d (aq [97]),.d (aq [98]),.d (aq [99]),.d (aq [100]),.d (aq [101])]:List VV)[0+A*1]?=some (.d (aq m))∧m.length≤1:=by
  rcases(by omega:A=0∨A=1∨A=2∨A=3∨A=4) with rfl|rfl|rfl|rfl|rfl<;>exact⟨_,rfl,ao⟩
 refine aP aa (oe aa aa O ?_);refine rq 1 aa ?_;obtain⟨G,U,Y⟩:=bD (z:=aJ) (n:=5) ae ae;refine aV (bG rfl (by rw[←U];rfl) Y ?_);obtain⟨m2,Z,gx,um2⟩:∃m:Int,([.d (.i .i64 1),.d (.i .i64 2),.d (.i .i64 1),.d (.i .i64 3),.d (.i .i64 2)]:List VV)[0+G*1]?=some (.d (.i .i64 m))∧1≤m∧m≤3:=by
  rcases(by omega:G=0∨G=1∨G=2∨G=3∨G=4) with rfl|rfl|rfl|rfl|rfl<;>exact⟨_,rfl,ae,ae⟩
 refine aP aa (oe aa aa Z ?_);exact W
theorem aeD{T:aM}(F:FT T):Sound T 90 [] fun r=>∃A z,r= .d A∧au z A∧(z.length:Int)≤2∧af bn z∧2≤(z.length:Int):=by
 refine bm F.q90 aa (r0 9 aa ?_);have G:af bn [[(dJ 1)],[(dJ 2)]]:=(cH (ah ak bl) (cH (ah ak bl) cb));exact lz 0 1 aa aa (fun _=>⟨aa,aa⟩) (W)
theorem ag3{T:aM}(F:FT T){Y Z:DC}(z:tJ.ok Y)(A:(Ty.i .u16 0 65535).ok Z):Sound T 139 [.d Y,.d Z] fun r=>∃y0 y1 y2,r= .agg [.d y0,.d y1,.d y2]∧tJ.ok y0∧tJ.ok y1∧(Ty.s 1000).ok y2:=by
 refine bm F.q139 aa ?_;rcases z,A with⟨⟨aJ,rfl,iv,iw⟩,⟨aS,rfl,eB,ee⟩⟩
 refine r0 15 aa ?_;refine ay aa ?_ ?_<;>intro g1
 ·refine aA 3 aa (c6 aa aa aa ae ae ?_);refine aw (aB aa (vX F ak ak) ?_);rintro _ _⟨nR,Wg,Ow,rfl,G,I,L⟩;exact W
 refine rc 5 aa ?_;refine ay aa ?_ ?_<;>intro g3
 ·refine aA 3 aa (c6 aa aa aa ae ae ?_);refine aw (aB aa (vX F ak ak) ?_);rintro _ _⟨gp,sr,ub,rfl,M,O,U⟩;exact W
 refine rc 5 aa ?_;refine ay aa ?_ ?_<;>intro g5
 ·refine aA 3 aa (c6 aa aa aa ae ae ?_);refine aw (fm aa ao ae ae ?_);exact eJ 4 aa (bL aa aa fin)
 exact W
end Go.Ev.Rp
