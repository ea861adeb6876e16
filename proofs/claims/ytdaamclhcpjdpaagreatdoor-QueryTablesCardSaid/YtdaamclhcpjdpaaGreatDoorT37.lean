/- Part 37 of walks through the code of a program. -/
import Derived.Test.YtdaamclhcpjdpaaGreatDoorT35
import Derived.Test.YtdaamclhcpjdpaaGreatDoorT36
set_option linter.unusedVariables false
set_option linter.unusedSimpArgs false
noncomputable section
set_option maxRecDepth 100000
set_option maxHeartbeats 4000000
namespace Go.Ev.Rp
open Go Go.Ev.Pp
attribute [local irreducible] VC VO VQ VI Sound cF
theorem ahx{T:aO}(F:FT T){X:List Int}{m:Nat}{a0:DC}{bV:aj}(cg:ao bV a0)(cI:bV.length≤1000000)(bJ:af (dL X m) bV)(hX:X.length≤2000000)(hm:m≤100000000):Sound T 350 [.d a0] fun r=>∃y0 br,r= .d y0∧ao br y0∧(br.length:Int)≤bV.length∧af (x9 X m) br∧0≤(br.length:Int)∧(br=[]→y0= .nil):=by
 refine bg F.aiX aa (cf 12 aa (aA aa (U' (X:=X) (m:=m) F cg ae bJ ae ae) ?_));rintro _ _⟨eo,eY,rfl,gP,jh,fF,ku,lv⟩;refine aw (aM aa gP ?_);refine ro 3 aa (de 3 90 510 72 3 aa aa (de 2 47 82 48 2 aa aa (R5 47 aa (fun p2=>?_))));refine bd [9,8,0] [] aa aa (fun e0 b0 k VE B=>∃I A m5 L,an ((3,.ac 90 A.length 3)::(10,.d (dJ I))::e0) VE∧an ((47,.db m5 (.acc 82 48 2 L))::(90,.acc 510 72 3 A)::b0) B∧k=((eY.length:Int) -I).toNat∧(0≤I∧(I≤(eY.length:Int)∨I=0))∧((A.length:Int)≤I)∧(af (x9 X m) A)∧((L.length:Int)≤I)∧(af (dL X m) L)∧(A=[]∨(L≠[]∧nH A m5 L.length))) ?_ fin;rintro _ VE B⟨I,A,m5,L,hV,hB,rfl,bR,cM,Z,hH,Rx,BX⟩;refine aS _ _ hV hB (rc 5 aa ?_);refine ax aa ?_ ?_<;>intro g3
 ·refine rc 5 aa ?_;obtain⟨G,⟨UW,M,Tj,O⟩,fu,Y,cZ⟩:=qI I fF;refine aw (aF aa aa gP ae cZ aa ?_);refine aJ 8 aa (dO aa aa ae ae ?_);refine ro 8 aa ?_;refine dK aa ?_ ?_<;>intro g5
  ·refine rq 11 aa (eM aa aa (rc 2 aa (C5 47 (aJ 5 aa (aW (rows:=A) (ys:=[[G,.nil,.nil]]) aa aa aa (.bs (rows:=[[G,.nil,.nil]]) aa) au ae bW bW ?_)))));refine aJ 4 aa (bB aa aa ae ae ?_);refine ro 8 aa ?_;obtain⟨j6,pH,Kp⟩:∃j:Nat,(((A.length:Int) -1)+1)=(j:Int)∧j=A.length:=⟨_,ae,rfl⟩;have e6:(A++[[G,.nil,.nil]])[j6]?=some [G,.nil,.nil]:=by rw[Kp];exact iS
   have mK:j6<(A++[[G,.nil,.nil]]).length:=by rw[Kp];simp
   refine aT (di rfl (by rw[←pH];rfl) mK ?_);refine rq 1 aa (aP aa (fk (rows:=(A++[[G,.nil,.nil]])) aa aa e6 aa ?_));obtain⟨DU,xA,U⟩:=Ty.bE Y;have xB:=U.1;have Dz:=cH.len U;refine rq 2 aa ?_;skip;refine aP aa (VI.fresh aa (dZ (ys:=[[G,fu]]) 47 aa aa aa aa aa (.bs (rows:=[[G,fu]]) aa) au ae ?_));obtain⟨j7,jI,Kq⟩:∃j:Nat,(((A.length:Int) -1)+1)=(j:Int)∧j=A.length:=⟨_,ae,rfl⟩;have eL:(A++[[G,.nil,.nil]])[j7]?=some [G,.nil,.nil]:=by rw[Kq];exact iS
   have fZ:j7<(A++[[G,.nil,.nil]]).length:=by rw[Kq];simp
   refine aT (di rfl (by rw[←jI];rfl) fZ ?_);refine nL 47 aa (fun p8=>?_);refine ri 47 47 aa aa bh bh (rq 1 aa (iR aa (gO aa aa aa aa aa aa au au eL (fun w9 Yg Yh=>?_))));have zT:af (x9 X m) w9:=by rw[Yg];exact fm (df Z (c9 (ah (aL M ae O) (ah (bE qC.nil) (ah (bE fi.nil) bf))))) (ah (aL M ae O) (ah (bE (qC.raw mz)) (ah (bE fi.nil) bf)))
   rw[←Yh];refine rq 6 aa ?_;obtain⟨Yb,Cg,rY⟩:=bF (z:=(((A.length:Int) -1)+1)) (n:=w9.length) ae ae;obtain⟨nY,qa,rI,AX,Ij,AY,hJ⟩:=qN rY zT;refine aT (di rfl (by rw[←Cg];rfl) rY ?_);refine rq 1 aa (aP aa (fk (rows:=w9) aa aa hJ aa ?_));refine rq 2 aa (aP aa (aA aa (xO (X:=X) F AY Y ae) ?_));rintro _ _⟨qp,rfl,rz⟩;obtain⟨X8,B8,zr⟩:=bF (z:=(((A.length:Int) -1)+1)) (n:=w9.length) ae ae;obtain⟨qh,nO,tm,xH,UM,Mq,iY⟩:=qN zr zT;refine aT (di rfl (by rw[←B8];rfl) zr ?_);refine rq 1 aa (iR aa (gO aa aa aa aa aa aa au au iY (fun Fy WM WN=>?_)));have zk:af (x9 X m) Fy:=by rw[WM];exact fm zT (ah nO (ah xH (ah rz bf)))
   rw[←WN];refine rq 2 aa (aw (bB aa aa ae ae ?_));refine cA 2 aa ?_;exact⟨((eY.length:Int) -((I+1))).toNat,ae,(I+1),Fy,p8,[[G,fu]],⟨rfl,rfl,rfl,rfl,rfl,trivial⟩,⟨rfl,rfl,trivial⟩,rfl,ae,ae,zk,cE,(c9 (ah (aL M ae O) (ah Y bf))),(by first|exact .inl rfl|exact .inr ⟨(by simp),nH.step (by assumption) (by assumption) (by assumption) (by first|omega|(simp;omega)) (by first|omega|(simp;omega))⟩)⟩
  refine rq 2 aa ?_;obtain⟨qV,v7,uc⟩:=bF (z:=((A.length:Int) -1)) (n:=A.length) ae ae;obtain⟨UE,⟨wx14_0,hdx14_0,hnx14_0,hrx14_0⟩,UL,aeH,Nw,Hi,iZ⟩:=qN uc Z;refine cb rfl rfl (di rfl (by rw[←v7];rfl) uc ?_);refine rq 1 aa (eD aa aa aa (fk (rows:=A) aa aa iZ aa ?_));refine rq 2 aa (eD aa aa aa (aA aa (yl F (aL hdx14_0 ae hrx14_0) (aL M ae O)) ?_));rintro _ _⟨_,rfl,zy15_0,rfl,abK,abL⟩;refine rq 3 aa ?_;refine ax aa ?_ ?_<;>intro nz
  ·refine rc 2 aa (C5 47 (aJ 5 aa (aW (rows:=A) (ys:=[[G,.nil,.nil]]) aa aa aa (.bs (rows:=[[G,.nil,.nil]]) aa) au ae bW bW ?_)));refine aJ 4 aa (bB aa aa ae ae ?_);refine ro 8 aa ?_;obtain⟨wP,Ch,zx⟩:∃j:Nat,(((A.length:Int) -1)+1)=(j:Int)∧j=A.length:=⟨_,ae,rfl⟩;have jm:(A++[[G,.nil,.nil]])[wP]?=some [G,.nil,.nil]:=by rw[zx];exact iS
   have zs:wP<(A++[[G,.nil,.nil]]).length:=by rw[zx];simp
   refine aT (di rfl (by rw[←Ch];rfl) zs ?_);refine rq 1 aa (aP aa (fk (rows:=(A++[[G,.nil,.nil]])) aa aa jm aa ?_));obtain⟨DU,xA,U⟩:=Ty.bE Y;have xB:=U.1;have Dz:=cH.len U;refine rq 2 aa ?_;skip;refine aP aa (VI.fresh aa (dZ (ys:=[[G,fu]]) 47 aa aa aa aa aa (.bs (rows:=[[G,fu]]) aa) au ae ?_));obtain⟨pM,rW,zy⟩:∃j:Nat,(((A.length:Int) -1)+1)=(j:Int)∧j=A.length:=⟨_,ae,rfl⟩;have ni:(A++[[G,.nil,.nil]])[pM]?=some [G,.nil,.nil]:=by rw[zy];exact iS
   have rX:pM<(A++[[G,.nil,.nil]]).length:=by rw[zy];simp
   refine aT (di rfl (by rw[←rW];rfl) rX ?_);refine nL 47 aa (fun Kr=>?_);refine ri 47 47 aa aa bh bh (rq 1 aa (iR aa (gO aa aa aa aa aa aa au au ni (fun l6 B9 zm=>?_))));have ub:af (x9 X m) l6:=by rw[B9];exact fm (df Z (c9 (ah (aL M ae O) (ah (bE qC.nil) (ah (bE fi.nil) bf))))) (ah (aL M ae O) (ah (bE (qC.raw mz)) (ah (bE fi.nil) bf)))
   rw[←zm];refine rq 6 aa ?_;obtain⟨mL,pr,lP⟩:=bF (z:=(((A.length:Int) -1)+1)) (n:=l6.length) ae ae;obtain⟨vC,vc,tn,AZ,UX,Tw,lR⟩:=qN lP ub;refine aT (di rfl (by rw[←pr];rfl) lP ?_);refine rq 1 aa (aP aa (fk (rows:=l6) aa aa lR aa ?_));refine rq 2 aa (aP aa (aA aa (xO (X:=X) F Tw Y ae) ?_));rintro _ _⟨Ik,rfl,aev⟩;obtain⟨j23,JA,wz⟩:=bF (z:=(((A.length:Int) -1)+1)) (n:=l6.length) ae ae;obtain⟨ahn,Tl,x23_1,ae5,x23_2,hx23_2,v8⟩:=qN wz ub;refine aT (di rfl (by rw[←JA];rfl) wz ?_);refine rq 1 aa (iR aa (gO aa aa aa aa aa aa au au v8 (fun Ks WO WQ=>?_)));have WR:af (x9 X m) Ks:=by rw[WO];exact fm ub (ah Tl (ah ae5 (ah aev bf)))
   rw[←WQ];refine rq 2 aa (aw (bB aa aa ae ae ?_));refine cA 2 aa ?_;exact⟨((eY.length:Int) -((I+1))).toNat,ae,(I+1),Ks,Kr,[[G,fu]],⟨rfl,rfl,rfl,rfl,rfl,trivial⟩,⟨rfl,rfl,trivial⟩,rfl,ae,ae,WR,cE,(c9 (ah (aL M ae O) (ah Y bf))),(by first|exact .inl rfl|exact .inr ⟨(by simp),nH.step (by assumption) (by assumption) (by assumption) (by first|omega|(simp;omega)) (by first|omega|(simp;omega))⟩)⟩
  refine rc 7 aa ?_;obtain⟨IE,Yi,Yj,JB⟩:=MG (by assumption:A=[]∨(L≠[]∧nH A m5 L.length)) (fun h=>absurd (congrArg List.length h) MS);have hk25:=Od (mb Z JB);obtain⟨pK,B1,WS⟩:∃j:Nat,((A.length:Int) -1)=(j:Int)∧j=A.length-1:=⟨_,aq,rfl⟩;have wb:A[pK]?=some [Yi,.raw m5 L.length 2,Yj]:=by rw[WS];exact JB
  have Jd:pK<A.length:=by omega
  refine aT (di rfl (by rw[←B1];rfl) Jd ?_);refine rq 1 aa (aP aa (fk (rows:=A) aa aa wb aa ?_));obtain⟨DU,xA,U⟩:=Ty.bE Y;have xB:=U.1;have Dz:=cH.len U;refine rq 2 aa (FR 44 47 aa aa (List.length_pos_iff.2 IE) IE (KV 47 aa (aP aa (aW (rows:=L) (ys:=[[G,fu]]) aa aa aa (.bs (rows:=[[G,fu]]) aa) au ae bW bW ?_))));obtain⟨hrs26,Yk,Yl,JC⟩:=MG (by assumption:A=[]∨(L≠[]∧nH A m5 L.length)) (fun h=>absurd (congrArg List.length h) MS);have JD:=Od (mb Z JC);obtain⟨Ad,Cf,WT⟩:∃j:Nat,((A.length:Int) -1)=(j:Int)∧j=A.length-1:=⟨_,aq,rfl⟩;have zw:A[Ad]?=some [Yk,.raw m5 L.length 2,Yl]:=by rw[WT];exact JC
  have zq:Ad<A.length:=by omega
  refine aT (di rfl (by rw[←Cf];rfl) zq ?_);refine nL 47 aa (fun Ym=>?_);refine ri 47 47 aa aa bh bh (rq 1 aa (iR aa (gO aa aa aa aa aa aa au au zw (fun nB WU Oz=>?_))));have zl:af (x9 X m) nB:=by rw[WU];exact fm Z (ah JD.1 (ah (bE (qC.raw mz)) (ah JD.2.2 bf)))
  rw[←Oz];refine rq 6 aa ?_;obtain⟨Yn,JE,ET⟩:=bF (z:=((nB.length:Int) -1)) (n:=nB.length) ae ae;obtain⟨Iy,vd,vF,hx29_1,UY,Tx,nj⟩:=qN ET zl;refine aT (di rfl (by rw[←JE];rfl) ET ?_);refine rq 1 aa (aP aa (fk (rows:=nB) aa aa nj aa ?_));refine rq 2 aa (aP aa (aA aa (xO (X:=X) F Tx Y ae) ?_));rintro _ _⟨Bz,rfl,Te⟩;obtain⟨Yo,JF,EU⟩:=bF (z:=((nB.length:Int) -1)) (n:=nB.length) ae ae;obtain⟨x31_0,Tn,x31_1,ae6,x31_2,hx31_2,WV⟩:=qN EU zl;refine aT (di rfl (by rw[←JF];rfl) EU ?_);refine rq 1 aa (iR aa (gO aa aa aa aa aa aa au au WV (fun Fz WW OK=>?_)));have WX:af (x9 X m) Fz:=by rw[WW];exact fm zl (ah Tn (ah ae6 (ah Te bf)))
  rw[←OK];refine rq 2 aa (aw (bB aa aa ae ae ?_));refine cA 2 aa ?_;exact⟨((eY.length:Int) -((I+1))).toNat,ae,(I+1),Fz,Ym,(L++[[G,fu]]),⟨rfl,rfl,rfl,rfl,rfl,trivial⟩,⟨rfl,rfl,trivial⟩,rfl,ae,ae,WX,cE,(df Rx (c9 (ah (aL M ae O) (ah Y bf)))),(by first|exact .inl rfl|exact .inr ⟨(by simp),nH.step (by assumption) (by assumption) (by assumption) (by first|omega|(simp;omega)) (by first|omega|(simp;omega))⟩)⟩
 exact rc 6 aa (cl 2 90 aa aa (fun _=>⟨aa,aa⟩) (W))
theorem DistinctM{T:aO}(F:FT T){X:List Int}{m:Nat}{a0:DC}{O:aj}(cg:ao O a0)(cI:O.length≤1000000)(bJ:af (dL X m) O)(hX:X.length≤2000000)(hm:m≤100000000):Sound T 233 [.d a0] fun r=>∃y0 L,r= .d y0∧ao L y0∧(L.length:Int)≤O.length∧af (dL X m) L∧0≤(L.length:Int)∧(L=[]→y0= .nil):=by
 refine bg F.aiT aa (cf 12 aa (aA aa (ahx (X:=X) (m:=m) F cg ae bJ ae ae) ?_));rintro _ _⟨eo,M,rfl,G,jh,U,ku,lv⟩;refine aw (aM aa G ?_);refine ro 3 aa (de 3 90 82 48 2 aa aa (bd [8,7,2,0] [] aa aa (fun e0 b0 k VE B=>∃z A,an ((3,.ac 90 A.length 2)::(9,.d (dJ z))::e0) VE∧an ((90,.acc 82 48 2 A)::b0) B∧k=((M.length:Int) -z).toNat∧(0≤z∧(z≤(M.length:Int)∨z=0))∧((A.length:Int)≤z)∧(af (dL X m) A)) ?_ fin));rintro _ VE B⟨z,A,hV,hB,rfl,bR,cM,AU⟩;refine aS _ _ hV hB (rc 5 aa ?_);refine ax aa ?_ ?_<;>intro g2
 ·refine rc 5 aa ?_;obtain⟨Y,⟨DY,xM,DB,xN⟩,qF,tw,Z,qo,eS⟩:=qI z U;refine aw (aF aa aa G ae eS aa ?_);refine ro 5 aa ?_;obtain⟨M5,Sr,I⟩:=Ty.bE qo;have G2:=I.1;have Me:=cH.len I;refine rp 7 aa ?_;refine aw (aW (rows:=A) (ys:=[[Y,Z]]) rfl rfl rfl (.bs (rows:=[[Y,Z]]) rfl) au ae (fun h=>by rw[h];rfl) (fun h=>by rw[h];rfl) ?_);exact W
 exact rc 6 aa (cl 2 90 aa aa (fun _=>⟨aa,aa⟩) (W))
theorem afm{T:aO}(F:FT T){X:List Int}{m:Nat}{a0 a1:DC}{A:aj}(M:ao A a0)(cI:A.length≤1000000000)(Z:af (dL X m) A){O:aj}(cW:ao O a1)(dg:O.length≤1000000000)(cq:af cn O)(hX:X.length≤2000000)(hm:m≤100000000):Sound T 521 [.d a0,.d a1] fun r=>∃y0,r= .d y0∧(Ty.q (fi X)).ok y0:=by
 refine bg F.q521 aa (cf 12 aa (aM aa M ?_));refine ro 3 aa (bd [9,8,4,1,0] [] aa aa (fun e0 b0 k VE B=>∃G z,an ((5,.d G)::(10,.d (dJ z))::e0) VE∧an b0 B∧k=((A.length:Int) -z).toNat∧((Ty.q (fi X)).ok G)∧(0≤z∧(z≤(A.length:Int)∨z=0))) ?_ (k:=((A.length:Int) -0).toNat) ⟨.nil,0,⟨aa,aa,aa,aa,aa,aa,aa,trivial⟩,trivial,aa,(bE fi.nil),ae⟩);rintro _ VE B⟨G,z,hV,hB,rfl,U,cM⟩;refine aS _ _ hV hB (rc 5 aa ?_);refine ax aa ?_ ?_<;>intro g1
 ·refine rc 5 aa ?_;obtain⟨gm,⟨qn,I,xI,L⟩,ff,Y,bM⟩:=qI z Z;refine aw (aF aa aa M ae bM aa ?_);refine aJ 9 aa (aA aa (yl F (aL I ae L) (aL cW ae cq)) ?_);rintro _ _⟨_,rfl,zy3_0,rfl,afk,afl⟩;refine ro 2 aa ?_;refine ax aa ?_ ?_<;>intro g4
  ·refine aB 4 aa (aA aa (xO (X:=X) F U Y ae) ?_);rintro _ _⟨gM,rfl,kS⟩;exact W
  exact W
 exact W
theorem ahy{T:aO}(F:FT T){X:List Int}{m:Nat}{a0 a1 a2:DC}{bV:aj}(cg:ao bV a0)(cI:bV.length≤4096)(bJ:af (dL X m) bV){bN:aj}(cW:ao bN a1)(dg:bN.length≤4096)(cq:af (dL X m) bN)(cN:(Ty.b).ok a2)(hX:X.length≤2000000)(hm:m≤100000000):Sound T 427 [.d a0,.d a1,.d a2] fun r=>∃y0 br,r= .d y0∧ao br y0∧(br.length:Int)≤5000000000∧af (dL X m) br:=by
 refine bg F.q427 aa ?_;obtain⟨ba2,rfl⟩:=cN;refine cf 12 aa (aA aa (ahx (X:=X) (m:=m) F cg ae bJ ae ae) ?_);rintro _ _⟨eo,Y,rfl,Z,jh,fF,ku,lv⟩;refine aw (aM aa Z ?_);refine ro 3 aa (de 7 90 82 48 2 aa aa (bd [17,16,6,2,1,0] [] aa aa (fun e0 b0 k VE B=>∃A M,an ((7,.ac 90 M.length 2)::(18,.d (dJ A))::e0) VE∧an ((90,.acc 82 48 2 M)::b0) B∧k=((Y.length:Int) -A).toNat∧(0≤A∧(A≤(Y.length:Int)∨A=0))∧((M.length:Int)≤A*1000002)∧(af (dL X m) M)) ?_ (k:=((Y.length:Int) -0).toNat) ⟨0,[],⟨aa,aa,aa,aa,aa,aa,aa,aa,trivial⟩,⟨aa,trivial⟩,aa,ae,cE,ca⟩));rintro _ VE B⟨A,M,hV,hB,rfl,bR,cM,G9⟩;refine aS _ _ hV hB (rc 5 aa ?_);refine ax aa ?_ ?_<;>intro g2
 ·refine rc 5 aa ?_;obtain⟨ng,⟨DY,I,DB,L⟩,qF,tw,vX,qo,eS⟩:=qI A fF;refine aw (aF aa aa Z ae eS aa ?_);refine ro 8 aa (aT (abB aa (Ty.bE tw) (fun z4 hz4 kz4=>?_)));refine rq 3 aa (aP aa (aA aa (multM (X:=X) (m:=m) F cW ae cq I ae L ae ae) ?_));rintro _ _⟨_,rfl,zy5_0,rfl,hzy5_0,kzy5_0⟩;refine rq 5 aa (iw 2 aa (C6 aa aa (fun z6 hz6=>?_)));refine ro 7 aa ?_;refine cO aa ?_ ?_<;>intro h7
  ·refine aB 3 aa (dO aa aa ae ae ?_);refine aw (sO aa aa (fun z8 Yf=>?_));refine ro 9 aa (aP aa (aA aa (afm (X:=X) (m:=m) F cW ae cq I ae L ae ae) ?_));rintro _ _⟨Jl,rfl,Nb⟩;refine aP aa (aA aa (xO (X:=X) F qo Nb ae) ?_);rintro _ _⟨iF,rfl,AM⟩;refine rq 7 aa (bd [32,19,18,17,16,13,12,11,10,9,6,2,1,0] [9] aa aa (fun e0 b0 k VE B=>∃z G,an ((7,.ac 90 G.length 2)::(14,.d (dJ z))::e0) VE∧an ((90,.acc 82 48 2 G)::b0) B∧k=((z8:Int) -z).toNat∧(0≤z∧(z≤z8∨z=0))∧((G.length:Int)≤A*1000002+z)∧(af (dL X m) G)) ?_ fin);rintro _ VE B⟨z,G,hV,hB,rfl,fh,gn,Tv⟩;refine aS _ _ hV hB (rc 7 aa ?_);refine ax aa ?_ ?_<;>intro l7
   ·refine rc 4 aa ?_;obtain⟨xE,sQ,O⟩:=Ty.bE AM;have sR:=O.1;have xm:=cH.len O;refine rp 6 aa ?_;refine aw (aW (rows:=G) (ys:=[[ng,iF]]) rfl rfl rfl (.bs (rows:=[[ng,iF]]) rfl) au ae (fun h=>by rw[h];rfl) (fun h=>by rw[h];rfl) ?_);exact W
   exact W
  refine rc 8 aa (aP aa (aA aa (afm (X:=X) (m:=m) F cW ae cq I ae L ae ae) ?_));rintro _ _⟨Ec,rfl,G'⟩;refine aP aa (aA aa (xO (X:=X) F qo G' ae) ?_);rintro _ _⟨vD,rfl,Mk⟩;refine rq 7 aa (bd [32,19,18,17,16,13,12,11,10,9,6,2,1,0] [9] aa aa (fun e0 b0 k VE B=>∃z G,an ((7,.ac 90 G.length 2)::(14,.d (dJ z))::e0) VE∧an ((90,.acc 82 48 2 G)::b0) B∧k=((z6:Int) -z).toNat∧(0≤z∧(z≤z6∨z=0))∧((G.length:Int)≤A*1000002+z)∧(af (dL X m) G)) ?_ fin);rintro _ VE B⟨z,G,hV,hB,rfl,fh,gn,Tv⟩;refine aS _ _ hV hB (rc 7 aa ?_);refine ax aa ?_ ?_<;>intro CD
  ·refine rc 4 aa ?_;obtain⟨aeX,ab6,U⟩:=Ty.bE Mk;have ab8:=U.1;have ab7:=cH.len U;refine rp 6 aa ?_;refine aw (aW (rows:=G) (ys:=[[ng,vD]]) rfl rfl rfl (.bs (rows:=[[ng,vD]]) rfl) au ae (fun h=>by rw[h];rfl) (fun h=>by rw[h];rfl) ?_);exact W
  exact W
 exact rc 6 aa (cl 6 90 aa aa (fun _=>⟨aa,aa⟩) (W))
theorem ExceptM{T:aO}(F:FT T){X:List Int}{m:Nat}{a0 a1:DC}{z:aj}(I:ao z a0)(cI:z.length≤4096)(L:af (dL X m) z){A:aj}(M:ao A a1)(dg:A.length≤4096)(O:af (dL X m) A)(hX:X.length≤2000000)(hm:m≤100000000):Sound T 331 [.d a0,.d a1] fun r=>∃y0 G,r= .d y0∧ao G y0∧(G.length:Int)≤5000000000∧af (dL X m) G:=by
 refine bg F.q331 aa (cf 8 aa (aA aa (ahy (X:=X) (m:=m) F I ae L M ae O eb ae ae) ?_));rintro _ _⟨eo,eY,rfl,U,Y,Z⟩;exact W
theorem InterM{T:aO}(F:FT T){X:List Int}{m:Nat}{a0 a1:DC}{z:aj}(I:ao z a0)(cI:z.length≤4096)(L:af (dL X m) z){A:aj}(M:ao A a1)(dg:A.length≤4096)(O:af (dL X m) A)(hX:X.length≤2000000)(hm:m≤100000000):Sound T 332 [.d a0,.d a1] fun r=>∃y0 G,r= .d y0∧ao G y0∧(G.length:Int)≤5000000000∧af (dL X m) G:=by
 refine bg F.q332 aa (cf 8 aa (aA aa (ahy (X:=X) (m:=m) F I ae L M ae O eb ae ae) ?_));rintro _ _⟨eo,eY,rfl,U,Y,Z⟩;exact W
theorem AggM{T:aO}(F:FT T){a0 a1:DC}(cC:tJ.ok a0){Y:aj}(U:ao Y a1)(dg:Y.length≤1000000000)(Z:af cn Y):Sound T 428 [.d a0,.d a1] fun r=>∃y0 y1 y2,r= .agg [.d y0,.d y1,.d y2]∧tJ.ok y0∧tJ.ok y1∧(Ty.s 1000).ok y2:=by
 refine bg F.q428 aa ?_;obtain⟨aK,rfl,gZ,hD⟩:=cC;refine r0 15 aa ?_;refine ax aa ?_ ?_<;>intro h1
 ·exact W
 refine rc 5 aa ?_;refine ax aa ?_ ?_<;>intro g2
 ·refine aB 3 aa (aA aa (sumC F U ae Z) ?_);rintro _ _⟨jX,zh,EM,rfl,lC,Br,ye⟩;exact W
 refine rc 6 aa ?_;refine ax aa ?_ ?_<;>intro g4
 ·refine rc 1 aa (eM aa aa (aB 8 aa (aM aa U ?_)));refine ro 3 aa (bd [23,22,19,15,10,9,5,4,1,0] [4] aa aa (fun e0 b0 k VE B=>∃z A G I,an ((24,.d (dJ z))::e0) VE∧an ((5,.one 121 32 [.d A,.d G,.d I])::b0) B∧k=((Y.length:Int) -z).toNat∧(0≤z∧(z≤(Y.length:Int)∨z=0))∧(tJ.ok A)∧(tJ.ok G)∧((Ty.s 1000).ok I)) ?_ fin);rintro _ VE B⟨z,A,G,I,hV,hB,rfl,bR,L,M,O⟩;refine aS _ _ hV hB (rc 5 aa ?_);refine ax aa ?_ ?_<;>intro g5
  ·refine rc 5 aa ?_;obtain⟨zg,rF,vV,rG,Ok,DX,e6⟩:=qI z Z;refine aw (aF aa aa U ae e6 aa ?_);refine aJ 8 aa (aA aa (Ig F rF rG DX L M O) ?_);rintro _ _⟨nf,rfl,qm⟩;exact W
  exact W
 refine rc 4 aa ?_;refine ax aa ?_ ?_<;>intro nz
 ·refine aB 8 aa (aM aa U ?_);refine ro 3 aa (bd [23,22,19,15,10,9,5,4,1,0] [4] aa aa (fun e0 b0 k VE B=>∃z A G I,an ((24,.d (dJ z))::e0) VE∧an ((5,.one 121 32 [.d A,.d G,.d I])::b0) B∧k=((Y.length:Int) -z).toNat∧(0≤z∧(z≤(Y.length:Int)∨z=0))∧(tJ.ok A)∧(tJ.ok G)∧((Ty.s 1000).ok I)) ?_ fin);rintro _ VE B⟨z,A,G,I,hV,hB,rfl,bR,L,M,O⟩;refine aS _ _ hV hB (rc 5 aa ?_);refine ax aa ?_ ?_<;>intro su
  ·refine rc 5 aa ?_;obtain⟨agN,SX,ag4,S0,ag5,S1,ni⟩:=qI z Z;refine aw (aF aa aa U ae ni aa ?_);refine aJ 8 aa (aA aa (Ig F SX S0 S1 L M O) ?_);rintro _ _⟨Eb,rfl,aeE⟩;exact W
  exact W
 exact W
end Go.Ev.Rp
namespace Go.Ev.Rp
open Go Go.Ev.Pp
attribute [local irreducible] VC VO VQ VI Sound cF
theorem Cj{T:aO}(F:FT T){aK:Int}(A:(-9223372036854775808)≤aK)(G:aK≤9223372036854775807):Sound T 325 [.d (dJ aK)] fun r=>∃z,r=dB z∧(z=true↔(4≤aK∧aK≤8)):=by
 refine bg F.q325 aa (r0 9 aa ?_);refine bk aa ?_ ?_<;>intro I
 ·exact dR 18 aa (bD aa aa ⟨true,aa,H7⟩)
 refine ro 4 aa ?_;refine bk aa ?_ ?_<;>intro L
 ·exact dR 14 aa (bD aa aa ⟨true,aa,H7⟩)
 refine ro 4 aa ?_;refine bk aa ?_ ?_<;>intro M
 ·exact dR 10 aa (bD aa aa ⟨true,aa,H7⟩)
 refine ro 4 aa ?_;refine bk aa ?_ ?_<;>intro O
 ·exact dR 6 aa (bD aa aa ⟨true,aa,H7⟩)
 exact dR 6 aa (bD aa aa ⟨decide (aK=8),aa,H7⟩)
theorem De{T:aO}(F:FT T){a0 a1:DC}{M:aj}(G:ao M a0)(cI:M.length≤64)(bJ:af bc M){Y:aj}(L:ao Y a1)(dg:Y.length≤64)(cq:af bc Y):Sound T 518 [.d a0,.d a1] fun r=>∃y0 Z y2,r= .tuple [.d y0,.d y2]∧ao Z y0∧(Z.length:Int)≤64∧af bc Z∧(Ty.b).ok y2:=by
 refine bg F.q518 aa (cf 9 aa (aM aa G ?_));refine aJ 1 aa (aM aa L ?_);refine ro 2 aa ?_;refine ax aa ?_ ?_<;>intro h1
 ·exact W
 refine rc 11 aa (de 6 90 3 8 1 aa aa (bd [12,5,4,1,0] [] aa aa (fun e0 b0 k VE B=>∃z A,an ((6,.ac 90 A.length 1)::(7,.d (dJ z))::e0) VE∧an ((90,.acc 3 8 1 A)::b0) B∧k=((M.length:Int) -z).toNat∧(0≤z∧(z≤(M.length:Int)∨z=0))∧((A.length:Int)≤z)∧(af bc A)) ?_ fin));rintro _ VE B⟨z,A,hV,hB,rfl,bR,cM,hrw6_0⟩;refine aS _ _ hV hB (aB 5 aa (aM aa G ?_));refine ro 2 aa ?_;refine ax aa ?_ ?_<;>intro g2
 ·refine rc 8 aa ?_;obtain⟨_,⟨I,rfl,L8,GY⟩,U⟩:=qI z bJ;refine aT (aF aa aa G ae U aa ?_);refine cr aa aa (c4 aa aa ?_);refine rq 2 aa ?_;obtain⟨_,⟨O,rfl,sX,sY⟩,cZ⟩:=qI z cq;refine aT (aF aa aa L ae cZ aa ?_);refine cr aa aa (c4 aa aa ?_);refine rq 2 aa ?_;refine dK aa ?_ ?_<;>intro g5
  ·refine rq 8 aa (eM aa aa (aB 4 aa (aF aa aa G ae U aa ?_)));refine ro 2 aa ?_;refine aw (aW (rows:=A) (ys:=[[(dJ I)]]) rfl rfl rfl (.bs (rows:=[[(dJ I)]]) rfl) au ae (fun h=>by rw[h];rfl) (fun h=>by rw[h];rfl) ?_);exact W
  refine rq 2 aa (cb aa aa (aF aa aa L ae cZ aa ?_));refine rq 5 aa ?_;refine ax aa ?_ ?_<;>intro g6
  ·refine aB 4 aa (aF aa aa G ae U aa ?_);refine ro 2 aa ?_;refine aw (aW (rows:=A) (ys:=[[(dJ I)]]) rfl rfl rfl (.bs (rows:=[[(dJ I)]]) rfl) au ae (fun h=>by rw[h];rfl) (fun h=>by rw[h];rfl) ?_);exact W
  refine aB 4 aa (aF aa aa G ae U aa ?_);refine ro 4 aa ?_;refine ax aa ?_ ?_<;>intro g7
  ·refine aB 4 aa (aF aa aa L ae cZ aa ?_);refine ro 2 aa ?_;refine aw (aW (rows:=A) (ys:=[[(dJ O)]]) rfl rfl rfl (.bs (rows:=[[(dJ O)]]) rfl) au ae (fun h=>by rw[h];rfl) (fun h=>by rw[h];rfl) ?_);exact W
  exact W
 exact rc 7 aa (cl 4 90 aa aa (fun _=>⟨aa,aa⟩) (W))
end Go.Ev.Rp
namespace Go.Ev.Rp
open Go Go.Ev.Pp
attribute [local irreducible] VC VO VQ VI Sound cF
theorem ProjC{T:aO}(F:FT T){a0 a1 a2 a3:DC}(cC:tJ.ok a0)(bX:tJ.ok a1)(cN:(Ty.l 13 gB).ok a2){Y:aj}(O:ao Y a3)(fe:Y.length≤1000000000)(dQ:af cn Y):Sound T 68 [.agg [.d a0,.d a1,.d a2],.d a3] fun r=>∃y0 G,r= .d y0∧ao G y0∧(G.length:Int)≤13∧af cn G∧0≤(G.length:Int)∧(G=[]→y0= .nil):=by
 refine bg F.q68 aa ?_;rcases cC,bX,cN with⟨⟨aK,rfl,gZ,hD⟩,⟨aH,rfl,ey,dW⟩,⟨bu,U,cX,bS⟩⟩
 refine r0 15 aa (de 5 90 121 32 3 aa aa (bd [4,2,1,0] [2] aa aa (fun e0 b0 k VE B=>∃z A,an ((5,.ac 90 A.length 3)::(6,.d (dJ z))::e0) VE∧an ((90,.acc 121 32 3 A)::b0) B∧k=((bu.length:Int) -z).toNat∧(0≤z∧(z≤(bu.length:Int)∨z=0))∧((A.length:Int)≤z)∧(af cn A)) ?_ fin));rintro _ VE B⟨z,A,hV,hB,rfl,bR,cM,p9⟩;refine aS _ _ hV hB (aB 6 aa (aM aa U ?_));refine ro 2 aa ?_;refine ax aa ?_ ?_<;>intro g1
 ·refine rc 8 aa ?_;obtain⟨_,⟨Z,rfl,mT,nM⟩,ff,iW,fg,fT,bM⟩:=qI z bS;refine aw (aF aa aa U ae bM aa ?_);refine ro 6 aa (rp 3 aa ?_);refine bk aa ?_ ?_<;>intro g3
  ·refine ro 2 aa (bw aa aa (aM aa O ?_));refine ro 3 aa ?_;refine ax aa ?_ ?_<;>intro g4
   ·refine aB 4 aa (dO aa aa ae ae ?_);obtain⟨_,⟨I,rfl,xv,xw⟩,_,⟨L,rfl,Dv,Dw⟩,_,⟨M,rfl,adS⟩,eQ⟩:=qI (Z-1) dQ;refine aw (aF aa aa O ae eQ aa ?_);refine ro 2 aa ?_;refine aw (aW (rows:=A) (ys:=[[(dJ I),(dJ L),(al M)]]) rfl rfl rfl (.bs (rows:=[[(dJ I),(dJ L),(al M)]]) rfl) au ae (fun h=>by rw[h];rfl) (fun h=>by rw[h];rfl) ?_);exact W
   refine rc 4 aa ?_;refine aw (aW (rows:=A) (ys:=[[i0,i0,(al [])]]) rfl rfl rfl (.bs (rows:=[[i0,i0,(al [])]]) rfl) au ae (fun h=>by rw[h];rfl) (fun h=>by rw[h];rfl) ?_);exact W
  refine ro 6 aa (dc aa aa (rc 4 aa ?_));refine aw (aW (rows:=A) (ys:=[[i0,i0,(al [])]]) rfl rfl rfl (.bs (rows:=[[i0,i0,(al [])]]) rfl) au ae (fun h=>by rw[h];rfl) (fun h=>by rw[h];rfl) ?_);exact W
 exact rc 6 aa (cl 4 90 aa aa (fun _=>⟨aa,aa⟩) (W))
theorem hpC{T:aO}(F:FT T){A:DC}(z:tJ.ok A):Sound T 516 [.d A] fun r=>∃G,r= .d G∧(Ty.b).ok G:=by
 refine bg F.q516 aa ?_;obtain⟨aK,rfl,I,L⟩:=z;exact W
theorem Pz{T:aO}(F:FT T){A:DC}(z:tJ.ok A):Sound T 517 [.d A] fun r=>∃G,r= .d G∧(Ty.b).ok G:=by
 refine bg F.q517 aa ?_;obtain⟨aK,rfl,I,L⟩:=z;exact W
end Go.Ev.Rp
