/- Part 43 of rules for walks through the code of a program, and of such walks; what each part proves is said by its theorems. -/
import Derived.Test.YtmpoloiempjdpaaGreatR21
import Derived.Test.YtmpoloiempjdpaaGreatR24
import Derived.Test.YtmpoloiempjdpaaGreatR25
import Derived.Test.YtmpoloiempjdpaaGreatR33
import Derived.Test.YtmpoloiempjdpaaGreatR41
import Derived.Test.YtmpoloiempjdpaaGreatR42
set_option linter.unusedVariables false
set_option linter.unusedSimpArgs false
noncomputable section
set_option maxRecDepth 100000
set_option maxHeartbeats 4000000
namespace Go.Ev.Rp
open Go Go.Ev.Pp
attribute [local irreducible] VC VO VQ VI Sound bY
theorem aik{T:aM}(F:FT T){X:List Int}{m:Nat}{a0:DC}{bW:ai}(cM:au bW a0)(cT:bW.length≤1000000)(bN:af (dR X m) bW)(hX:X.length≤2000000)(hm:m≤100000000):Sound T 205 [.d a0] fun r=>∃y0 bw,r= .d y0∧au bw y0∧(bw.length:Int)≤bW.length∧af (xT X m) bw∧0≤(bw.length:Int)∧(bw=[]→y0= .nil):=by
 refine bm F.ajE aa (ch 12 aa (aB aa (Vh (X:=X) (m:=m) F cM ae bN ae ae) ?_));rintro _ _⟨dD,fg,rfl,hJ,kI,fT,mN,pn⟩;refine aw (aQ aa hJ ?_);refine ro 3 aa (dP 3 90 325 72 3 aa aa (dP 2 47 134 48 2 aa aa (Sh 47 aa (fun p2=>?_))));refine bj [9,8,0] [] aa aa (fun e0 b0 k VE B=>∃I A nI L,an ((3,.ac 90 A.length 3)::(10,.d (dJ I))::e0) VE∧an ((47,.bP nI (.acc 134 48 2 L))::(90,.acc 325 72 3 A)::b0) B∧k=((fg.length:Int) -I).toNat∧(0≤I∧(I≤(fg.length:Int)∨I=0))∧((A.length:Int)≤I)∧(af (xT X m) A)∧((L.length:Int)≤I)∧(af (dR X m) L)∧(A=[]∨(L≠[]∧oo A nI L.length))) ?_ fin;rintro _ VE B⟨I,A,nI,L,hV,hB,rfl,bU,cS,Z,mh,RR,yK⟩;refine aU _ _ hV hB (rc 5 aa ?_);refine ay aa ?_ ?_<;>intro g3
 ·refine rc 5 aa ?_;obtain⟨G,⟨U5,M,Ts,O⟩,e5,Y,dj⟩:=qI I fT;refine aw (aH aa aa hJ ae dj aa ?_);refine aN 8 aa (dQ aa aa ae ae ?_);refine ro 8 aa ?_;refine dL aa ?_ ?_<;>intro g5
  ·refine rq 11 aa (eu aa aa (rc 2 aa (CD 47 (aN 5 aa (aY (rows:=A) (ys:=[[G,.nil,.nil]]) aa aa aa (.bs (rows:=[[G,.nil,.nil]]) aa) ao ae bR bR ?_)))));refine aN 4 aa (bx aa aa ae ae ?_);refine ro 8 aa ?_;obtain⟨j6,sX,Kc⟩:∃j:Nat,(((A.length:Int) -1)+1)=(j:Int)∧j=A.length:=⟨_,ae,rfl⟩;have fE:(A++[[G,.nil,.nil]])[j6]?=some [G,.nil,.nil]:=by rw[Kc];exact jc
   have qc:j6<(A++[[G,.nil,.nil]]).length:=by rw[Kc];simp
   refine aV (dk rfl (by rw[←sX];rfl) qc ?_);refine rq 1 aa (aP aa (fb (rows:=(A++[[G,.nil,.nil]])) aa aa fE aa ?_));obtain⟨Ig,Dd,U⟩:=Ty.bC Y;have De:=U.1;have GY:=cC.len U;refine rq 2 aa ?_;skip;refine aP aa (VI.fresh aa (eb (ys:=[[G,e5]]) 47 aa aa aa aa aa (.bs (rows:=[[G,e5]]) aa) ao ae ?_));obtain⟨j7,iZ,Kd⟩:∃j:Nat,(((A.length:Int) -1)+1)=(j:Int)∧j=A.length:=⟨_,ae,rfl⟩;have eK:(A++[[G,.nil,.nil]])[j7]?=some [G,.nil,.nil]:=by rw[Kd];exact jc
   have fx:j7<(A++[[G,.nil,.nil]]).length:=by rw[Kd];simp
   refine aV (dk rfl (by rw[←iZ];rfl) fx ?_);refine ny 47 aa (fun p8=>?_);refine rN 47 47 aa aa bH bH (rq 1 aa (iK aa (gZ aa aa aa aa aa aa ao ao eK (fun w9 YF YG=>?_))));have zk:af (xT X m) w9:=by rw[YF];exact fk (dW Z (dG (ah (aL M ae O) (ah (bC qV.nil) (ah (bC e7.nil) bl))))) (ah (aL M ae O) (ah (bC (qV.raw mT)) (ah (bC e7.nil) bl)))
   rw[←YG];refine rq 6 aa ?_;obtain⟨wL,vV,qW⟩:=bD (z:=(((A.length:Int) -1)+1)) (n:=w9.length) ae ae;obtain⟨nH,pj,pz,xC,DO,xD,gg⟩:=qN qW zk;refine aV (dk rfl (by rw[←vV];rfl) qW ?_);refine rq 1 aa (aP aa (fb (rows:=w9) aa aa gg aa ?_));refine rq 2 aa (aP aa (aB aa (xI (X:=X) F xD Y ae) ?_));rintro _ _⟨nE,rfl,rQ⟩;obtain⟨Yw,BJ,yS⟩:=bD (z:=(((A.length:Int) -1)+1)) (n:=w9.length) ae ae;obtain⟨pC,lU,rZ,vf,M5,As,gr⟩:=qN yS zk;refine aV (dk rfl (by rw[←BJ];rfl) yS ?_);refine rq 1 aa (iK aa (gZ aa aa aa aa aa aa ao ao gr (fun Fe W6 W7=>?_)));have yM:af (xT X m) Fe:=by rw[W6];exact fk zk (ah lU (ah vf (ah rQ bl)))
   rw[←W7];refine rq 2 aa (aw (bx aa aa ae ae ?_));refine cL 2 aa ?_;exact⟨((fg.length:Int) -((I+1))).toNat,ae,(I+1),Fe,p8,[[G,e5]],⟨rfl,rfl,rfl,rfl,rfl,trivial⟩,⟨rfl,rfl,trivial⟩,rfl,ae,ae,yM,cR,(dG (ah (aL M ae O) (ah Y bl))),(by first|exact .inl rfl|exact .inr ⟨(by simp),oo.step (by assumption) (by assumption) (by assumption) (by first|omega|(simp;omega)) (by first|omega|(simp;omega))⟩)⟩
  refine rq 2 aa ?_;obtain⟨ry,v3,ue⟩:=bD (z:=((A.length:Int) -1)) (n:=A.length) ae ae;obtain⟨UO,⟨wx14_0,hdx14_0,hnx14_0,hrx14_0⟩,M4,S7,Ih,Da,gX⟩:=qN ue Z;refine cl rfl rfl (dk rfl (by rw[←v3];rfl) ue ?_);refine rq 1 aa (fL aa aa aa (fb (rows:=A) aa aa gX aa ?_));refine rq 2 aa (fL aa aa aa (aB aa (x7 F (aL hdx14_0 ae hrx14_0) (aL M ae O)) ?_));rintro _ _⟨_,rfl,zy15_0,rfl,acr,acs⟩;refine rq 3 aa ?_;refine ay aa ?_ ?_<;>intro o5
  ·refine rc 2 aa (CD 47 (aN 5 aa (aY (rows:=A) (ys:=[[G,.nil,.nil]]) aa aa aa (.bs (rows:=[[G,.nil,.nil]]) aa) ao ae bR bR ?_)));refine aN 4 aa (bx aa aa ae ae ?_);refine ro 8 aa ?_;obtain⟨wQ,BQ,yV⟩:∃j:Nat,(((A.length:Int) -1)+1)=(j:Int)∧j=A.length:=⟨_,ae,rfl⟩;have jA:(A++[[G,.nil,.nil]])[wQ]?=some [G,.nil,.nil]:=by rw[yV];exact jc
   have yT:wQ<(A++[[G,.nil,.nil]]).length:=by rw[yV];simp
   refine aV (dk rfl (by rw[←BQ];rfl) yT ?_);refine rq 1 aa (aP aa (fb (rows:=(A++[[G,.nil,.nil]])) aa aa jA aa ?_));obtain⟨Ig,Dd,U⟩:=Ty.bC Y;have De:=U.1;have GY:=cC.len U;refine rq 2 aa ?_;skip;refine aP aa (VI.fresh aa (eb (ys:=[[G,e5]]) 47 aa aa aa aa aa (.bs (rows:=[[G,e5]]) aa) ao ae ?_));obtain⟨qe,sB,yW⟩:∃j:Nat,(((A.length:Int) -1)+1)=(j:Int)∧j=A.length:=⟨_,ae,rfl⟩;have nV:(A++[[G,.nil,.nil]])[qe]?=some [G,.nil,.nil]:=by rw[yW];exact jc
   have sC:qe<(A++[[G,.nil,.nil]]).length:=by rw[yW];simp
   refine aV (dk rfl (by rw[←sB];rfl) sC ?_);refine ny 47 aa (fun Ke=>?_);refine rN 47 47 aa aa bH bH (rq 1 aa (iK aa (gZ aa aa aa aa aa aa ao ao nV (fun mF BK yO=>?_))));have uc:af (xT X m) mF:=by rw[BK];exact fk (dW Z (dG (ah (aL M ae O) (ah (bC qV.nil) (ah (bC e7.nil) bl))))) (ah (aL M ae O) (ah (bC (qV.raw mT)) (ah (bC e7.nil) bl)))
   rw[←yO];refine rq 6 aa ?_;obtain⟨nk,pT,mi⟩:=bD (z:=(((A.length:Int) -1)+1)) (n:=mF.length) ae ae;obtain⟨vw,vd,tI,Ap,U6,TJ,ml⟩:=qN mi uc;refine aV (dk rfl (by rw[←pT];rfl) mi ?_);refine rq 1 aa (aP aa (fb (rows:=mF) aa aa ml aa ?_));refine rq 2 aa (aP aa (aB aa (xI (X:=X) F TJ Y ae) ?_));rintro _ _⟨HS,rfl,ae4⟩;obtain⟨j23,Jk,wz⟩:=bD (z:=(((A.length:Int) -1)+1)) (n:=mF.length) ae ae;obtain⟨ah9,Tt,x23_1,afF,x23_2,hx23_2,v7⟩:=qN wz uc;refine aV (dk rfl (by rw[←Jk];rfl) wz ?_);refine rq 1 aa (iK aa (gZ aa aa aa aa aa aa ao ao v7 (fun Kf W8 W9=>?_)));have Xa:af (xT X m) Kf:=by rw[W8];exact fk uc (ah Tt (ah afF (ah ae4 bl)))
   rw[←W9];refine rq 2 aa (aw (bx aa aa ae ae ?_));refine cL 2 aa ?_;exact⟨((fg.length:Int) -((I+1))).toNat,ae,(I+1),Kf,Ke,[[G,e5]],⟨rfl,rfl,rfl,rfl,rfl,trivial⟩,⟨rfl,rfl,trivial⟩,rfl,ae,ae,Xa,cR,(dG (ah (aL M ae O) (ah Y bl))),(by first|exact .inl rfl|exact .inr ⟨(by simp),oo.step (by assumption) (by assumption) (by assumption) (by first|omega|(simp;omega)) (by first|omega|(simp;omega))⟩)⟩
  refine rc 7 aa ?_;obtain⟨Ii,YH,YI,Jl⟩:=Mn (by assumption:A=[]∨(L≠[]∧oo A nI L.length)) (fun h=>absurd (congrArg List.length h) Mw);have hk25:=Ol (lu Z Jl);obtain⟨qa,BA,Xb⟩:∃j:Nat,((A.length:Int) -1)=(j:Int)∧j=A.length-1:=⟨_,al,rfl⟩;have wb:A[qa]?=some [YH,.raw nI L.length 2,YI]:=by rw[Xb];exact Jl
  have IW:qa<A.length:=by omega
  refine aV (dk rfl (by rw[←BA];rfl) IW ?_);refine rq 1 aa (aP aa (fb (rows:=A) aa aa wb aa ?_));obtain⟨Ig,Dd,U⟩:=Ty.bC Y;have De:=U.1;have GY:=cC.len U;refine rq 2 aa (Fs 44 47 aa aa (List.length_pos_iff.2 Ii) Ii (KK 47 aa (aP aa (aY (rows:=L) (ys:=[[G,e5]]) aa aa aa (.bs (rows:=[[G,e5]]) aa) ao ae bR bR ?_))));obtain⟨hrs26,YJ,YK,Jm⟩:=Mn (by assumption:A=[]∨(L≠[]∧oo A nI L.length)) (fun h=>absurd (congrArg List.length h) Mw);have Jn:=Ol (lu Z Jm);obtain⟨zy,BP,Xd⟩:∃j:Nat,((A.length:Int) -1)=(j:Int)∧j=A.length-1:=⟨_,al,rfl⟩;have yU:A[zy]?=some [YJ,.raw nI L.length 2,YK]:=by rw[Xd];exact Jm
  have yR:zy<A.length:=by omega
  refine aV (dk rfl (by rw[←BP];rfl) yR ?_);refine ny 47 aa (fun YL=>?_);refine rN 47 47 aa aa bH bH (rq 1 aa (iK aa (gZ aa aa aa aa aa aa ao ao yU (fun od Xe OH=>?_))));have yN:af (xT X m) od:=by rw[Xe];exact fk Z (ah Jn.1 (ah (bC (qV.raw mT)) (ah Jn.2.2 bl)))
  rw[←OH];refine rq 6 aa ?_;obtain⟨YM,Jo,Ew⟩:=bD (z:=((od.length:Int) -1)) (n:=od.length) ae ae;obtain⟨H9,vg,vB,hx29_1,U7,TK,nW⟩:=qN Ew yN;refine aV (dk rfl (by rw[←Jo];rfl) Ew ?_);refine rq 1 aa (aP aa (fb (rows:=od) aa aa nW aa ?_));refine rq 2 aa (aP aa (aB aa (xI (X:=X) F TK Y ae) ?_));rintro _ _⟨A4,rfl,Tl⟩;obtain⟨YN,Jp,Ey⟩:=bD (z:=((od.length:Int) -1)) (n:=od.length) ae ae;obtain⟨x31_0,Tv,x31_1,afG,x31_2,hx31_2,Xf⟩:=qN Ey yN;refine aV (dk rfl (by rw[←Jp];rfl) Ey ?_);refine rq 1 aa (iK aa (gZ aa aa aa aa aa aa ao ao Xf (fun Ff Xg OT=>?_)));have Xh:af (xT X m) Ff:=by rw[Xg];exact fk yN (ah Tv (ah afG (ah Tl bl)))
  rw[←OT];refine rq 2 aa (aw (bx aa aa ae ae ?_));refine cL 2 aa ?_;exact⟨((fg.length:Int) -((I+1))).toNat,ae,(I+1),Ff,YL,(L++[[G,e5]]),⟨rfl,rfl,rfl,rfl,rfl,trivial⟩,⟨rfl,rfl,trivial⟩,rfl,ae,ae,Xh,cR,(dW RR (dG (ah (aL M ae O) (ah Y bl)))),(by first|exact .inl rfl|exact .inr ⟨(by simp),oo.step (by assumption) (by assumption) (by assumption) (by first|omega|(simp;omega)) (by first|omega|(simp;omega))⟩)⟩
 exact rc 6 aa (cA 2 90 aa aa (fun _=>⟨aa,aa⟩) (W))
theorem DistinctM{T:aM}(F:FT T){X:List Int}{m:Nat}{a0:DC}{O:ai}(cM:au O a0)(cT:O.length≤1000000)(bN:af (dR X m) O)(hX:X.length≤2000000)(hm:m≤100000000):Sound T 148 [.d a0] fun r=>∃y0 L,r= .d y0∧au L y0∧(L.length:Int)≤O.length∧af (dR X m) L∧0≤(L.length:Int)∧(L=[]→y0= .nil):=by
 refine bm F.ajA aa (ch 12 aa (aB aa (aik (X:=X) (m:=m) F cM ae bN ae ae) ?_));rintro _ _⟨dD,M,rfl,G,kI,U,mN,pn⟩;refine aw (aQ aa G ?_);refine ro 3 aa (dP 3 90 134 48 2 aa aa (bj [8,7,2,0] [] aa aa (fun e0 b0 k VE B=>∃z A,an ((3,.ac 90 A.length 2)::(9,.d (dJ z))::e0) VE∧an ((90,.acc 134 48 2 A)::b0) B∧k=((M.length:Int) -z).toNat∧(0≤z∧(z≤(M.length:Int)∨z=0))∧((A.length:Int)≤z)∧(af (dR X m) A)) ?_ fin));rintro _ VE B⟨z,A,hV,hB,rfl,bU,cS,GG⟩;refine aU _ _ hV hB (rc 5 aa ?_);refine ay aa ?_ ?_<;>intro g2
 ·refine rc 5 aa ?_;obtain⟨Y,⟨Ij,xG,GZ,xH⟩,ud,tP,Z,qL,fJ⟩:=qI z U;refine aw (aH aa aa G ae fJ aa ?_);refine ro 5 aa ?_;obtain⟨UB,Sq,I⟩:=Ty.bC qL;have Ss:=I.1;have Sr:=cC.len I;refine rp 7 aa ?_;refine aw (aY (rows:=A) (ys:=[[Y,Z]]) rfl rfl rfl (.bs (rows:=[[Y,Z]]) rfl) ao ae (fun h=>by rw[h];rfl) (fun h=>by rw[h];rfl) ?_);exact W
 exact rc 6 aa (cA 2 90 aa aa (fun _=>⟨aa,aa⟩) (W))
theorem af3{T:aM}(F:FT T){X:List Int}{m:Nat}{a0 a1:DC}{A:ai}(M:au A a0)(cT:A.length≤1000000000)(Z:af (dR X m) A){O:ai}(cO:au O a1)(dn:O.length≤1000000000)(cq:af cu O)(hX:X.length≤2000000)(hm:m≤100000000):Sound T 267 [.d a0,.d a1] fun r=>∃y0,r= .d y0∧(Ty.q (e7 X)).ok y0:=by
 refine bm F.q267 aa (ch 12 aa (aQ aa M ?_));refine ro 3 aa (bj [9,8,4,1,0] [] aa aa (fun e0 b0 k VE B=>∃G z,an ((5,.d G)::(10,.d (dJ z))::e0) VE∧an b0 B∧k=((A.length:Int) -z).toNat∧((Ty.q (e7 X)).ok G)∧(0≤z∧(z≤(A.length:Int)∨z=0))) ?_ (k:=((A.length:Int) -0).toNat) ⟨.nil,0,⟨aa,aa,aa,aa,aa,aa,aa,trivial⟩,trivial,aa,(bC e7.nil),ae⟩);rintro _ VE B⟨G,z,hV,hB,rfl,U,cS⟩;refine aU _ _ hV hB (rc 5 aa ?_);refine ay aa ?_ ?_<;>intro g1
 ·refine rc 5 aa ?_;obtain⟨gW,⟨pB,I,vb,L⟩,fH,Y,bS⟩:=qI z Z;refine aw (aH aa aa M ae bS aa ?_);refine aN 9 aa (aB aa (x7 F (aL I ae L) (aL cO ae cq)) ?_);rintro _ _⟨_,rfl,zy3_0,rfl,af1,af2⟩;refine ro 2 aa ?_;refine ay aa ?_ ?_<;>intro g4
  ·refine aA 4 aa (aB aa (xI (X:=X) F U Y ae) ?_);rintro _ _⟨jz,rfl,pw⟩;exact W
  exact W
 exact W
theorem ail{T:aM}(F:FT T){X:List Int}{m:Nat}{a0 a1 a2:DC}{bW:ai}(cM:au bW a0)(cT:bW.length≤4096)(bN:af (dR X m) bW){bJ:ai}(cO:au bJ a1)(dn:bJ.length≤4096)(cq:af (dR X m) bJ)(cG:(Ty.b).ok a2)(hX:X.length≤2000000)(hm:m≤100000000):Sound T 233 [.d a0,.d a1,.d a2] fun r=>∃y0 bw,r= .d y0∧au bw y0∧(bw.length:Int)≤5000000000∧af (dR X m) bw:=by
 refine bm F.q233 aa ?_;obtain⟨ba2,rfl⟩:=cG;refine ch 12 aa (aB aa (aik (X:=X) (m:=m) F cM ae bN ae ae) ?_);rintro _ _⟨dD,Y,rfl,Z,kI,fT,mN,pn⟩;refine aw (aQ aa Z ?_);refine ro 3 aa (dP 7 90 134 48 2 aa aa (bj [17,16,6,2,1,0] [] aa aa (fun e0 b0 k VE B=>∃A M,an ((7,.ac 90 M.length 2)::(18,.d (dJ A))::e0) VE∧an ((90,.acc 134 48 2 M)::b0) B∧k=((Y.length:Int) -A).toNat∧(0≤A∧(A≤(Y.length:Int)∨A=0))∧((M.length:Int)≤A*1000002)∧(af (dR X m) M)) ?_ (k:=((Y.length:Int) -0).toNat) ⟨0,[],⟨aa,aa,aa,aa,aa,aa,aa,aa,trivial⟩,⟨aa,trivial⟩,aa,ae,cR,cb⟩));rintro _ VE B⟨A,M,hV,hB,rfl,bU,cS,GN⟩;refine aU _ _ hV hB (rc 5 aa ?_);refine ay aa ?_ ?_<;>intro g2
 ·refine rc 5 aa ?_;obtain⟨pS,⟨Ij,I,GZ,L⟩,ud,tP,Br,qL,fJ⟩:=qI A fT;refine aw (aH aa aa Z ae fJ aa ?_);refine ro 8 aa (aV (ab8 aa (Ty.bC tP) (fun z4 hz4 kz4=>?_)));refine rq 3 aa (aP aa (aB aa (multM (X:=X) (m:=m) F cO ae cq I ae L ae ae) ?_));rintro _ _⟨_,rfl,zy5_0,rfl,hzy5_0,kzy5_0⟩;refine rq 5 aa (iD 2 aa (tf aa aa (fun z6 hz6=>?_)));refine ro 7 aa ?_;refine cE aa ?_ ?_<;>intro h7
  ·refine aA 3 aa (dQ aa aa ae ae ?_);refine aw (om aa aa (fun z8 YE=>?_));refine ro 9 aa (aP aa (aB aa (af3 (X:=X) (m:=m) F cO ae cq I ae L ae ae) ?_));rintro _ _⟨I4,rfl,MN⟩;refine aP aa (aB aa (xI (X:=X) F qL MN ae) ?_);rintro _ _⟨nD,rfl,Aj⟩;refine rq 7 aa (bj [32,19,18,17,16,13,12,11,10,9,6,2,1,0] [9] aa aa (fun e0 b0 k VE B=>∃z G,an ((7,.ac 90 G.length 2)::(14,.d (dJ z))::e0) VE∧an ((90,.acc 134 48 2 G)::b0) B∧k=((z8:Int) -z).toNat∧(0≤z∧(z≤z8∨z=0))∧((G.length:Int)≤A*1000002+z)∧(af (dR X m) G)) ?_ fin);rintro _ VE B⟨z,G,hV,hB,rfl,fu,gL,TI⟩;refine aU _ _ hV hB (rc 7 aa ?_);refine ay aa ?_ ?_<;>intro lN
   ·refine rc 4 aa ?_;obtain⟨GH,CF,O⟩:=Ty.bC Aj;have CG:=O.1;have F9:=cC.len O;refine rp 6 aa ?_;refine aw (aY (rows:=G) (ys:=[[pS,nD]]) rfl rfl rfl (.bs (rows:=[[pS,nD]]) rfl) ao ae (fun h=>by rw[h];rfl) (fun h=>by rw[h];rfl) ?_);exact W
   exact W
  refine rc 8 aa (aP aa (aB aa (af3 (X:=X) (m:=m) F cO ae cq I ae L ae ae) ?_));rintro _ _⟨DS,rfl,GP⟩;refine aP aa (aB aa (xI (X:=X) F qL GP ae) ?_);rintro _ _⟨vx,rfl,LR⟩;refine rq 7 aa (bj [32,19,18,17,16,13,12,11,10,9,6,2,1,0] [9] aa aa (fun e0 b0 k VE B=>∃z G,an ((7,.ac 90 G.length 2)::(14,.d (dJ z))::e0) VE∧an ((90,.acc 134 48 2 G)::b0) B∧k=((z6:Int) -z).toNat∧(0≤z∧(z≤z6∨z=0))∧((G.length:Int)≤A*1000002+z)∧(af (dR X m) G)) ?_ fin);rintro _ VE B⟨z,G,hV,hB,rfl,fu,gL,TI⟩;refine aU _ _ hV hB (rc 7 aa ?_);refine ay aa ?_ ?_<;>intro Cb
  ·refine rc 4 aa ?_;obtain⟨afu,acQ,U⟩:=Ty.bC LR;have acS:=U.1;have acR:=cC.len U;refine rp 6 aa ?_;refine aw (aY (rows:=G) (ys:=[[pS,vx]]) rfl rfl rfl (.bs (rows:=[[pS,vx]]) rfl) ao ae (fun h=>by rw[h];rfl) (fun h=>by rw[h];rfl) ?_);exact W
  exact W
 exact rc 6 aa (cA 6 90 aa aa (fun _=>⟨aa,aa⟩) (W))
theorem ExceptM{T:aM}(F:FT T){X:List Int}{m:Nat}{a0 a1:DC}{z:ai}(I:au z a0)(cT:z.length≤4096)(L:af (dR X m) z){A:ai}(M:au A a1)(dn:A.length≤4096)(O:af (dR X m) A)(hX:X.length≤2000000)(hm:m≤100000000):Sound T 179 [.d a0,.d a1] fun r=>∃y0 G,r= .d y0∧au G y0∧(G.length:Int)≤5000000000∧af (dR X m) G:=by
 refine bm F.q179 aa (ch 8 aa (aB aa (ail (X:=X) (m:=m) F I ae L M ae O eI ae ae) ?_));rintro _ _⟨dD,fg,rfl,U,Y,Z⟩;exact W
theorem InterM{T:aM}(F:FT T){X:List Int}{m:Nat}{a0 a1:DC}{z:ai}(I:au z a0)(cT:z.length≤4096)(L:af (dR X m) z){A:ai}(M:au A a1)(dn:A.length≤4096)(O:af (dR X m) A)(hX:X.length≤2000000)(hm:m≤100000000):Sound T 180 [.d a0,.d a1] fun r=>∃y0 G,r= .d y0∧au G y0∧(G.length:Int)≤5000000000∧af (dR X m) G:=by
 refine bm F.q180 aa (ch 8 aa (aB aa (ail (X:=X) (m:=m) F I ae L M ae O eI ae ae) ?_));rintro _ _⟨dD,fg,rfl,U,Y,Z⟩;exact W
theorem AggM{T:aM}(F:FT T){a0 a1:DC}(cP:tJ.ok a0){Y:ai}(U:au Y a1)(dn:Y.length≤1000000000)(Z:af cu Y):Sound T 234 [.d a0,.d a1] fun r=>∃y0 y1 y2,r= .agg [.d y0,.d y1,.d y2]∧tJ.ok y0∧tJ.ok y1∧(Ty.s 1000).ok y2:=by
 refine bm F.q234 aa ?_;obtain⟨aJ,rfl,iv,iw⟩:=cP;refine r0 15 aa ?_;refine ay aa ?_ ?_<;>intro h1
 ·exact W
 refine rc 5 aa ?_;refine ay aa ?_ ?_<;>intro g2
 ·refine aA 3 aa (aB aa (sumC F U ae Z) ?_);rintro _ _⟨lh,En,Ov,rfl,x9,MQ,Ik⟩;exact W
 refine rc 6 aa ?_;refine ay aa ?_ ?_<;>intro g4
 ·refine rc 1 aa (eu aa aa (aA 8 aa (aQ aa U ?_)));refine ro 3 aa (bj [23,22,19,15,10,9,5,4,1,0] [4] aa aa (fun e0 b0 k VE B=>∃z A G I,an ((24,.d (dJ z))::e0) VE∧an ((5,.one 87 32 [.d A,.d G,.d I])::b0) B∧k=((Y.length:Int) -z).toNat∧(0≤z∧(z≤(Y.length:Int)∨z=0))∧(tJ.ok A)∧(tJ.ok G)∧((Ty.s 1000).ok I)) ?_ fin);rintro _ VE B⟨z,A,G,I,hV,hB,rfl,bU,L,M,O⟩;refine aU _ _ hV hB (rc 5 aa ?_);refine ay aa ?_ ?_<;>intro g5
  ·refine rc 5 aa ?_;obtain⟨I9,AZ,BE,yb,WU,M0,fE⟩:=qI z Z;refine aw (aH aa aa U ae fE aa ?_);refine aN 8 aa (aB aa (MJ F AZ yb M0 L M O) ?_);rintro _ _⟨wa,rfl,sa⟩;exact W
  exact W
 refine rc 4 aa ?_;refine ay aa ?_ ?_<;>intro o5
 ·refine aA 8 aa (aQ aa U ?_);refine ro 3 aa (bj [23,22,19,15,10,9,5,4,1,0] [4] aa aa (fun e0 b0 k VE B=>∃z A G I,an ((24,.d (dJ z))::e0) VE∧an ((5,.one 87 32 [.d A,.d G,.d I])::b0) B∧k=((Y.length:Int) -z).toNat∧(0≤z∧(z≤(Y.length:Int)∨z=0))∧(tJ.ok A)∧(tJ.ok G)∧((Ty.s 1000).ok I)) ?_ fin);rintro _ VE B⟨z,A,G,I,hV,hB,rfl,bU,L,M,O⟩;refine aU _ _ hV hB (rc 5 aa ?_);refine ay aa ?_ ?_<;>intro ux
  ·refine rc 5 aa ?_;obtain⟨ahz,S3,ahL,S8,ahM,S9,nV⟩:=qI z Z;refine aw (aH aa aa U ae nV aa ?_);refine aN 8 aa (aB aa (MJ F S3 S8 S9 L M O) ?_);rintro _ _⟨H5,rfl,hy19_0⟩;exact W
  exact W
 exact W
end Go.Ev.Rp
namespace Go.Ev.Rp
open Go Go.Ev.Pp
attribute [local irreducible] VC VO VQ VI Sound bY
theorem BT{T:aM}(F:FT T){aJ:Int}(A:(-9223372036854775808)≤aJ)(G:aJ≤9223372036854775807):Sound T 173 [.d (dJ aJ)] fun r=>∃z,r=dB z∧(z=true↔(4≤aJ∧aJ≤8)):=by
 refine bm F.q173 aa (r0 9 aa ?_);refine br aa ?_ ?_<;>intro I
 ·exact eJ 18 aa (bL aa aa ⟨true,aa,HG⟩)
 refine ro 4 aa ?_;refine br aa ?_ ?_<;>intro L
 ·exact eJ 14 aa (bL aa aa ⟨true,aa,HG⟩)
 refine ro 4 aa ?_;refine br aa ?_ ?_<;>intro M
 ·exact eJ 10 aa (bL aa aa ⟨true,aa,HG⟩)
 refine ro 4 aa ?_;refine br aa ?_ ?_<;>intro O
 ·exact eJ 6 aa (bL aa aa ⟨true,aa,HG⟩)
 exact eJ 6 aa (bL aa aa ⟨decide (aJ=8),aa,HG⟩)
theorem commonC{T:aM}(F:FT T){a0 a1:DC}{M:ai}(G:au M a0)(cT:M.length≤64)(bN:af bn M){Y:ai}(L:au Y a1)(dn:Y.length≤64)(cq:af bn Y):Sound T 264 [.d a0,.d a1] fun r=>∃y0 Z y2,r= .tuple [.d y0,.d y2]∧au Z y0∧(Z.length:Int)≤64∧af bn Z∧(Ty.b).ok y2:=by
 refine bm F.q264 aa (ch 9 aa (aQ aa G ?_));refine aN 1 aa (aQ aa L ?_);refine ro 2 aa ?_;refine ay aa ?_ ?_<;>intro h1
 ·exact W
 refine rc 11 aa (dP 6 90 3 8 1 aa aa (bj [12,5,4,1,0] [] aa aa (fun e0 b0 k VE B=>∃z A,an ((6,.ac 90 A.length 1)::(7,.d (dJ z))::e0) VE∧an ((90,.acc 3 8 1 A)::b0) B∧k=((M.length:Int) -z).toNat∧(0≤z∧(z≤(M.length:Int)∨z=0))∧((A.length:Int)≤z)∧(af bn A)) ?_ fin));rintro _ VE B⟨z,A,hV,hB,rfl,bU,cS,hrw6_0⟩;refine aU _ _ hV hB (aA 5 aa (aQ aa G ?_));refine ro 2 aa ?_;refine ay aa ?_ ?_<;>intro g2
 ·refine rc 8 aa ?_;obtain⟨_,⟨I,rfl,LK,GD⟩,U⟩:=qI z bN;refine aV (aH aa aa G ae U aa ?_);refine cJ aa aa (dy aa aa ?_);refine rq 2 aa ?_;obtain⟨_,⟨O,rfl,tt,tu⟩,dj⟩:=qI z cq;refine aV (aH aa aa L ae dj aa ?_);refine cJ aa aa (dy aa aa ?_);refine rq 2 aa ?_;refine dL aa ?_ ?_<;>intro g5
  ·refine rq 8 aa (eu aa aa (aA 4 aa (aH aa aa G ae U aa ?_)));refine ro 2 aa ?_;refine aw (aY (rows:=A) (ys:=[[(dJ I)]]) rfl rfl rfl (.bs (rows:=[[(dJ I)]]) rfl) ao ae (fun h=>by rw[h];rfl) (fun h=>by rw[h];rfl) ?_);exact W
  refine rq 2 aa (cl aa aa (aH aa aa L ae dj aa ?_));refine rq 5 aa ?_;refine ay aa ?_ ?_<;>intro g6
  ·refine aA 4 aa (aH aa aa G ae U aa ?_);refine ro 2 aa ?_;refine aw (aY (rows:=A) (ys:=[[(dJ I)]]) rfl rfl rfl (.bs (rows:=[[(dJ I)]]) rfl) ao ae (fun h=>by rw[h];rfl) (fun h=>by rw[h];rfl) ?_);exact W
  refine aA 4 aa (aH aa aa G ae U aa ?_);refine ro 4 aa ?_;refine ay aa ?_ ?_<;>intro g7
  ·refine aA 4 aa (aH aa aa L ae dj aa ?_);refine ro 2 aa ?_;refine aw (aY (rows:=A) (ys:=[[(dJ O)]]) rfl rfl rfl (.bs (rows:=[[(dJ O)]]) rfl) ao ae (fun h=>by rw[h];rfl) (fun h=>by rw[h];rfl) ?_);exact W
  exact W
 exact rc 7 aa (cA 4 90 aa aa (fun _=>⟨aa,aa⟩) (W))
end Go.Ev.Rp
namespace Go.Ev.Rp
open Go Go.Ev.Pp
attribute [local irreducible] VC VO VQ VI Sound bY
theorem ProjC{T:aM}(F:FT T){a0 a1 a2 a3:DC}(cP:tJ.ok a0)(bV:tJ.ok a1)(cG:(Ty.l 13 lE).ok a2){Y:ai}(O:au Y a3)(fI:Y.length≤1000000000)(et:af cu Y):Sound T 170 [.agg [.d a0,.d a1,.d a2],.d a3] fun r=>∃y0 G,r= .d y0∧au G y0∧(G.length:Int)≤13∧af cu G∧0≤(G.length:Int)∧(G=[]→y0= .nil):=by
 refine bm F.q170 aa ?_;rcases cP,bV,cG with⟨⟨aJ,rfl,iv,iw⟩,⟨aS,rfl,eB,ee⟩,⟨bo,U,df,bQ⟩⟩
 refine r0 15 aa (dP 5 90 87 32 3 aa aa (bj [4,2,1,0] [2] aa aa (fun e0 b0 k VE B=>∃z A,an ((5,.ac 90 A.length 3)::(6,.d (dJ z))::e0) VE∧an ((90,.acc 87 32 3 A)::b0) B∧k=((bo.length:Int) -z).toNat∧(0≤z∧(z≤(bo.length:Int)∨z=0))∧((A.length:Int)≤z)∧(af cu A)) ?_ fin));rintro _ VE B⟨z,A,hV,hB,rfl,bU,cS,qw⟩;refine aU _ _ hV hB (aA 6 aa (aQ aa U ?_));refine ro 2 aa ?_;refine ay aa ?_ ?_<;>intro g1
 ·refine rc 8 aa ?_;obtain⟨_,⟨Z,rfl,tv,ve⟩,fH,iQ,gf,iq,bS⟩:=qI z bQ;refine aw (aH aa aa U ae bS aa ?_);refine ro 6 aa (rp 3 aa ?_);refine br aa ?_ ?_<;>intro g3
  ·refine ro 2 aa (bM aa aa (aQ aa O ?_));refine ro 3 aa ?_;refine ay aa ?_ ?_<;>intro g4
   ·refine aA 4 aa (dQ aa aa ae ae ?_);obtain⟨_,⟨I,rfl,Am,An⟩,_,⟨L,rfl,GB,GC⟩,_,⟨M,rfl,hsx5_2⟩,e9⟩:=qI (Z-1) et;refine aw (aH aa aa O ae e9 aa ?_);refine ro 2 aa ?_;refine aw (aY (rows:=A) (ys:=[[(dJ I),(dJ L),(aq M)]]) rfl rfl rfl (.bs (rows:=[[(dJ I),(dJ L),(aq M)]]) rfl) ao ae (fun h=>by rw[h];rfl) (fun h=>by rw[h];rfl) ?_);exact W
   refine rc 4 aa ?_;refine aw (aY (rows:=A) (ys:=[[i0,i0,(aq [])]]) rfl rfl rfl (.bs (rows:=[[i0,i0,(aq [])]]) rfl) ao ae (fun h=>by rw[h];rfl) (fun h=>by rw[h];rfl) ?_);exact W
  refine ro 6 aa (dq aa aa (rc 4 aa ?_));refine aw (aY (rows:=A) (ys:=[[i0,i0,(aq [])]]) rfl rfl rfl (.bs (rows:=[[i0,i0,(aq [])]]) rfl) ao ae (fun h=>by rw[h];rfl) (fun h=>by rw[h];rfl) ?_);exact W
 exact rc 6 aa (cA 4 90 aa aa (fun _=>⟨aa,aa⟩) (W))
theorem hpC{T:aM}(F:FT T){A:DC}(z:tJ.ok A):Sound T 262 [.d A] fun r=>∃G,r= .d G∧(Ty.b).ok G:=by
 refine bm F.q262 aa ?_;obtain⟨aJ,rfl,I,L⟩:=z;exact W
theorem PK{T:aM}(F:FT T){A:DC}(z:tJ.ok A):Sound T 263 [.d A] fun r=>∃G,r= .d G∧(Ty.b).ok G:=by
 refine bm F.q263 aa ?_;obtain⟨aJ,rfl,I,L⟩:=z;exact W
end Go.Ev.Rp
