/- Part 37 of rules for walks through the code of a program, and of such walks; what each part proves is said by its theorems. -/
import Derived.Test.YtdaamclhcpjdpaaGreatDoorR20
import Derived.Test.YtdaamclhcpjdpaaGreatDoorR21
import Derived.Test.YtdaamclhcpjdpaaGreatDoorR22
import Derived.Test.YtdaamclhcpjdpaaGreatDoorR23
import Derived.Test.YtdaamclhcpjdpaaGreatDoorR25
import Derived.Test.YtdaamclhcpjdpaaGreatDoorR35
import Derived.Test.YtdaamclhcpjdpaaGreatDoorR36
set_option linter.unusedVariables false
set_option linter.unusedSimpArgs false
noncomputable section
set_option maxRecDepth 100000
set_option maxHeartbeats 4000000
namespace Go.Ev.Rp
open Go Go.Ev.Pp
attribute [local irreducible] VC VO VQ VI Sound cm
theorem ahd{T:aN}(F:FT T){X:List Int}{m:Nat}{a0:DC}{bP:ak}(cr:aA bP a0)(cK:bP.length≤1000000)(bM:af (dK X m) bP)(hX:X.length≤2000000)(hm:m≤100000000):Sound T 350 [.d a0] fun r=>∃y0 bu,r= .d y0∧aA bu y0∧(bu.length:Int)≤bP.length∧af (xM X m) bu∧0≤(bu.length:Int)∧(bu=[]→y0= .nil):=by
 refine bj F.aiD aa (bY 12 aa (ay aa (Uz (X:=X) (m:=m) F cr ae bM ae ae) ?_));rintro _ _⟨ez,fg,rfl,gL,jE,fy,lu,mT⟩;refine ax (aO aa gL ?_);refine ro 3 aa (dh 3 90 510 72 3 aa aa (dh 2 47 82 48 2 aa aa (RL 47 aa (fun p2=>?_))));refine bd [9,8,0] [] aa aa (fun e0 b0 k VE B=>∃I A mZ L,an ((3,.ac 90 A.length 3)::(10,.d (dJ I))::e0) VE∧an ((47,.c9 mZ (.acc 82 48 2 L))::(90,.acc 510 72 3 A)::b0) B∧k=((fg.length:Int) -I).toNat∧(0≤I∧(I≤(fg.length:Int)∨I=0))∧((A.length:Int)≤I)∧(af (xM X m) A)∧((L.length:Int)≤I)∧(af (dK X m) L)∧(A=[]∨(L≠[]∧nI A mZ L.length))) ?_ fin;rintro _ VE B⟨I,A,mZ,L,hV,hB,rfl,bS,cM,Z,js,Rf,uc⟩;refine aU _ _ hV hB (rc 5 aa ?_);refine au aa ?_ ?_<;>intro g3
 ·refine rc 5 aa ?_;obtain⟨G,⟨Ul,M,SO,O⟩,fo,Y,cY⟩:=qI I fy;refine ax (aI aa aa gL ae cY aa ?_);refine aK 8 aa (dq aa aa ae ae ?_);refine ro 8 aa ?_;refine dw aa ?_ ?_<;>intro g5
  ·refine rq 11 aa (eG aa aa (rc 2 aa (zN 47 (aK 5 aa (aX (rows:=A) (ys:=[[G,.nil,.nil]]) aa aa aa (.bs (rows:=[[G,.nil,.nil]]) aa) ao ae bN bN ?_)))));refine aK 4 aa (bC aa aa ae ae ?_);refine ro 8 aa ?_;obtain⟨j6,sT,Ki⟩:∃j:Nat,(((A.length:Int) -1)+1)=(j:Int)∧j=A.length:=⟨_,ae,rfl⟩;have e7:(A++[[G,.nil,.nil]])[j6]?=some [G,.nil,.nil]:=by rw[Ki];exact iQ
   have pU:j6<(A++[[G,.nil,.nil]]).length:=by rw[Ki];simp
   refine aR (cX rfl (by rw[←sT];rfl) pU ?_);refine rq 1 aa (aP aa (eX (rows:=(A++[[G,.nil,.nil]])) aa aa e7 aa ?_));obtain⟨Ir,De,U⟩:=Ty.bA Y;have Df:=U.1;have G5:=cw.len U;refine rq 2 aa ?_;skip;refine aP aa (VI.fresh aa (dQ (ys:=[[G,fo]]) 47 aa aa aa aa aa (.bs (rows:=[[G,fo]]) aa) ao ae ?_));obtain⟨j7,jv,Kj⟩:∃j:Nat,(((A.length:Int) -1)+1)=(j:Int)∧j=A.length:=⟨_,ae,rfl⟩;have eV:(A++[[G,.nil,.nil]])[j7]?=some [G,.nil,.nil]:=by rw[Kj];exact iQ
   have fR:j7<(A++[[G,.nil,.nil]]).length:=by rw[Kj];simp
   refine aR (cX rfl (by rw[←jv];rfl) fR ?_);refine nM 47 aa (fun p8=>?_);refine ry 47 47 aa aa bB bB (rq 1 aa (gK aa (fZ aa aa aa aa aa aa ao ao eV (fun w9 XN XO=>?_))));have zg:af (xM X m) w9:=by rw[XN];exact e8 (dC Z (dr (aj (aM M ae O) (aj (bA qL.nil) (aj (bA fb.nil) bg))))) (aj (aM M ae O) (aj (bA (qL.raw mu)) (aj (bA fb.nil) bg)))
   rw[←XO];refine rq 6 aa ?_;obtain⟨B9,vP,ou⟩:=bz (z:=(((A.length:Int) -1)+1)) (n:=w9.length) ae ae;obtain⟨n5,ql,rQ,Am,H6,An,gY⟩:=qN ou zg;refine aR (cX rfl (by rw[←vP];rfl) ou ?_);refine rq 1 aa (aP aa (eX (rows:=w9) aa aa gY aa ?_));refine rq 2 aa (aP aa (ay aa (xz (X:=X) F An Y ae) ?_));rintro _ _⟨qA,rfl,rF⟩;obtain⟨J5,vQ,sj⟩:=bz (z:=(((A.length:Int) -1)+1)) (n:=w9.length) ae ae;obtain⟨qu,nP,tv,xq,Uc,L6,gI⟩:=qN sj zg;refine aR (cX rfl (by rw[←vQ];rfl) sj ?_);refine rq 1 aa (gK aa (fZ aa aa aa aa aa aa ao ao gI (fun Ff We Wf=>?_)));have yG:af (xM X m) Ff:=by rw[We];exact e8 zg (aj nP (aj xq (aj rF bg)))
   rw[←Wf];refine rq 2 aa (ax (bC aa aa ae ae ?_));refine cW 2 aa ?_;exact⟨((fg.length:Int) -((I+1))).toNat,ae,(I+1),Ff,p8,[[G,fo]],⟨rfl,rfl,rfl,rfl,rfl,trivial⟩,⟨rfl,rfl,trivial⟩,rfl,ae,ae,yG,cJ,(dr (aj (aM M ae O) (aj Y bg))),(by first|exact .inl rfl|exact .inr ⟨(by simp),nI.step (by assumption) (by assumption) (by assumption) (by first|omega|(simp;omega)) (by first|omega|(simp;omega))⟩)⟩
  refine rq 2 aa ?_;obtain⟨oG,sk,pA⟩:=bz (z:=((A.length:Int) -1)) (n:=A.length) ae ae;obtain⟨T3,⟨wx14_0,hdx14_0,hnx14_0,hrx14_0⟩,Ub,aej,Nm,G6,gX⟩:=qN pA Z;refine ca rfl rfl (cX rfl (by rw[←sk];rfl) pA ?_);refine rq 1 aa (eL aa aa aa (eX (rows:=A) aa aa gX aa ?_));refine rq 2 aa (eL aa aa aa (ay aa (xQ F (aM hdx14_0 ae hrx14_0) (aM M ae O)) ?_));rintro _ _⟨_,rfl,zy15_0,rfl,abn,abo⟩;refine rq 3 aa ?_;refine au aa ?_ ?_<;>intro nB
  ·refine rc 2 aa (zN 47 (aK 5 aa (aX (rows:=A) (ys:=[[G,.nil,.nil]]) aa aa aa (.bs (rows:=[[G,.nil,.nil]]) aa) ao ae bN bN ?_)));refine aK 4 aa (bC aa aa ae ae ?_);refine ro 8 aa ?_;obtain⟨wE,BN,yP⟩:∃j:Nat,(((A.length:Int) -1)+1)=(j:Int)∧j=A.length:=⟨_,ae,rfl⟩;have ji:(A++[[G,.nil,.nil]])[wE]?=some [G,.nil,.nil]:=by rw[yP];exact iQ
   have yM:wE<(A++[[G,.nil,.nil]]).length:=by rw[yP];simp
   refine aR (cX rfl (by rw[←BN];rfl) yM ?_);refine rq 1 aa (aP aa (eX (rows:=(A++[[G,.nil,.nil]])) aa aa ji aa ?_));obtain⟨Ir,De,U⟩:=Ty.bA Y;have Df:=U.1;have G5:=cw.len U;refine rq 2 aa ?_;skip;refine aP aa (VI.fresh aa (dQ (ys:=[[G,fo]]) 47 aa aa aa aa aa (.bs (rows:=[[G,fo]]) aa) ao ae ?_));obtain⟨pQ,sh,yQ⟩:∃j:Nat,(((A.length:Int) -1)+1)=(j:Int)∧j=A.length:=⟨_,ae,rfl⟩;have nh:(A++[[G,.nil,.nil]])[pQ]?=some [G,.nil,.nil]:=by rw[yQ];exact iQ
   have si:pQ<(A++[[G,.nil,.nil]]).length:=by rw[yQ];simp
   refine aR (cX rfl (by rw[←sh];rfl) si ?_);refine nM 47 aa (fun Kk=>?_);refine ry 47 47 aa aa bB bB (rq 1 aa (gK aa (fZ aa aa aa aa aa aa ao ao nh (fun lW BG yI=>?_))));have uf:af (xM X m) lW:=by rw[BG];exact e8 (dC Z (dr (aj (aM M ae O) (aj (bA qL.nil) (aj (bA fb.nil) bg))))) (aj (aM M ae O) (aj (bA (qL.raw mu)) (aj (bA fb.nil) bg)))
   rw[←yI];refine rq 6 aa ?_;obtain⟨mJ,pD,lO⟩:=bz (z:=(((A.length:Int) -1)+1)) (n:=lW.length) ae ae;obtain⟨vq,u6,tw,Ao,Um,S3,lQ⟩:=qN lO uf;refine aR (cX rfl (by rw[←pD];rfl) lO ?_);refine rq 1 aa (aP aa (eX (rows:=lW) aa aa lQ aa ?_));refine rq 2 aa (aP aa (ay aa (xz (X:=X) F S3 Y ae) ?_));rintro _ _⟨H7,rfl,ad5⟩;obtain⟨j23,Jx,v9⟩:=bz (z:=(((A.length:Int) -1)+1)) (n:=lW.length) ae ae;obtain⟨ag3,SP,x23_1,aeI,x23_2,hx23_2,vT⟩:=qN v9 uf;refine aR (cX rfl (by rw[←Jx];rfl) v9 ?_);refine rq 1 aa (gK aa (fZ aa aa aa aa aa aa ao ao vT (fun Kl Wg Wh=>?_)));have Wi:af (xM X m) Kl:=by rw[Wg];exact e8 uf (aj SP (aj aeI (aj ad5 bg)))
   rw[←Wh];refine rq 2 aa (ax (bC aa aa ae ae ?_));refine cW 2 aa ?_;exact⟨((fg.length:Int) -((I+1))).toNat,ae,(I+1),Kl,Kk,[[G,fo]],⟨rfl,rfl,rfl,rfl,rfl,trivial⟩,⟨rfl,rfl,trivial⟩,rfl,ae,ae,Wi,cJ,(dr (aj (aM M ae O) (aj Y bg))),(by first|exact .inl rfl|exact .inr ⟨(by simp),nI.step (by assumption) (by assumption) (by assumption) (by first|omega|(simp;omega)) (by first|omega|(simp;omega))⟩)⟩
  refine rc 7 aa ?_;obtain⟨Is,XP,XQ,Jy⟩:=Mr (by assumption:A=[]∨(L≠[]∧nI A mZ L.length)) (fun h=>absurd (congrArg List.length h) ME);have hk25:=N4 (mN Z Jy);obtain⟨pS,Bz,Wj⟩:∃j:Nat,((A.length:Int) -1)=(j:Int)∧j=A.length-1:=⟨_,ah,rfl⟩;have vW:A[pS]?=some [XP,.raw mZ L.length 2,XQ]:=by rw[Wj];exact Jy
  have I9:pS<A.length:=by omega
  refine aR (cX rfl (by rw[←Bz];rfl) I9 ?_);refine rq 1 aa (aP aa (eX (rows:=A) aa aa vW aa ?_));obtain⟨Ir,De,U⟩:=Ty.bA Y;have Df:=U.1;have G5:=cw.len U;refine rq 2 aa (Fz 44 47 aa aa (List.length_pos_iff.2 Is) Is (KP 47 aa (aP aa (aX (rows:=L) (ys:=[[G,fo]]) aa aa aa (.bs (rows:=[[G,fo]]) aa) ao ae bN bN ?_))));obtain⟨hrs26,XR,XS,Jz⟩:=Mr (by assumption:A=[]∨(L≠[]∧nI A mZ L.length)) (fun h=>absurd (congrArg List.length h) ME);have JA:=N4 (mN Z Jz);obtain⟨zp,BM,Wk⟩:∃j:Nat,((A.length:Int) -1)=(j:Int)∧j=A.length-1:=⟨_,ah,rfl⟩;have yO:A[zp]?=some [XR,.raw mZ L.length 2,XS]:=by rw[Wk];exact Jz
  have yL:zp<A.length:=by omega
  refine aR (cX rfl (by rw[←BM];rfl) yL ?_);refine nM 47 aa (fun XT=>?_);refine ry 47 47 aa aa bB bB (rq 1 aa (gK aa (fZ aa aa aa aa aa aa ao ao yO (fun nD Wl Ok=>?_))));have yH:af (xM X m) nD:=by rw[Wl];exact e8 Z (aj JA.1 (aj (bA (qL.raw mu)) (aj JA.2.2 bg)))
  rw[←Ok];refine rq 6 aa ?_;obtain⟨XU,JB,ED⟩:=bz (z:=((nD.length:Int) -1)) (n:=nD.length) ae ae;obtain⟨Il,va,vw,hx29_1,Un,S4,nj⟩:=qN ED yH;refine aR (cX rfl (by rw[←JB];rfl) ED ?_);refine rq 1 aa (aP aa (eX (rows:=nD) aa aa nj aa ?_));refine rq 2 aa (aP aa (ay aa (xz (X:=X) F S4 Y ae) ?_));rintro _ _⟨AZ,rfl,SJ⟩;obtain⟨XV,JC,EE⟩:=bz (z:=((nD.length:Int) -1)) (n:=nD.length) ae ae;obtain⟨x31_0,SR,x31_1,aeJ,x31_2,hx31_2,Wm⟩:=qN EE yH;refine aR (cX rfl (by rw[←JC];rfl) EE ?_);refine rq 1 aa (gK aa (fZ aa aa aa aa aa aa ao ao Wm (fun Fg Wo Ox=>?_)));have Wp:af (xM X m) Fg:=by rw[Wo];exact e8 yH (aj SR (aj aeJ (aj SJ bg)))
  rw[←Ox];refine rq 2 aa (ax (bC aa aa ae ae ?_));refine cW 2 aa ?_;exact⟨((fg.length:Int) -((I+1))).toNat,ae,(I+1),Fg,XT,(L++[[G,fo]]),⟨rfl,rfl,rfl,rfl,rfl,trivial⟩,⟨rfl,rfl,trivial⟩,rfl,ae,ae,Wp,cJ,(dC Rf (dr (aj (aM M ae O) (aj Y bg)))),(by first|exact .inl rfl|exact .inr ⟨(by simp),nI.step (by assumption) (by assumption) (by assumption) (by first|omega|(simp;omega)) (by first|omega|(simp;omega))⟩)⟩
 exact rc 6 aa (cf 2 90 aa aa (fun _=>⟨aa,aa⟩) (W))
theorem DistinctM{T:aN}(F:FT T){X:List Int}{m:Nat}{a0:DC}{O:ak}(cr:aA O a0)(cK:O.length≤1000000)(bM:af (dK X m) O)(hX:X.length≤2000000)(hm:m≤100000000):Sound T 233 [.d a0] fun r=>∃y0 L,r= .d y0∧aA L y0∧(L.length:Int)≤O.length∧af (dK X m) L∧0≤(L.length:Int)∧(L=[]→y0= .nil):=by
 refine bj F.aiy aa (bY 12 aa (ay aa (ahd (X:=X) (m:=m) F cr ae bM ae ae) ?_));rintro _ _⟨ez,M,rfl,G,jE,U,lu,mT⟩;refine ax (aO aa G ?_);refine ro 3 aa (dh 3 90 82 48 2 aa aa (bd [8,7,2,0] [] aa aa (fun e0 b0 k VE B=>∃z A,an ((3,.ac 90 A.length 2)::(9,.d (dJ z))::e0) VE∧an ((90,.acc 82 48 2 A)::b0) B∧k=((M.length:Int) -z).toNat∧(0≤z∧(z≤(M.length:Int)∨z=0))∧((A.length:Int)≤z)∧(af (dK X m) A)) ?_ fin));rintro _ VE B⟨z,A,hV,hB,rfl,bS,cM,xo⟩;refine aU _ _ hV hB (rc 5 aa ?_);refine au aa ?_ ?_<;>intro g2
 ·refine rc 5 aa ?_;obtain⟨Y,⟨Iu,xw,G7,xx⟩,ud,tE,Z,qz,fD⟩:=qI z U;refine ax (aI aa aa G ae fD aa ?_);refine ro 5 aa ?_;obtain⟨agp,hdx3_2,I⟩:=Ty.bA qz;have hrx3_2:=I.1;have adZ:=cw.len I;refine rp 7 aa ?_;refine ax (aX (rows:=A) (ys:=[[Y,Z]]) rfl rfl rfl (.bs (rows:=[[Y,Z]]) rfl) ao ae (fun h=>by rw[h];rfl) (fun h=>by rw[h];rfl) ?_);exact W
 exact rc 6 aa (cf 2 90 aa aa (fun _=>⟨aa,aa⟩) (W))
theorem ae1{T:aN}(F:FT T){X:List Int}{m:Nat}{a0 a1:DC}{A:ak}(M:aA A a0)(cK:A.length≤1000000000)(Z:af (dK X m) A){O:ak}(cN:aA O a1)(df:O.length≤1000000000)(cb:af cC O)(hX:X.length≤2000000)(hm:m≤100000000):Sound T 521 [.d a0,.d a1] fun r=>∃y0,r= .d y0∧(Ty.q (fb X)).ok y0:=by
 refine bj F.q521 aa (bY 12 aa (aO aa M ?_));refine ro 3 aa (bd [9,8,4,1,0] [] aa aa (fun e0 b0 k VE B=>∃G z,an ((5,.d G)::(10,.d (dJ z))::e0) VE∧an b0 B∧k=((A.length:Int) -z).toNat∧((Ty.q (fb X)).ok G)∧(0≤z∧(z≤(A.length:Int)∨z=0))) ?_ (k:=((A.length:Int) -0).toNat) ⟨.nil,0,⟨aa,aa,aa,aa,aa,aa,aa,trivial⟩,trivial,aa,(bA fb.nil),ae⟩);rintro _ VE B⟨G,z,hV,hB,rfl,U,cM⟩;refine aU _ _ hV hB (rc 5 aa ?_);refine au aa ?_ ?_<;>intro g1
 ·refine rc 5 aa ?_;obtain⟨gW,⟨qy,I,xr,L⟩,fP,Y,bQ⟩:=qI z Z;refine ax (aI aa aa M ae bQ aa ?_);refine aK 9 aa (ay aa (xQ F (aM I ae L) (aM cN ae cb)) ?_);rintro _ _⟨_,rfl,zy3_0,rfl,aeZ,ae0⟩;refine ro 2 aa ?_;refine au aa ?_ ?_<;>intro g4
  ·refine aB 4 aa (ay aa (xz (X:=X) F U Y ae) ?_);rintro _ _⟨gV,rfl,rK⟩;exact W
  exact W
 exact W
theorem ahe{T:aN}(F:FT T){X:List Int}{m:Nat}{a0 a1 a2:DC}{bP:ak}(cr:aA bP a0)(cK:bP.length≤4096)(bM:af (dK X m) bP){bL:ak}(cN:aA bL a1)(df:bL.length≤4096)(cb:af (dK X m) bL)(cG:(Ty.b).ok a2)(hX:X.length≤2000000)(hm:m≤100000000):Sound T 427 [.d a0,.d a1,.d a2] fun r=>∃y0 bu,r= .d y0∧aA bu y0∧(bu.length:Int)≤5000000000∧af (dK X m) bu:=by
 refine bj F.q427 aa ?_;obtain⟨ba2,rfl⟩:=cG;refine bY 12 aa (ay aa (ahd (X:=X) (m:=m) F cr ae bM ae ae) ?_);rintro _ _⟨ez,Y,rfl,Z,jE,fy,lu,mT⟩;refine ax (aO aa Z ?_);refine ro 3 aa (dh 7 90 82 48 2 aa aa (bd [17,16,6,2,1,0] [] aa aa (fun e0 b0 k VE B=>∃A M,an ((7,.ac 90 M.length 2)::(18,.d (dJ A))::e0) VE∧an ((90,.acc 82 48 2 M)::b0) B∧k=((Y.length:Int) -A).toNat∧(0≤A∧(A≤(Y.length:Int)∨A=0))∧((M.length:Int)≤A*1000002)∧(af (dK X m) M)) ?_ (k:=((Y.length:Int) -0).toNat) ⟨0,[],⟨aa,aa,aa,aa,aa,aa,aa,aa,trivial⟩,⟨aa,trivial⟩,aa,ae,cJ,bT⟩));rintro _ VE B⟨A,M,hV,hB,rfl,bS,cM,GU⟩;refine aU _ _ hV hB (rc 5 aa ?_);refine au aa ?_ ?_<;>intro g2
 ·refine rc 5 aa ?_;obtain⟨pz,⟨Iu,I,G7,L⟩,ud,tE,Eu,qz,fD⟩:=qI A fy;refine ax (aI aa aa Z ae fD aa ?_);refine ro 8 aa (aR (abe aa (Ty.bA tE) (fun z4 hz4 kz4=>?_)));refine rq 3 aa (aP aa (ay aa (multM (X:=X) (m:=m) F cN ae cb I ae L ae ae) ?_));rintro _ _⟨_,rfl,zy5_0,rfl,hzy5_0,kzy5_0⟩;refine rq 5 aa (gz 2 aa (zP aa aa (fun z6 hz6=>?_)));refine ro 7 aa ?_;refine cH aa ?_ ?_<;>intro h7
  ·refine aB 3 aa (dq aa aa ae ae ?_);refine ax (pZ aa aa (fun z8 Xe=>?_));refine ro 9 aa (aP aa (ay aa (ae1 (X:=X) (m:=m) F cN ae cb I ae L ae ae) ?_));rintro _ _⟨Jg,rfl,MX⟩;refine aP aa (ay aa (xz (X:=X) F qz MX ae) ?_);rintro _ _⟨mg,rfl,Ae⟩;refine rq 7 aa (bd [32,19,18,17,16,13,12,11,10,9,6,2,1,0] [9] aa aa (fun e0 b0 k VE B=>∃z G,an ((7,.ac 90 G.length 2)::(14,.d (dJ z))::e0) VE∧an ((90,.acc 82 48 2 G)::b0) B∧k=((z8:Int) -z).toNat∧(0≤z∧(z≤z8∨z=0))∧((G.length:Int)≤A*1000002+z)∧(af (dK X m) G)) ?_ fin);rintro _ VE B⟨z,G,hV,hB,rfl,eU,fO,RY⟩;refine aU _ _ hV hB (rc 7 aa ?_);refine au aa ?_ ?_<;>intro ld
   ·refine rc 4 aa ?_;obtain⟨Al,CA,O⟩:=Ty.bA Ae;have CC:=O.1;have CB:=cw.len O;refine rp 6 aa ?_;refine ax (aX (rows:=G) (ys:=[[pz,mg]]) rfl rfl rfl (.bs (rows:=[[pz,mg]]) rfl) ao ae (fun h=>by rw[h];rfl) (fun h=>by rw[h];rfl) ?_);exact W
   exact W
  refine rc 8 aa (aP aa (ay aa (ae1 (X:=X) (m:=m) F cN ae cb I ae L ae ae) ?_));rintro _ _⟨DI,rfl,GW⟩;refine aP aa (ay aa (xz (X:=X) F qz GW ae) ?_);rintro _ _⟨vt,rfl,LY⟩;refine rq 7 aa (bd [32,19,18,17,16,13,12,11,10,9,6,2,1,0] [9] aa aa (fun e0 b0 k VE B=>∃z G,an ((7,.ac 90 G.length 2)::(14,.d (dJ z))::e0) VE∧an ((90,.acc 82 48 2 G)::b0) B∧k=((z6:Int) -z).toNat∧(0≤z∧(z≤z6∨z=0))∧((G.length:Int)≤A*1000002+z)∧(af (dK X m) G)) ?_ fin);rintro _ VE B⟨z,G,hV,hB,rfl,eU,fO,RY⟩;refine aU _ _ hV hB (rc 7 aa ?_);refine au aa ?_ ?_<;>intro B7
  ·refine rc 4 aa ?_;obtain⟨aeA,abK,U⟩:=Ty.bA LY;have abM:=U.1;have abL:=cw.len U;refine rp 6 aa ?_;refine ax (aX (rows:=G) (ys:=[[pz,vt]]) rfl rfl rfl (.bs (rows:=[[pz,vt]]) rfl) ao ae (fun h=>by rw[h];rfl) (fun h=>by rw[h];rfl) ?_);exact W
  exact W
 exact rc 6 aa (cf 6 90 aa aa (fun _=>⟨aa,aa⟩) (W))
theorem ExceptM{T:aN}(F:FT T){X:List Int}{m:Nat}{a0 a1:DC}{z:ak}(I:aA z a0)(cK:z.length≤4096)(L:af (dK X m) z){A:ak}(M:aA A a1)(df:A.length≤4096)(O:af (dK X m) A)(hX:X.length≤2000000)(hm:m≤100000000):Sound T 331 [.d a0,.d a1] fun r=>∃y0 G,r= .d y0∧aA G y0∧(G.length:Int)≤5000000000∧af (dK X m) G:=by
 refine bj F.q331 aa (bY 8 aa (ay aa (ahe (X:=X) (m:=m) F I ae L M ae O dY ae ae) ?_));rintro _ _⟨ez,fg,rfl,U,Y,Z⟩;exact W
theorem InterM{T:aN}(F:FT T){X:List Int}{m:Nat}{a0 a1:DC}{z:ak}(I:aA z a0)(cK:z.length≤4096)(L:af (dK X m) z){A:ak}(M:aA A a1)(df:A.length≤4096)(O:af (dK X m) A)(hX:X.length≤2000000)(hm:m≤100000000):Sound T 332 [.d a0,.d a1] fun r=>∃y0 G,r= .d y0∧aA G y0∧(G.length:Int)≤5000000000∧af (dK X m) G:=by
 refine bj F.q332 aa (bY 8 aa (ay aa (ahe (X:=X) (m:=m) F I ae L M ae O dY ae ae) ?_));rintro _ _⟨ez,fg,rfl,U,Y,Z⟩;exact W
theorem AggM{T:aN}(F:FT T){a0 a1:DC}(cU:tJ.ok a0){Y:ak}(U:aA Y a1)(df:Y.length≤1000000000)(Z:af cC Y):Sound T 428 [.d a0,.d a1] fun r=>∃y0 y1 y2,r= .agg [.d y0,.d y1,.d y2]∧tJ.ok y0∧tJ.ok y1∧(Ty.s 1000).ok y2:=by
 refine bj F.q428 aa ?_;obtain⟨aE,rfl,iU,iV⟩:=cU;refine r0 15 aa ?_;refine au aa ?_ ?_<;>intro h1
 ·exact W
 refine rc 5 aa ?_;refine au aa ?_ ?_<;>intro g2
 ·refine aB 3 aa (ay aa (sumC F U ae Z) ?_);rintro _ _⟨jL,Ey,I5,rfl,mj,M1,Iv⟩;exact W
 refine rc 6 aa ?_;refine au aa ?_ ?_<;>intro g4
 ·refine rc 1 aa (eG aa aa (aB 8 aa (aO aa U ?_)));refine ro 3 aa (bd [23,22,19,15,10,9,5,4,1,0] [4] aa aa (fun e0 b0 k VE B=>∃z A G I,an ((24,.d (dJ z))::e0) VE∧an ((5,.one 121 32 [.d A,.d G,.d I])::b0) B∧k=((Y.length:Int) -z).toNat∧(0≤z∧(z≤(Y.length:Int)∨z=0))∧(tJ.ok A)∧(tJ.ok G)∧((Ty.s 1000).ok I)) ?_ fin);rintro _ VE B⟨z,A,G,I,hV,hB,rfl,bS,L,M,O⟩;refine aU _ _ hV hB (rc 5 aa ?_);refine au aa ?_ ?_<;>intro g5
  ·refine rc 5 aa ?_;obtain⟨Jl,AV,BC,xV,V6,Nb,e7⟩:=qI z Z;refine ax (aI aa aa U ae e7 aa ?_);refine aK 8 aa (ay aa (HZ F AV xV Nb L M O) ?_);rintro _ _⟨qS,rfl,n6⟩;exact W
  exact W
 refine rc 4 aa ?_;refine au aa ?_ ?_<;>intro nB
 ·refine aB 8 aa (aO aa U ?_);refine ro 3 aa (bd [23,22,19,15,10,9,5,4,1,0] [4] aa aa (fun e0 b0 k VE B=>∃z A G I,an ((24,.d (dJ z))::e0) VE∧an ((5,.one 121 32 [.d A,.d G,.d I])::b0) B∧k=((Y.length:Int) -z).toNat∧(0≤z∧(z≤(Y.length:Int)∨z=0))∧(tJ.ok A)∧(tJ.ok G)∧((Ty.s 1000).ok I)) ?_ fin);rintro _ VE B⟨z,A,G,I,hV,hB,rfl,bS,L,M,O⟩;refine aU _ _ hV hB (rc 5 aa ?_);refine au aa ?_ ?_<;>intro sN
  ·refine rc 5 aa ?_;obtain⟨agv,Su,agL,Sx,agM,Sy,nh⟩:=qI z Z;refine ax (aI aa aa U ae nh aa ?_);refine aK 8 aa (ay aa (HZ F Su Sx Sy L M O) ?_);rintro _ _⟨DG,rfl,aee⟩;exact W
  exact W
 exact W
end Go.Ev.Rp
namespace Go.Ev.Rp
open Go Go.Ev.Pp
attribute [local irreducible] VC VO VQ VI Sound cm
theorem BP{T:aN}(F:FT T){aE:Int}(A:(-9223372036854775808)≤aE)(G:aE≤9223372036854775807):Sound T 325 [.d (dJ aE)] fun r=>∃z,r=dB z∧(z=true↔(4≤aE∧aE≤8)):=by
 refine bj F.q325 aa (r0 9 aa ?_);refine bm aa ?_ ?_<;>intro I
 ·exact et 18 aa (bI aa aa ⟨true,aa,IY⟩)
 refine ro 4 aa ?_;refine bm aa ?_ ?_<;>intro L
 ·exact et 14 aa (bI aa aa ⟨true,aa,IY⟩)
 refine ro 4 aa ?_;refine bm aa ?_ ?_<;>intro M
 ·exact et 10 aa (bI aa aa ⟨true,aa,IY⟩)
 refine ro 4 aa ?_;refine bm aa ?_ ?_<;>intro O
 ·exact et 6 aa (bI aa aa ⟨true,aa,IY⟩)
 exact et 6 aa (bI aa aa ⟨decide (aE=8),aa,IY⟩)
theorem CI{T:aN}(F:FT T){a0 a1:DC}{M:ak}(G:aA M a0)(cK:M.length≤64)(bM:af br M){Y:ak}(L:aA Y a1)(df:Y.length≤64)(cb:af br Y):Sound T 518 [.d a0,.d a1] fun r=>∃y0 Z y2,r= .tuple [.d y0,.d y2]∧aA Z y0∧(Z.length:Int)≤64∧af br Z∧(Ty.b).ok y2:=by
 refine bj F.q518 aa (bY 9 aa (aO aa G ?_));refine aK 1 aa (aO aa L ?_);refine ro 2 aa ?_;refine au aa ?_ ?_<;>intro h1
 ·exact W
 refine rc 11 aa (dh 6 90 3 8 1 aa aa (bd [12,5,4,1,0] [] aa aa (fun e0 b0 k VE B=>∃z A,an ((6,.ac 90 A.length 1)::(7,.d (dJ z))::e0) VE∧an ((90,.acc 3 8 1 A)::b0) B∧k=((M.length:Int) -z).toNat∧(0≤z∧(z≤(M.length:Int)∨z=0))∧((A.length:Int)≤z)∧(af br A)) ?_ fin));rintro _ VE B⟨z,A,hV,hB,rfl,bS,cM,hrw6_0⟩;refine aU _ _ hV hB (aB 5 aa (aO aa G ?_));refine ro 2 aa ?_;refine au aa ?_ ?_<;>intro g2
 ·refine rc 8 aa ?_;obtain⟨_,⟨I,rfl,GG,CW⟩,U⟩:=qI z bM;refine aR (aI aa aa G ae U aa ?_);refine cD aa aa (dx aa aa ?_);refine rq 2 aa ?_;obtain⟨_,⟨O,rfl,qc,qd⟩,cY⟩:=qI z cb;refine aR (aI aa aa L ae cY aa ?_);refine cD aa aa (dx aa aa ?_);refine rq 2 aa ?_;refine dw aa ?_ ?_<;>intro g5
  ·refine rq 8 aa (eG aa aa (aB 4 aa (aI aa aa G ae U aa ?_)));refine ro 2 aa ?_;refine ax (aX (rows:=A) (ys:=[[(dJ I)]]) rfl rfl rfl (.bs (rows:=[[(dJ I)]]) rfl) ao ae (fun h=>by rw[h];rfl) (fun h=>by rw[h];rfl) ?_);exact W
  refine rq 2 aa (ca aa aa (aI aa aa L ae cY aa ?_));refine rq 5 aa ?_;refine au aa ?_ ?_<;>intro g6
  ·refine aB 4 aa (aI aa aa G ae U aa ?_);refine ro 2 aa ?_;refine ax (aX (rows:=A) (ys:=[[(dJ I)]]) rfl rfl rfl (.bs (rows:=[[(dJ I)]]) rfl) ao ae (fun h=>by rw[h];rfl) (fun h=>by rw[h];rfl) ?_);exact W
  refine aB 4 aa (aI aa aa G ae U aa ?_);refine ro 4 aa ?_;refine au aa ?_ ?_<;>intro g7
  ·refine aB 4 aa (aI aa aa L ae cY aa ?_);refine ro 2 aa ?_;refine ax (aX (rows:=A) (ys:=[[(dJ O)]]) rfl rfl rfl (.bs (rows:=[[(dJ O)]]) rfl) ao ae (fun h=>by rw[h];rfl) (fun h=>by rw[h];rfl) ?_);exact W
  exact W
 exact rc 7 aa (cf 4 90 aa aa (fun _=>⟨aa,aa⟩) (W))
end Go.Ev.Rp
namespace Go.Ev.Rp
open Go Go.Ev.Pp
attribute [local irreducible] VC VO VQ VI Sound cm
theorem ProjC{T:aN}(F:FT T){a0 a1 a2 a3:DC}(cU:tJ.ok a0)(bW:tJ.ok a1)(cG:(Ty.l 13 mw).ok a2){Y:ak}(O:aA Y a3)(fI:Y.length≤1000000000)(eA:af cC Y):Sound T 68 [.agg [.d a0,.d a1,.d a2],.d a3] fun r=>∃y0 G,r= .d y0∧aA G y0∧(G.length:Int)≤13∧af cC G∧0≤(G.length:Int)∧(G=[]→y0= .nil):=by
 refine bj F.q68 aa ?_;rcases cU,bW,cG with⟨⟨aE,rfl,iU,iV⟩,⟨aJ,rfl,eC,eg⟩,⟨bt,U,dc,bV⟩⟩
 refine r0 15 aa (dh 5 90 121 32 3 aa aa (bd [4,2,1,0] [2] aa aa (fun e0 b0 k VE B=>∃z A,an ((5,.ac 90 A.length 3)::(6,.d (dJ z))::e0) VE∧an ((90,.acc 121 32 3 A)::b0) B∧k=((bt.length:Int) -z).toNat∧(0≤z∧(z≤(bt.length:Int)∨z=0))∧((A.length:Int)≤z)∧(af cC A)) ?_ fin));rintro _ VE B⟨z,A,hV,hB,rfl,bS,cM,nO⟩;refine aU _ _ hV hB (aB 6 aa (aO aa U ?_));refine ro 2 aa ?_;refine au aa ?_ ?_<;>intro g1
 ·refine rc 8 aa ?_;obtain⟨_,⟨Z,rfl,qe,rB⟩,fP,jf,gb,iS,bQ⟩:=qI z bV;refine ax (aI aa aa U ae bQ aa ?_);refine ro 6 aa (rp 3 aa ?_);refine bm aa ?_ ?_<;>intro g3
  ·refine ro 2 aa (bJ aa aa (aO aa O ?_));refine ro 3 aa ?_;refine au aa ?_ ?_<;>intro g4
   ·refine aB 4 aa (dq aa aa ae ae ?_);obtain⟨_,⟨I,rfl,xj,xk⟩,_,⟨L,rfl,CX,CY⟩,_,⟨M,rfl,hsx5_2⟩,eW⟩:=qI (Z-1) eA;refine ax (aI aa aa O ae eW aa ?_);refine ro 2 aa ?_;refine ax (aX (rows:=A) (ys:=[[(dJ I),(dJ L),(aq M)]]) rfl rfl rfl (.bs (rows:=[[(dJ I),(dJ L),(aq M)]]) rfl) ao ae (fun h=>by rw[h];rfl) (fun h=>by rw[h];rfl) ?_);exact W
   refine rc 4 aa ?_;refine ax (aX (rows:=A) (ys:=[[i0,i0,(aq [])]]) rfl rfl rfl (.bs (rows:=[[i0,i0,(aq [])]]) rfl) ao ae (fun h=>by rw[h];rfl) (fun h=>by rw[h];rfl) ?_);exact W
  refine ro 6 aa (eo aa aa (rc 4 aa ?_));refine ax (aX (rows:=A) (ys:=[[i0,i0,(aq [])]]) rfl rfl rfl (.bs (rows:=[[i0,i0,(aq [])]]) rfl) ao ae (fun h=>by rw[h];rfl) (fun h=>by rw[h];rfl) ?_);exact W
 exact rc 6 aa (cf 4 90 aa aa (fun _=>⟨aa,aa⟩) (W))
theorem hpC{T:aN}(F:FT T){A:DC}(z:tJ.ok A):Sound T 516 [.d A] fun r=>∃G,r= .d G∧(Ty.b).ok G:=by
 refine bj F.q516 aa ?_;obtain⟨aE,rfl,I,L⟩:=z;exact W
theorem Pn{T:aN}(F:FT T){A:DC}(z:tJ.ok A):Sound T 517 [.d A] fun r=>∃G,r= .d G∧(Ty.b).ok G:=by
 refine bj F.q517 aa ?_;obtain⟨aE,rfl,I,L⟩:=z;exact W
end Go.Ev.Rp
