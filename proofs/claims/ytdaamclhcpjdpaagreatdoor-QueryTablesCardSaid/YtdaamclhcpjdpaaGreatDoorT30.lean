/- Part 30 of rules for walks through the code of a program, and of such walks; what each part proves is said by its theorems. -/
import Derived.Test.YtdaamclhcpjdpaaGreatDoorT21
import Derived.Test.YtdaamclhcpjdpaaGreatDoorT22
import Derived.Test.YtdaamclhcpjdpaaGreatDoorT28
import Derived.Test.YtdaamclhcpjdpaaGreatDoorT29
set_option linter.unusedVariables false
set_option linter.unusedSimpArgs false
noncomputable section
set_option maxRecDepth 100000
set_option maxHeartbeats 4000000
namespace Go.Ev.Rp
open Go Go.Ev.Pp
attribute [local irreducible] VC VO VQ VI Sound cF
theorem checkC{T:aO}(F:FT T){a0 a2:DC}{bV:aj}(cg:ao bV a0)(cI:bV.length≤200)(bJ:af eB bV){aH:Int}(jE:0≤aH)(jF:aH≤(bV.length:Int) -1){bu:aj}(cu:ao bu a2)(cX:bu.length≤1000000000)(bS:af bc bu){A:aj}(U:af eC A)(hma3:aH+1≤(A.length:Int)):cF T 434 [.d a0,.d (dJ aH),.d a2,.bs 1004 A.length 2] [(1004,.arr 589 16 2 A.length A)] fun r B=>∃y0 y1,r= .agg [.d y0,.d y1]∧B=[(1004,.arr 589 16 2 A.length A)]∧tJ.ok y0∧tJ.ok y1:=by
 refine pP F.q434 aa (r0 8 aa ?_);obtain⟨_,⟨G,rfl,Mm,Mn⟩,_,⟨M,rfl,SR,SS⟩,_,⟨O,rfl,SU,SV⟩,_,⟨Y,rfl,hzx1_3,kzx1_3⟩,Wz,UD,Jp,D',WA,agL,nC⟩:=qI aH bJ;refine aw (aF aa aa cg ae nC aa ?_);refine aJ 8 aa (aA aa (M' (aK:=G) F ae ae) ?_);rintro _ _⟨jV,rfl,D0⟩;refine ro 2 aa (dE [10,9,8,3,2,1,0] [1004,9,8] aa aa (fun e0 b0 VE B=>an e0 VE∧an b0 B) ?_ ?_)
 ·refine rc 5 aa ?_;refine bk aa ?_ ?_<;>intro h3
  ·exact W
  refine ro 4 aa ?_;refine bk aa ?_ ?_<;>intro g4
  ·refine ro 2 aa (bw aa aa (aA aa (aei F UD D' agL) ?_));rintro _ _⟨gM,rfl,kS⟩;exact W
  exact W
 rintro VE B⟨hV,hB⟩;refine aS _ _ hV hB (dE [10,9,8,3,2,1,0] [1004,9,8] aa aa (fun e0 b0 VE B=>an e0 VE∧an b0 B∧(((G=10∨G=11∨(3≤G∧G≤9))→0≤M∧M<aH)∧((3≤G∧G≤9)→0≤O∧O<aH)∧(G=2→0≤Y∧Y<bu.length))) ?_ ?_)
 ·refine aB 4 aa (aA aa (aej (aH:=aH) F cg ae bJ ae ae nC) ?_);rintro _ _⟨nf,rfl,qm⟩;exact W
 rintro VE B⟨hV,hB,agM⟩;refine aS _ _ hV hB (rc 5 aa (dE [12,10,9,8,3,2,1,0] [1004,9,8] aa aa (fun e0 b0 VE B=>∃I,an ((11,.d (dJ I))::e0) VE∧an b0 B∧(-9223372036854775808≤I∧I≤9223372036854775807)) ?_ ?_))
 ·refine rc 5 aa ?_;refine ax aa ?_ ?_<;>intro zR
  ·refine rc 6 aa ?_;obtain⟨Fv,B6,Z⟩:=bF (z:=M) (n:=A.length) ae ae;obtain⟨ql,nP,_,⟨zx13_1,rfl,hzx13_1,kzx13_1⟩,lQ⟩:=qN Z U;refine aw (fb rfl (by rw[←B6];rfl) Z ?_);refine aJ 1 aa (jK (rows:=A) aa aa (bt _) (bt _) Z lQ aa ?_);refine ro 2 aa ?_;refine ax aa ?_ ?_<;>intro CD
   ·refine rc 5 aa ?_;obtain⟨X3,Jq,B7⟩:=bF (z:=M) (n:=A.length) ae ae;obtain⟨Il,Mo,D9,G4,B5⟩:=qN B7 U;refine aw (fb rfl (by rw[←Jq];rfl) B7 ?_);refine aJ 1 aa (jK (rows:=A) aa aa (bt _) (bt _) B7 B5 aa ?_);exact dR 4 aa (I6)
   refine rc 5 aa ?_;obtain⟨l5,rV,ud⟩:=bF (z:=M) (n:=A.length) ae ae;obtain⟨_,⟨zx16_0,rfl,hzx16_0,kzx16_0⟩,Bt,SW,B4⟩:=qN ud U;refine aw (fb rfl (by rw[←rV];rfl) ud ?_);refine aJ 1 aa (jK (rows:=A) aa aa (bt _) (bt _) ud B4 aa ?_);exact ro 2 aa (fin)
  exact W
 rintro VE B⟨I,hV,hB,fj2_0⟩;refine aS _ _ hV hB (dE [11,10,9,8,3,2,1,0] [1004,9,8] aa aa (fun e0 b0 VE B=>∃L,an ((12,.d (dJ L))::e0) VE∧an b0 B∧(-9223372036854775808≤L∧L≤9223372036854775807)) ?_ ?_)
 ·refine rc 5 aa ?_;refine ax aa ?_ ?_<;>intro su
  ·refine rc 6 aa ?_;obtain⟨pM,rW,rX⟩:=bF (z:=O) (n:=A.length) ae ae;obtain⟨agN,SX,_,⟨zx18_1,rfl,hzx18_1,kzx18_1⟩,ni⟩:=qN rX U;refine aw (fb rfl (by rw[←rW];rfl) rX ?_);refine aJ 1 aa (jK (rows:=A) aa aa (bt _) (bt _) rX ni aa ?_);refine ro 2 aa ?_;refine ax aa ?_ ?_<;>intro X4
   ·refine rc 5 aa ?_;obtain⟨CJ,wt,qG⟩:=bF (z:=O) (n:=A.length) ae ae;obtain⟨Ng,G5,agO,aeA,mD⟩:=qN qG U;refine aw (fb rfl (by rw[←wt];rfl) qG ?_);refine aJ 1 aa (jK (rows:=A) aa aa (bt _) (bt _) qG mD aa ?_);exact dR 4 aa (I6)
   refine rc 5 aa ?_;obtain⟨mL,pr,lP⟩:=bF (z:=O) (n:=A.length) ae ae;obtain⟨_,⟨zx21_0,rfl,hzx21_0,kzx21_0⟩,tn,AZ,lR⟩:=qN lP U;refine aw (fb rfl (by rw[←pr];rfl) lP ?_);refine aJ 1 aa (jK (rows:=A) aa aa (bt _) (bt _) lP lR aa ?_);exact ro 2 aa (fin)
  exact W
 rintro VE B⟨L,hV,hB,UC⟩;refine aS _ _ hV hB (rc 12 aa ?_);refine ax aa ?_ ?_<;>intro XX
 ·exact W
 refine rc 5 aa ?_;refine ax aa ?_ ?_<;>intro Pn
 ·exact W
 refine rc 6 aa ?_;refine ax aa ?_ ?_<;>intro Pd
 ·refine rc 1 aa (eM aa aa (aB 4 aa (aA aa (rH F ai ai) ?_)));rintro _ _⟨_,rfl,aex,rfl⟩;refine ro 2 aa ?_;refine bk aa ?_ ?_<;>intro h27
  ·exact W
  refine ro 1 aa (bw aa aa (aA aa (rH F ai ai) ?_));rintro _ _⟨Im,rfl,aeB⟩;exact W
 refine rc 5 aa ?_;refine ax aa ?_ ?_<;>intro g30
 ·refine rc 1 aa (eM aa aa (aB 4 aa (aA aa (rH F ai ai) ?_)));rintro _ _⟨_,rfl,by31_0,rfl⟩;refine ro 2 aa ?_;refine bk aa ?_ ?_<;>intro h32
  ·exact W
  refine ro 1 aa (bw aa aa (aA aa (rH F ai ai) ?_));rintro _ _⟨agP,rfl,hy33_0⟩;exact W
 refine rc 4 aa ?_;refine ax aa ?_ ?_<;>intro X5
 ·refine aB 4 aa (aA aa (rH F ai ai) ?_);rintro _ _⟨_,rfl,by36_0,rfl⟩;refine ro 2 aa ?_;refine bk aa ?_ ?_<;>intro XZ
  ·exact W
  refine ro 1 aa (bw aa aa (aA aa (rH F ai ai) ?_));rintro _ _⟨agQ,rfl,hy38_0⟩;exact W
 refine rc 6 aa ?_;refine ax aa ?_ ?_<;>intro h40
 ·exact W
 refine rc 4 aa ?_;refine ax aa ?_ ?_<;>intro CC
 ·exact W
 refine rc 6 aa ?_;refine ax aa ?_ ?_<;>intro g48
 ·refine rc 1 aa (eM aa aa (aB 3 aa (aA aa (rH F ai ai) ?_)));rintro _ _⟨_,rfl,by49_0,rfl⟩;refine ro 2 aa ?_;refine bk aa ?_ ?_<;>intro h50
  ·exact W
  refine ro 1 aa (bw aa aa (aA aa (rH F ai ai) ?_));rintro _ _⟨y51_0,rfl,hy51_0⟩;exact W
 refine rc 4 aa ?_;refine ax aa ?_ ?_<;>intro X6
 ·refine aB 3 aa (aA aa (rH F ai ai) ?_);rintro _ _⟨_,rfl,by54_0,rfl⟩;refine ro 2 aa ?_;refine bk aa ?_ ?_<;>intro h55
  ·exact W
  refine ro 1 aa (bw aa aa (aA aa (rH F ai ai) ?_));rintro _ _⟨agR,rfl,hy56_0⟩;exact W
 refine rc 5 aa ?_;refine ax aa ?_ ?_<;>intro g58
 ·refine aB 3 aa (aA aa (rH F ai ai) ?_);rintro _ _⟨y59_0,rfl,hy59_0⟩;exact W
 exact W
theorem A0{T:aO}(F:FT T){a0 a1 a2:DC}{Y:aj}(M:ao Y a0)(cI:Y.length≤1000000000)(bJ:af eB Y)(bX:tJ.ok a1){Z:aj}(cu:ao Z a2)(cX:Z.length≤1000000000)(bS:af bc Z):Sound T 346 [.d a0,.d a1,.d a2] fun r=>∃y0 y1,r= .tuple [.d y0,.d y1]∧tJ.ok y0∧tJ.ok y1:=by
 refine bg F.q346 aa ?_;obtain⟨aH,rfl,ey,dW⟩:=bX;refine cf 9 aa (aM aa M ?_);refine ro 2 aa ?_;refine ax aa ?_ ?_<;>intro h1
 ·exact W
 refine rc 7 aa ?_;refine bk aa ?_ ?_<;>intro h2
 ·exact W
 refine ro 2 aa (bw aa aa (aM aa M ?_));refine ro 3 aa ?_;refine ax aa ?_ ?_<;>intro h3
 ·exact W
 refine aB 4 aa (bB aa aa ae ae ?_);obtain⟨n4,iA⟩:∃n:Nat,(aH+1)=n:=⟨((aH+1)).toNat,(vl ae).symm⟩;refine aw (Aw (n:=n4) 23 rfl rfl rfl rfl rfl (by rw[←iA];rfl) (by rw[←iA];rfl) ae ae (fun w4 X7 hl4=>?_));have hb4:af eC w4:=by subst X7;exact Au (ah ai (ah ai bf))
 refine ro 8 aa (bd [20,12,7,6,2,1,0] [] aa aa (fun e0 b0 k VE B=>∃I L A,an ((8,.bs 23 L 2)::(9,.d (dJ I))::e0) VE∧an ((23,.arr 589 16 2 L A)::b0) B∧k=(((aH+1):Int) -I).toNat∧(0≤I∧(I≤(aH+1)∨I=0))∧(A.length=L)∧(L=w4.length)∧(af eC A)) ?_ fin);rintro _ VE B⟨I,L,A,hV,hB,rfl,bR,rfl,rQ,G⟩;refine aS _ _ hV hB (rc 7 aa ?_);refine ax aa ?_ ?_<;>intro g5
 ·refine aB 10 aa (sJ (dV:=[.d a0,.d (dJ I),.d a2,.bs 1004 (A.length) 2]) (Bi:=[(1004,.arr 589 16 2 (A.length) A)]) [(1004,23)] 2000 aa aa aa aa aa aa aa ⟨aa,aa,trivial⟩ (checkC (aH:=I) F M ae bJ ae ae cu ae bS G ae) ?_);rintro _ _⟨jW,vU,rfl,rfl,qd,rD⟩;obtain⟨j7,jI,fZ⟩:=bF (z:=I) (n:=A.length) ae ae;obtain⟨jY,lD,oi,th,eL⟩:=qN fZ G;refine aw (fb rfl (by rw[←jI];rfl) fZ ?_);refine jv (q9 aa aa aa aa aa aa au au eL (fun w8 sn uo=>?_));have sq:af eC w8:=by rw[sn];exact fm G (ah qd (ah rD bf))
  rw[←uo];exact W
 refine rc 6 aa ?_;obtain⟨j9,wM,uw⟩:=bF (z:=aH) (n:=A.length) ae ae;obtain⟨pj,lB,_,⟨MW,rfl,adL,adM⟩,eW⟩:=qN uw G;refine aw (fb rfl (by rw[←wM];rfl) uw ?_);refine aJ 1 aa (jK (rows:=A) aa aa (bt _) (bt _) uw eW aa ?_);refine ro 2 aa ?_;refine ax aa ?_ ?_<;>intro uq
 ·refine rc 4 aa ?_;obtain⟨pJ,v3,O⟩:=bF (z:=aH) (n:=A.length) ae ae;obtain⟨x11_0,aew,UB,DE,wk⟩:=qN O G;refine aT (fb rfl (by rw[←v3];rfl) O ?_);refine rq 1 aa (aP aa (jK (rows:=A) aa aa (bt _) (bt _) O wk aa ?_));exact W
 refine rc 5 aa ?_;obtain⟨X8,B8,U⟩:=bF (z:=aH) (n:=A.length) ae ae;obtain⟨qh,nO,tm,xH,iY⟩:=qN U G;refine aw (fb rfl (by rw[←B8];rfl) U ?_);refine aJ 1 aa (jK (rows:=A) aa aa (bt _) (bt _) U iY aa ?_);exact dR 4 aa (bD aa aa fin)
end Go.Ev.Rp
namespace Go.Ev.Rp
open Go Go.Ev.Pp
attribute [local irreducible] VC VO VQ VI Sound cF
theorem ColumnsC{T:aO}(F:FT T){a0 a1:DC}{bV:aj}(I:ao bV a0)(cI:bV.length≤1000000000)(bJ:af eB bV)(bX:tJ.ok a1):Sound T 347 [.d a0,.d a1] fun r=>∃y0 br,r= .d y0∧ao br y0∧(br.length:Int)≤1000000000∧af bc br∧0≤(br.length:Int)∧(br=[]→y0= .nil):=by
 refine bg F.q347 aa ?_;obtain⟨aH,rfl,ey,dW⟩:=bX;refine r0 10 aa ?_;refine bk aa ?_ ?_<;>intro h1
 ·exact W
 refine ro 2 aa (bw aa aa (aM aa I ?_));refine ro 3 aa ?_;refine ax aa ?_ ?_<;>intro h2
 ·exact W
 refine aB 4 aa (bB aa aa ae ae ?_);obtain⟨n3,fY⟩:∃n:Nat,(aH+1)=n:=⟨((aH+1)).toNat,(vl ae).symm⟩;refine aw (Aw (n:=n3) 19 rfl rfl rfl rfl rfl (by rw[←fY];rfl) (by rw[←fY];rfl) ae ae (fun w3 J8 J9=>?_));have qS:af [.b] w3:=by subst J8;exact Au (ah eb bf)
 refine ro 6 aa ?_;obtain⟨j4,ss,qT⟩:=bF (z:=aH) (n:=w3.length) ae ae;obtain⟨po,kB,cZ⟩:=qN qT qS;refine aw (fb rfl (by rw[←ss];rfl) qT ?_);refine jv (q9 aa aa aa aa aa aa au au cZ (fun w5 hw5 Fw=>?_));have CB:af [.b] w5:=by rw[hw5];exact fm qS (ah eb bf)
 rw[←Fw];refine ro 12 aa (bd [16,4,1,0] [] aa aa (fun e0 b0 k VE B=>∃O lS Y Z A,an ((5,.bs 19 Z 1)::(6,.d lS)::(7,.d (dJ O))::e0) VE∧an ((19,.arr 4 1 1 Z A)::b0) B∧k=(O+1).toNat∧(-1≤O∧O≤aH)∧(ao Y lS)∧((Y.length:Int)≤aH-O)∧(af bc Y)∧(Y=[]→lS= .nil)∧(A.length=Z)∧(Z=w5.length)∧(af [.b] A)) ?_ fin);rintro _ VE B⟨O,lS,Y,Z,A,hV,hB,rfl,bR,hdv6_0,rQ,hrv6_0,hev6_0,rfl,f0_6,Rf⟩;refine aS _ _ hV hB (rc 6 aa ?_);refine ax aa ?_ ?_<;>intro g6
 ·refine rc 8 aa ?_;obtain⟨j7,jI,fZ⟩:=bF (z:=O) (n:=A.length) ae ae;obtain⟨_,⟨bx7_0,rfl⟩,eL⟩:=qN fZ Rf;refine aw (fb rfl (by rw[←jI];rfl) fZ ?_);refine aw (jK (rows:=A) aa aa (bt _) (bt _) fZ eL aa ?_);refine ro 2 aa ?_;refine cO aa ?_ ?_<;>intro h8
  ·exact W
  refine rc 5 aa ?_;obtain⟨_,⟨nX,rfl,DA,L5⟩,_,⟨MW,rfl,adL,adM⟩,_,⟨nU,rfl,L0,L1⟩,_,⟨qe,rfl,Si,Sj⟩,ER,tp,ES,tq,OD,Ea,eW⟩:=qI O bJ;refine aw (aF aa aa I ae eW aa ?_);refine aJ 2 aa (aA aa (M' (aK:=nX) F ae ae) ?_);rintro _ _⟨iF,rfl,AM⟩;refine ro 2 aa (dE [32,25,16,8,7,6,4,1,0] [] aa aa (fun e0 b0 VE B=>∃L G,an ((5,.bs 19 L 1)::e0) VE∧an ((19,.arr 4 1 1 L G)::b0) B∧(G.length=L)∧(L=A.length)∧(af [.b] G)) ?_ ?_)
  ·refine rc 5 aa ?_;refine bk aa ?_ ?_<;>intro l7
   ·refine ro 2 aa (bw aa aa (aF aa aa I ae eW aa ?_));refine ro 2 aa (rp 3 aa ?_);refine bk aa ?_ ?_<;>intro zR
    ·refine ro 2 aa (bw aa aa (aF aa aa I ae eW aa ?_));refine ro 6 aa ?_;refine ax aa ?_ ?_<;>intro ur
     ·refine aB 4 aa (aF aa aa I ae eW aa ?_);refine ro 2 aa ?_;obtain⟨qV,v7,uc⟩:=bF (z:=MW) (n:=A.length) ae ae;obtain⟨UE,Mp,iZ⟩:=qN uc Rf;refine aw (fb rfl (by rw[←v7];rfl) uc ?_);refine jv (q9 aa aa aa aa aa aa au au iZ (fun Ft hw15 ajg=>?_));have ajb:af [.b] Ft:=by rw[hw15];exact fm Rf (ah eb bf)
      rw[←ajg];exact W
     exact W
    exact W
   exact W
  rintro VE B⟨L,G,hV,hB,rfl,UF,aaP⟩;refine aS _ _ hV hB (dE [32,25,16,8,7,6,4,1,0] [] aa aa (fun e0 b0 VE B=>∃M U,an ((5,.bs 19 M 1)::e0) VE∧an ((19,.arr 4 1 1 M U)::b0) B∧(U.length=M)∧(M=G.length)∧(af [.b] U)) ?_ ?_)
  ·refine rc 5 aa ?_;refine bk aa ?_ ?_<;>intro nz
   ·refine ro 2 aa (bw aa aa (aF aa aa I ae eW aa ?_));refine ro 2 aa (rp 3 aa ?_);refine bk aa ?_ ?_<;>intro su
    ·refine ro 2 aa (bw aa aa (aF aa aa I ae eW aa ?_));refine ro 6 aa ?_;refine ax aa ?_ ?_<;>intro sv
     ·refine aB 4 aa (aF aa aa I ae eW aa ?_);refine ro 2 aa ?_;obtain⟨sA,BZ,B0⟩:=bF (z:=nU) (n:=G.length) ae ae;obtain⟨yn,G6,nh⟩:=qN B0 aaP;refine aw (fb rfl (by rw[←BZ];rfl) B0 ?_);refine jv (q9 aa aa aa aa aa aa au au nh (fun l6 B9 zm=>?_));have ub:af [.b] l6:=by rw[B9];exact fm aaP (ah eb bf)
      rw[←zm];exact W
     exact W
    exact W
   exact W
  rintro VE B⟨M,U,hV,hB,rfl,agS,hrw19_j6⟩;refine aS _ _ hV hB (aB 4 aa (aF aa aa I ae eW aa ?_));refine ro 4 aa ?_;refine ax aa ?_ ?_<;>intro Kf
  ·refine aB 4 aa (aF aa aa I ae eW aa ?_);refine ro 3 aa ?_;have hb22:af bc [[(dJ qe)]]:=(cJ (ah ai bf) ca);refine eV 103 103 aa aa (fun _=>⟨aa,aa⟩) (aw (aA aa (xG F hdv6_0 ae hrv6_0 (.inl aa) ae hb22) ?_));rintro _ _⟨Nh,SY,rfl,C9,Rg,Da,Rh,hey23_0⟩;exact W
  exact W
 exact W
theorem aeC{T:aO}(F:FT T){a0 a1 a2 a3 a4 a5 a6 a7:DC}(cC:(Ty.s 1000).ok a0){U:aj}(cW:ao U a1)(dg:U.length≤100)(cq:af dk U)(cN:(Ty.l 200 bc).ok a2)(ch:(Ty.l 4 dy).ok a3)(bY:(Ty.l 4 dj).ok a4)(cB:tJ.ok a5){Y:aj}(M:ao Y a6)(zn:Y.length≤1000000000)(O:af eB Y)(fX:tJ.ok a7):Sound T 228 [.agg [.d a0,.d a1,.d a2,.d a3,.d a4],.d a5,.d a6,.d a7] fun r=>∃y0 y1,r= .tuple [.d y0,.d y1]∧tJ.ok y0∧tJ.ok y1:=by
 refine bg F.q228 aa ?_;rcases cC,cN,ch,bY,cB,fX with⟨⟨gN,rfl,jl⟩,⟨bu,cu,cX,bS⟩,⟨da,ez,fe,dQ⟩,⟨ed,dY,fJ,dw⟩,⟨bO,rfl,oo,oq⟩,⟨dh,rfl,rS,rT⟩⟩
 refine cf 10 aa (aA aa (DF F (bC aq) cW ae cq (aL cu ae bS) (aL ez ae dQ) (aL dY ae dw) ai) ?_);rintro _ _⟨eo,eY,rfl,A,jh,I,ku,AS⟩;refine aJ 7 aa (aA aa (A0 F M ae O ai A ae I) ?_);rintro _ _⟨jV,_,rfl,D0,zy2_1,rfl,hzy2_1,kzy2_1⟩;refine ro 9 aa (rp 3 aa ?_);refine ax aa ?_ ?_<;>intro h3
 ·exact W
 refine aB 5 aa (aA aa (ColumnsC F M ae O ai) ?_);rintro _ _⟨gh,Z,rfl,z,va,L,AV,AW⟩;refine ro 8 aa (bd [26,13,12,11,10,9,8,4,3,2,1,0] [4] aa aa (fun e0 b0 k VE B=>∃G,an ((14,.d (dJ G))::e0) VE∧an b0 B∧dT k 0 G (Z.length:Int)) ?_ fin);rintro _ VE B⟨G,hV,hB,rfl,bR⟩;refine aS _ _ hV hB (aB 5 aa (aM aa z ?_));refine ro 2 aa ?_;refine ax aa ?_ ?_<;>intro g5
 ·refine rc 7 aa ?_;obtain⟨_,⟨D3,rfl,Mf,Mg⟩,e6⟩:=qI G L;refine aw (aF aa aa z ae e6 aa ?_);refine ro 3 aa ?_;refine bk aa ?_ ?_<;>intro h7
  ·exact W
  refine ro 2 aa (bw aa aa (aF aa aa z ae e6 aa ?_));refine ro 2 aa (bw aa aa (aM aa A ?_));refine ro 3 aa ?_;refine bk aa ?_ ?_<;>intro h8
  ·exact W
  refine ro 3 aa (bw aa aa (aF aa aa z ae e6 aa ?_));refine ro 1 aa ?_;obtain⟨_,⟨nX,rfl,DA,L5⟩,eW⟩:=qI D3 I;refine bw aa aa (aF aa aa A ae eW aa ?_);refine ro 1 aa (rp 3 aa ?_);refine cO aa ?_ ?_<;>intro Po
  ·exact W
  exact W
 exact W
theorem rowE{T:aO}(F:FT T){a0 a1 a2 a3 a4 a5 a6 a7 a8 a9 i9 oG oH sC sE sF zX zY zZ Aa Ab Ac:DC}(cC:(Ty.s 1000).ok a0){bN:aj}(L:ao bN a1)(dg:bN.length≤100)(M:af dk bN)(cN:(Ty.l 200 bc).ok a2)(ch:(Ty.l 4 dy).ok a3)(bY:(Ty.l 4 dj).ok a4)(cB:tJ.ok a5)(fE:tJ.ok a6)(fX:(Ty.s 1000).ok a7)(gq:(Ty.l 1000000000 cn).ok a8)(jr:tJ.ok a9)(lT:tJ.ok i9)(pv:(Ty.l 100 eB).ok oG)(Ca:tJ.ok oH)(Cb:(Ty.l 10 eC).ok sC)(Cc:(Ty.s 1000).ok sE)(Cd:(Ty.l 100 dk).ok sF)(Jr:(Ty.l 200 bc).ok zX)(Js:(Ty.l 4 dy).ok zY)(Jt:(Ty.l 4 dj).ok zZ)(Ju:tJ.ok Aa)(Jv:(Ty.s 1000).ok Ab)(Jw:tJ.ok Ac):Sound T 146 [.agg [.d a0,.d a1,.d a2,.d a3,.d a4],.d a5,.agg [.d a6,.d a7,.d a8,.d a9,.d i9,.d oG,.d oH,.d sC,.d sE,.d sF,.d zX,.d zY,.d zZ,.d Aa,.d Ab,.d Ac]] fun r=>∃y0,r= .d y0∧tJ.ok y0:=by
 refine bg F.q146 aa ?_;rcases cC,cN,ch,bY,cB,fE,fX,gq,jr,lT,pv,Ca,Cb,Cc,Cd,Jr,Js,Jt,Ju,Jv,Jw with⟨⟨gN,rfl,jl⟩,⟨bu,O,cX,U⟩,⟨da,Y,fe,Z⟩,⟨ed,dY,fJ,dw⟩,⟨bO,rfl,oo,oq⟩,⟨bx,rfl,oe,og⟩,⟨Pq,rfl,OE⟩,⟨qX,ou,zo,pw⟩,⟨fP,rfl,EK,EL⟩,⟨OF,rfl,Ni,Nj⟩,⟨ajm,Nk,agT,Nl⟩,⟨za12,rfl,hza12,kza12⟩,⟨ajn,G,hna13,Nm⟩,⟨sa14,rfl,hsa14⟩,⟨wa15,UG,hna15,UH⟩,⟨ajo,Io,agU,Ip⟩,⟨ajp,Iq,agV,Ir⟩,⟨ajq,Is,agW,Iu⟩,⟨za19,rfl,hza19,kza19⟩,⟨sa20,rfl,hsa20⟩,⟨za21,rfl,hza21,kza21⟩⟩
 refine cf 11 aa (aA aa (G3 F ai ai) ?_);rintro _ _⟨_,rfl,UA,rfl⟩;refine ro 2 aa ?_;refine cO aa ?_ ?_<;>intro h2
 ·exact W
 refine rc 1 aa (dE [18,6,5,3,2,1,0] [5,3] aa aa (fun e0 b0 VE B=>an e0 VE∧an b0 B) ?_ ?_)
 ·refine rc 6 aa ?_;refine ax aa ?_ ?_<;>intro g3
  ·refine aB 8 aa (aA aa (aeC F (bC aq) L ae M (aL O ae U) (aL Y ae Z) (aL dY ae dw) ai Nk ae Nl ai) ?_);rintro _ _⟨gh,rR,rfl,qf,vB⟩;exact W
  exact W
 rintro VE B⟨hV,hB⟩;refine aS _ _ hV hB (rc 7 aa ?_);refine ax aa ?_ ?_<;>intro h8
 ·exact W
 refine aB 5 aa (aA aa (DF F (bC aq) L ae M (aL O ae U) (aL Y ae Z) (aL dY ae dw) ai) ?_);rintro _ _⟨Jl,agX,rfl,I,aeD,SZ,hmy9_0,hfy9_0⟩;refine ro 8 aa (bd [43,18,9,6,5,3,2,1,0] [5,3] aa aa (fun e0 b0 k VE B=>∃z,an ((10,.d (dJ z))::e0) VE∧an b0 B∧dT k 0 z (ajn.length:Int)) ?_ fin);rintro _ VE B⟨z,hV,hB,rfl,bR⟩;refine aS _ _ hV hB (aB 6 aa (aM aa G ?_));refine ro 2 aa ?_;refine ax aa ?_ ?_<;>intro uq
 ·refine rc 8 aa ?_;obtain⟨_,⟨zx11_0,rfl,hzx11_0,kzx11_0⟩,UB,DE,wk⟩:=qI z Nm;refine aw (aF aa aa G ae wk aa ?_);refine ro 7 aa (rp 4 aa ?_);refine bk aa ?_ ?_<;>intro nA
  ·exact W
  refine ro 3 aa (bw aa aa (aM aa I ?_));refine ro 3 aa ?_;refine bk aa ?_ ?_<;>intro Kj
  ·exact W
  refine ro 3 aa ?_;obtain⟨_,⟨G7,rfl,Ls,Lt⟩,iZ⟩:=qI zx11_0 SZ;refine bw aa aa (aF aa aa I ae iZ aa ?_);refine ro 1 aa (rp 3 aa ?_);refine ax aa ?_ ?_<;>intro Km
  ·exact W
  refine rc 7 aa (bd [76,51,43,18,11,10,9,6,5,3,2,1,0] [11,5,3] aa aa (fun e0 b0 k VE B=>∃A,an ((12,.d (dJ A))::e0) VE∧an b0 B∧dT k 0 A z) ?_ fin);rintro _ VE B⟨A,hV,hB,rfl,fh⟩;refine aS _ _ hV hB (rc 7 aa ?_);refine ax aa ?_ ?_<;>intro nz
  ·refine rc 8 aa ?_;obtain⟨x17_0,hx17_0,yo,G8,jm⟩:=qI A Nm;refine aT (aF aa aa G ae jm aa ?_);refine rq 1 aa (cr aa aa (c4 aa aa ?_));exact W
  refine aB 9 aa (aA aa (aeC F (bC aq) L ae M (aL O ae U) (aL Y ae Z) (aL dY ae dw) ai Nk ae Nl DE) ?_);rintro _ _⟨Eb,y19_1,rfl,aeE,hy19_1⟩;exact W
 exact W
end Go.Ev.Rp
namespace Go.Ev.Rp
open Go Go.Ev.Pp
attribute [local irreducible] VC VO VQ VI Sound cF
theorem evalC{T:aO}(F:FT T){a0 a2:DC}{bV:aj}(cg:ao bV a0)(cI:bV.length≤200)(bJ:af eB bV){aH:Int}(jE:0≤aH)(jF:aH≤(bV.length:Int) -1){bu:aj}(cu:ao bu a2)(cX:bu.length≤1000000000)(bS:af cn bu){da:aj}(dQ:af cn da)(hma3:aH+1≤(da.length:Int)):cF T 519 [.d a0,.d (dJ aH),.d a2,.bs 1004 da.length 3] [(1004,.arr 121 32 3 da.length da)] fun r B=>∃y0 y1 y2,r= .agg [.d y0,.d y1,.d y2]∧B=[(1004,.arr 121 32 3 da.length da)]∧tJ.ok y0∧tJ.ok y1∧(Ty.s 1000).ok y2:=by
 refine pP F.q519 aa (r0 8 aa ?_);obtain⟨_,⟨U,rfl,Mm,Mn⟩,_,⟨ts,rfl,SR,SS⟩,_,⟨tt,rfl,SU,SV⟩,_,⟨zx1_3,rfl,hzx1_3,kzx1_3⟩,Wz,UD,Jp,D',WA,agL,nC⟩:=qI aH bJ;refine aw (aF aa aa cg ae nC aa ?_);refine aJ 8 aa (aA aa (M' (aK:=U) F ae ae) ?_);rintro _ _⟨jV,rfl,D0⟩;refine ro 2 aa (dE [10,9,8,3,2,1,0] [1004,9,8] aa aa (fun e0 b0 VE B=>an e0 VE∧an b0 B∧(((U=10∨U=11∨(3≤U∧U≤9))→0≤ts∧ts<aH)∧((3≤U∧U≤9)→0≤tt∧tt<aH))) ?_ ?_)
 ·refine rc 5 aa ?_;refine bk aa ?_ ?_<;>intro h3
  ·exact W
  refine ro 2 aa (bw aa aa (aA aa (aej (aH:=aH) F cg ae bJ ae ae nC) ?_));rintro _ _⟨gh,rfl,qf⟩;exact W
 rintro VE B⟨hV,hB,fj0_0⟩;refine aS _ _ hV hB (rc 5 aa (dE [12,11,10,9,8,3,2,1,0] [1004,12,9,8] aa aa (fun e0 b0 VE B=>∃Y Z Qy,an e0 VE∧an ((11,.one 121 32 [.d Y,.d Z,.d Qy])::b0) B∧(tJ.ok Y)∧(tJ.ok Z)∧((Ty.s 1000).ok Qy)) ?_ ?_))
 ·refine rc 5 aa ?_;refine ax aa ?_ ?_<;>intro g6
  ·refine rc 4 aa ?_;obtain⟨j7,jI,fZ⟩:=bF (z:=ts) (n:=da.length) ae ae;obtain⟨jY,lD,oi,th,zj,yi,eL⟩:=qN fZ dQ;refine aw (fb rfl (by rw[←jI];rfl) fZ ?_);refine aw (Qa (rows:=da) aa aa (bt _) (bt _) fZ eL (aV aa) (aV aa) ?_);exact W
  exact W
 rintro VE B⟨Y,Z,Qy,hV,hB,A,G,I⟩;refine aS _ _ hV hB (dE [12,11,10,9,8,3,2,1,0] [1004,11,9,8] aa aa (fun e0 b0 VE B=>∃Qz QA QB,an e0 VE∧an ((12,.one 121 32 [.d Qz,.d QA,.d QB])::b0) B∧(tJ.ok Qz)∧(tJ.ok QA)∧((Ty.s 1000).ok QB)) ?_ ?_)
 ·refine rc 5 aa ?_;refine ax aa ?_ ?_<;>intro g8
  ·refine rc 4 aa ?_;obtain⟨j9,wM,uw⟩:=bF (z:=tt) (n:=da.length) ae ae;obtain⟨pj,lB,oh,tu,Ce,tv,eW⟩:=qN uw dQ;refine aw (fb rfl (by rw[←wM];rfl) uw ?_);refine aw (Qa (rows:=da) aa aa (bt _) (bt _) uw eW (aV aa) (aV aa) ?_);exact W
  exact W
 rintro VE B⟨Qz,QA,QB,hV,hB,L,M,O⟩;refine aS _ _ hV hB (rc 12 aa ?_);refine ax aa ?_ ?_<;>intro Po
 ·exact W
 refine rc 5 aa ?_;refine ax aa ?_ ?_<;>intro sk
 ·exact W
 refine rc 5 aa ?_;refine ax aa ?_ ?_<;>intro uu
 ·refine rc 2 aa ?_;obtain⟨Z3,rfl,Zm,Zn⟩:=Ty.dP A;refine rp 4 aa ?_;refine bk aa ?_ ?_<;>intro nz
  ·refine ro 2 aa ?_;obtain⟨zc12_0_j2,rfl,hzc12_0_j2,kzc12_0_j2⟩:=Ty.dP L;refine rp 3 aa ?_;refine bk aa ?_ ?_<;>intro su
   ·refine ro 2 aa (bw aa aa (aA aa (Ig F ai G I ai M O) ?_));rintro _ _⟨_,rfl,zy18_0,rfl,hzy18_0,kzy18_0⟩;refine aJ 2 aa (aA aa (qg F eb) ?_);rintro _ _⟨Eb,y19_1,y19_2,rfl,aeE,hy19_1,hy19_2⟩;exact W
   refine aJ 5 aa (aA aa (qg F eb) ?_);rintro _ _⟨agY,y20_1,y20_2,rfl,hy20_0,hy20_1,hy20_2⟩;exact W
  refine aJ 10 aa (aA aa (qg F eb) ?_);rintro _ _⟨UI,y21_1,y21_2,rfl,aeF,hy21_1,hy21_2⟩;exact W
 refine rc 5 aa ?_;refine ax aa ?_ ?_<;>intro g22
 ·refine rc 2 aa ?_;obtain⟨Z3,rfl,Zm,Zn⟩:=Ty.dP A;refine rp 4 aa ?_;refine bk aa ?_ ?_<;>intro Pk
  ·refine ro 4 aa ?_;obtain⟨zc12_0_j2,rfl,hzc12_0_j2,kzc12_0_j2⟩:=Ty.dP L;refine rp 3 aa ?_;refine bk aa ?_ ?_<;>intro Pc
   ·refine ro 2 aa (bw aa aa (aA aa (Ig F ai G I ai M O) ?_));rintro _ _⟨_,rfl,zy25_0,rfl,hzy25_0,kzy25_0⟩;refine aJ 2 aa (aA aa (qg F eb) ?_);rintro _ _⟨agZ,y26_1,y26_2,rfl,hy26_0,hy26_1,hy26_2⟩;exact W
   refine aJ 5 aa (aA aa (qg F eb) ?_);rintro _ _⟨ag0,y27_1,y27_2,rfl,hy27_0,hy27_1,hy27_2⟩;exact W
  refine aJ 12 aa (aA aa (qg F eb) ?_);rintro _ _⟨Im,y28_1,y28_2,rfl,aeB,hy28_1,hy28_2⟩;exact W
 refine rc 5 aa ?_;refine ax aa ?_ ?_<;>intro Pe
 ·refine aB 3 aa (aA aa (ym F A G I) ?_);rintro _ _⟨_,rfl,aey,rfl⟩;refine ro 1 aa ?_;refine bk aa ?_ ?_<;>intro h31
  ·refine ro 1 aa (bw aa aa (aA aa (ym F L M O) ?_));rintro _ _⟨agK,rfl,aez⟩;refine aJ 1 aa (aA aa (qg F aez) ?_);rintro _ _⟨agP,y33_1,y33_2,rfl,hy33_0,hy33_1,hy33_2⟩;exact W
  refine aJ 3 aa (aA aa (qg F eb) ?_);rintro _ _⟨UJ,y34_1,y34_2,rfl,hy34_0,hy34_1,hy34_2⟩;exact W
 refine rc 5 aa ?_;refine ax aa ?_ ?_<;>intro X5
 ·refine aB 3 aa (aA aa (ym F A G I) ?_);rintro _ _⟨_,rfl,by36_0,rfl⟩;refine ro 1 aa ?_;refine bk aa ?_ ?_<;>intro XZ
  ·refine aJ 3 aa (aA aa (qg F eb) ?_);rintro _ _⟨agQ,y38_1,y38_2,rfl,hy38_0,hy38_1,hy38_2⟩;exact W
  refine ro 1 aa (bw aa aa (aA aa (ym F L M O) ?_));rintro _ _⟨y39_0,rfl,hy39_0⟩;refine aJ 1 aa (aA aa (qg F hy39_0) ?_);rintro _ _⟨y40_0,y40_1,y40_2,rfl,hy40_0,hy40_1,hy40_2⟩;exact W
 refine rc 5 aa ?_;refine ax aa ?_ ?_<;>intro X9
 ·refine aB 3 aa (aA aa (ym F A G I) ?_);rintro _ _⟨_,rfl,by42_0,rfl⟩;refine aJ 1 aa (aA aa (qg F eb) ?_);rintro _ _⟨y43_0,y43_1,y43_2,rfl,hy43_0,hy43_1,hy43_2⟩;exact W
 refine rc 5 aa ?_;refine ax aa ?_ ?_<;>intro Pj
 ·refine rc 2 aa ?_;obtain⟨Z3,rfl,Zm,Zn⟩:=Ty.dP A;refine iw 3 aa (aA aa (qg F eb) ?_);rintro _ _⟨y45_0,y45_1,y45_2,rfl,hy45_0,hy45_1,hy45_2⟩;exact W
 refine aB 7 aa (aA aa (arithC F ai A G I L M O) ?_);rintro _ _⟨y46_0,y46_1,y46_2,rfl,hy46_0,hy46_1,hy46_2⟩;exact W
theorem Bw{T:aO}(F:FT T){a0 a1 a2:DC}{O:aj}(M:ao O a0)(cI:O.length≤200)(bJ:af eB O)(bX:tJ.ok a1){U:aj}(cu:ao U a2)(cX:U.length≤1000000000)(bS:af cn U):Sound T 424 [.d a0,.d a1,.d a2] fun r=>∃y0 y1 y2,r= .agg [.d y0,.d y1,.d y2]∧tJ.ok y0∧tJ.ok y1∧(Ty.s 1000).ok y2:=by
 refine bg F.q424 aa ?_;obtain⟨aH,rfl,ey,dW⟩:=bX;refine r0 10 aa ?_;refine bk aa ?_ ?_<;>intro h1
 ·exact W
 refine ro 2 aa (bw aa aa (aM aa M ?_));refine ro 3 aa ?_;refine ax aa ?_ ?_<;>intro h2
 ·exact W
 refine aB 4 aa (bB aa aa ae ae ?_);obtain⟨n3,fY⟩:∃n:Nat,(aH+1)=n:=⟨((aH+1)).toNat,(vl ae).symm⟩;refine aw (Aw (n:=n3) 20 rfl rfl rfl rfl rfl (by rw[←fY];rfl) (by rw[←fY];rfl) ae ae (fun w3 J8 J9=>?_));have qS:af cn w3:=by subst J8;exact Au (ah ai (ah ai (ah (bC (s:=[]) au) bf)))
 refine ro 8 aa (bd [16,6,2,1,0] [6] aa aa (fun e0 b0 k VE B=>∃G L A,an ((7,.bs 20 L 3)::(8,.d (dJ G))::e0) VE∧an ((20,.arr 121 32 3 L A)::b0) B∧k=(((aH+1):Int) -G).toNat∧(0≤G∧(G≤(aH+1)∨G=0))∧(A.length=L)∧(L=w3.length)∧(af cn A)) ?_ fin);rintro _ VE B⟨G,L,A,hV,hB,rfl,bR,rfl,rQ,I⟩;refine aS _ _ hV hB (rc 7 aa ?_);refine ax aa ?_ ?_<;>intro g4
 ·refine aB 10 aa (sJ (dV:=[.d a0,.d (dJ G),.d a2,.bs 1004 (A.length) 3]) (Bi:=[(1004,.arr 121 32 3 (A.length) A)]) [(1004,20)] 2000 aa aa aa aa aa aa aa ⟨aa,aa,trivial⟩ (evalC (aH:=G) F M ae bJ ae ae cu ae bS I ae) ?_);rintro _ _⟨gM,VU,Of,rfl,rfl,Y,Z,Iv⟩;obtain⟨j6,pH,mK⟩:=bF (z:=G) (n:=A.length) ae ae;obtain⟨zg,rF,vV,rG,Ok,DX,e6⟩:=qN mK I;refine aw (fb rfl (by rw[←pH];rfl) mK ?_);refine jv (q9 aa aa aa aa aa aa au au e6 (fun w7 Cz zQ=>?_));have wL:af cn w7:=by rw[Cz];exact fm I (ah Y (ah Z (ah Iv bf)))
  rw[←zQ];exact W
 refine rc 5 aa ?_;obtain⟨j8,Kn,zW⟩:=bF (z:=aH) (n:=A.length) ae ae;obtain⟨WB,hx8_0,ajr,ag1,x8_2,hx8_2,jt⟩:=qN zW I;refine aw (fb rfl (by rw[←Kn];rfl) zW ?_);refine aw (Qa (rows:=A) aa aa (bt _) (bt _) zW jt (aV aa) (aV aa) ?_);exact W
end Go.Ev.Rp
namespace Go.Ev.Rp
open Go Go.Ev.Pp
attribute [local irreducible] VC VO VQ VI Sound cF
theorem ag2{T:aO}(F:FT T){a0 a1 a2 a3 a4 a5:DC}(cC:(Ty.s 1000).ok a0){z:aj}(A:ao z a1)(dg:z.length≤100)(I:af dk z)(cN:(Ty.l 200 bc).ok a2)(ch:(Ty.l 4 dy).ok a3)(bY:(Ty.l 4 dj).ok a4)(cB:tJ.ok a5):Sound T 136 [.agg [.d a0,.d a1,.d a2,.d a3,.d a4],.d a5] fun r=>∃y0 y1 y2 L y4,r= .tuple [.agg [.d y0,.d y1,.d y2],dB y4]∧tJ.ok y0∧tJ.ok y1∧ao L y2∧(L.length:Int)≤12∧af gB L∧(y4=true→1≤(z.length:Int)):=by
 refine bg F.q136 aa ?_;rcases cC,cN,ch,bY,cB with⟨⟨gN,rfl,jl⟩,⟨bu,O,cX,U⟩,⟨da,Y,fe,Z⟩,⟨ed,dY,fJ,dw⟩,⟨bO,rfl,oo,oq⟩⟩
 refine cf 10 aa (aA aa (Z2 F (bC aq) A ae I (aL O ae U) (aL Y ae Z) (aL dY ae dw)) ?_);rintro _ _⟨eo,rfl,M⟩;refine ro 2 aa ?_;refine bk aa ?_ ?_<;>intro h2
 ·exact W
 have k2:=M (by simpa using h2);refine ro 4 aa ?_;refine ax aa ?_ ?_<;>intro h3
 ·exact W
 refine aB 7 aa (aM aa A ?_);refine aw (dO aa aa ae ae ?_);obtain⟨po,kB,fu,mo,qE,⟨ag3,G,aeG,hrx4_2⟩,cZ⟩:=qI ((z.length:Int) -1) I;refine aw (aF aa aa A ae cZ aa ?_);have kb:=kp.get (And.right dz) (vk _) cZ rfl G;exact W
theorem Iw{T:aO}(F:FT T){a0 a1 a2 a3 a4 a5:DC}(cC:(Ty.s 1000).ok a0)(bX:(Ty.l 100 dk).ok a1)(cN:(Ty.l 200 bc).ok a2)(ch:(Ty.l 4 dy).ok a3)(bY:(Ty.l 4 dj).ok a4){I:aj}(Z:ao I a5)(wg:I.length≤100000)(kW:af fC I):Sound T 85 [.agg [.d a0,.d a1,.d a2,.d a3,.d a4,.d a5]] fun r=>∃y0 L,r= .d y0∧ao L y0∧(L.length:Int)≤I.length∧af fI L∧0≤(L.length:Int)∧(L=[]→y0= .nil):=by
 refine bg F.q85 aa ?_;rcases cC,bX,cN,ch,bY with⟨⟨gN,rfl,jl⟩,⟨bN,cW,dg,cq⟩,⟨bu,cu,cX,bS⟩,⟨da,ez,fe,dQ⟩,⟨ed,dY,fJ,dw⟩⟩
 refine r0 15 aa (de 3 90 148 64 4 aa aa (bd [2,1,0] [1] aa aa (fun e0 b0 k VE B=>∃z A,an ((3,.ac 90 A.length 4)::(4,.d (dJ z))::e0) VE∧an ((90,.acc 148 64 4 A)::b0) B∧k=((I.length:Int) -z).toNat∧(0≤z∧(z≤(I.length:Int)∨z=0))∧((A.length:Int)≤z)∧(af fI A)) ?_ fin));rintro _ VE B⟨z,A,hV,hB,rfl,bR,cM,AU⟩;refine aS _ _ hV hB (aB 6 aa (aM aa Z ?_));refine ro 2 aa ?_;refine ax aa ?_ ?_<;>intro g1
 ·refine rc 8 aa ?_;obtain⟨_,⟨G,rfl,mT,nM⟩,ff,⟨jy,U,jg,Y⟩,_,⟨M,rfl,xx,xz⟩,_,⟨O,rfl,L2,L3⟩,pn,mX,_,⟨Bq,rfl,Sc,Sd⟩,bM⟩:=qI z kW;refine aw (aF aa aa Z ae bM aa ?_);refine ro 6 aa (rp 5 aa ?_);refine ax aa ?_ ?_<;>intro g3
  ·refine rc 6 aa (aP aa (aA aa (widthC F (bC aq) (aL cW ae cq) (aL cu ae bS) (aL ez ae dQ) (aL dY ae dw)) ?_));rintro _ _⟨_,rfl,zy4_0,rfl,hzy4_0,kzy4_0⟩;refine aP aa (aA aa (ajk F U ae Y ai) ?_);rintro _ _⟨gM,gV,rfl,lu,pZ,kr,ry,sZ⟩;refine rq 5 aa ?_;have Pb:af bc [[(dJ G)]]:=(cJ (ah ai bf) ca);refine R4 33 33 aa aa (fun _=>⟨aa,aa⟩) (rq 2 aa ?_);refine aP rfl (aW (rows:=A) (ys:=[[gM,(dJ M),(dJ O),(.sl [[(dJ G)]])]]) rfl rfl rfl (.bs (rows:=[[gM,(dJ M),(dJ O),(.sl [[(dJ G)]])]]) rfl) au ae (fun h=>by rw[h];rfl) (fun h=>by rw[h];rfl) ?_);exact W
  exact W
 exact rc 6 aa (cl 2 90 aa aa (fun _=>⟨aa,aa⟩) (W))
theorem Pr{T:aO}(F:FT T){a0 a1 a2:DC}{I:aj}(G:ao I a0)(cI:I.length≤1000000000)(bJ:af fI I){bN:aj}(cW:ao bN a1)(dg:bN.length≤1000000000)(cq:af bc bN){bu:aj}(cu:ao bu a2)(cX:bu.length≤1000000000)(bS:af cn bu):Sound T 152 [.d a0,.d a1,.d a2] fun r=>∃y0 L,r= .d y0∧ao L y0∧(L.length:Int)≤I.length∧af fI L∧0≤(L.length:Int)∧(L=[]→y0= .nil):=by
 refine bg F.q152 aa (r0 14 aa (de 7 90 148 64 4 aa aa (bd [6,2,1,0] [] aa aa (fun e0 b0 k VE B=>∃z A,an ((7,.ac 90 A.length 4)::(8,.d (dJ z))::e0) VE∧an ((90,.acc 148 64 4 A)::b0) B∧k=((I.length:Int) -z).toNat∧(0≤z∧(z≤(I.length:Int)∨z=0))∧((A.length:Int)≤z)∧(af fI A)) ?_ fin)));rintro _ VE B⟨z,A,hV,hB,rfl,bR,cM,G9⟩;refine aS _ _ hV hB (aB 5 aa (aM aa G ?_));refine ro 2 aa ?_;refine ax aa ?_ ?_<;>intro g1
 ·refine rc 7 aa ?_;obtain⟨gm,⟨qn,Z,xI,A1⟩,ff,M,fg,O,jB,⟨DT,uY,Dx,ru⟩,bM⟩:=qI z bJ;refine aw (aF aa aa G ae bM aa ?_);refine aJ 2 aa (aA aa (oQ F M O) ?_);rintro _ _⟨_,rfl,Bu,rfl⟩;refine ro 1 aa ?_;refine bk aa ?_ ?_<;>intro h4
  ·refine ro 2 aa (bw aa aa (aF aa aa G ae bM aa ?_));refine ro 3 aa (bw aa aa (aA aa (agJ F Z ae A1 cW ae cq) ?_));rintro _ _⟨gM,gV,rfl,lu,pZ,kr,ry,sZ⟩;refine ro 1 aa (bw aa aa (aA aa (yl F (aL lu ae kr) (aL cu ae bS)) ?_));rintro _ _⟨_,rfl,Uv,rfl,aeb,aec⟩;refine ro 3 aa ?_;refine ax aa ?_ ?_<;>intro g7
   ·refine aB 4 aa (aF aa aa G ae bM aa ?_);rcases Ty.dP M,Ty.dP O with⟨⟨U,rfl,uV,pY⟩,⟨Y,rfl,xx,xz⟩⟩
    refine ro 2 aa ?_;refine aw (aW (rows:=A) (ys:=[[gm,(dJ U),(dJ Y),jB]]) rfl rfl rfl (.bs (rows:=[[gm,(dJ U),(dJ Y),jB]]) rfl) au ae (fun h=>by rw[h];rfl) (fun h=>by rw[h];rfl) ?_);exact W
   exact W
  exact W
 exact rc 6 aa (cl 6 90 aa aa (fun _=>⟨aa,aa⟩) (W))
theorem UK{T:aO}(F:FT T){a0 a1:DC}{L:aj}(M:ao L a0)(cI:L.length≤1000000)(bJ:af fI L)(bX:tJ.ok a1):Sound T 154 [.d a0,.d a1] fun r=>∃y0 y1 O,r= .tuple [.d y0,.d y1]∧tJ.ok y0∧ao O y1∧(O.length:Int)≤1000000000∧af bc O∧0≤(O.length:Int)∧(O=[]→y1= .nil):=by
 refine bg F.q154 aa ?_;obtain⟨aH,rfl,ey,dW⟩:=bX;refine r0 19 aa (bd [5,4,1,0] [] aa aa (fun e0 b0 k VE B=>∃G I A z,an ((6,.d (dJ G))::(7,.d I)::(8,.d (dJ z))::e0) VE∧an b0 B∧k=((L.length:Int) -z).toNat∧(0≤G∧G≤z)∧(ao A I)∧((A.length:Int)≤200*z)∧(af bc A)∧(A=[]→I= .nil)∧(0≤z∧(z≤(L.length:Int)∨z=0))) ?_ fin);rintro _ VE B⟨G,I,A,z,hV,hB,rfl,bR,U,rQ,Y,hev7_0,BX⟩;refine aS _ _ hV hB (aB 5 aa (aM aa M ?_));refine ro 2 aa ?_;refine ax aa ?_ ?_<;>intro g1
 ·refine rc 7 aa ?_;obtain⟨gm,gx,ff,iW,fg,fT,jB,⟨DT,Z,Dx,ru⟩,bM⟩:=qI z bJ;refine aw (aF aa aa M ae bM aa ?_);refine aJ 3 aa (aA aa (M9 F iW fT ai) ?_);rintro _ _⟨_,rfl,Bu,rfl⟩;refine ro 1 aa ?_;refine cO aa ?_ ?_<;>intro h4
  ·refine aB 3 aa (bB aa aa ae ae ?_);refine aJ 6 aa (aF aa aa M ae bM aa ?_);refine aJ 2 aa (aA aa (xG F U ae Y Z ae ru) ?_);rintro _ _⟨gM,gV,rfl,lu,pZ,kr,ry,sZ⟩;exact W
  exact W
 exact W
theorem ab2{T:aO}(F:FT T){a0 a1 a2:DC}{M:aj}(U:ao M a0)(cI:M.length≤1000000000)(Y:af cn M){bN:aj}(cW:ao bN a1)(dg:bN.length≤200)(cq:af eB bN){O:aj}(Z:ao O a2)(cX:O.length≤1000000000)(bS:af eC O):Sound T 349 [.d a0,.d a1,.d a2] fun r=>∃y0 br,r= .d y0∧ao br y0∧(br.length:Int)≤1000000000∧af cn br:=by
 refine bg F.q349 aa (cf 7 aa (dZ (ys:=M) 11 aa aa aa aa aa (.sD U (cP Y aa)) au ae ?_));refine aJ 6 aa (aM aa Z ?_);refine ro 3 aa (bd [13,12,6,2,1,0] [] aa aa (fun e0 b0 k VE B=>∃A I G,an ((7,.ac 11 I 3)::(14,.d (dJ A))::e0) VE∧an ((11,.acc 121 32 3 G)::b0) B∧k=((O.length:Int) -A).toNat∧(0≤A∧(A≤(O.length:Int)∨A=0))∧(G.length=I)∧(I=(M).length)∧(af cn G)) ?_ fin);rintro _ VE B⟨A,I,G,hV,hB,rfl,bR,rfl,rQ,L⟩;refine aS _ _ hV hB (rc 5 aa ?_);refine ax aa ?_ ?_<;>intro g1
 ·refine rc 5 aa ?_;obtain⟨_,⟨ml,rfl,mT,nM⟩,ff,iW,bM⟩:=qI A bS;refine aw (aF aa aa Z ae bM aa ?_);refine ro 6 aa (rp 4 aa ?_);refine bk aa ?_ ?_<;>intro g3
  ·refine ro 3 aa (bw aa aa (abn aa ?_));refine ro 3 aa ?_;refine ax aa ?_ ?_<;>intro g4
   ·refine rc 8 aa (aP aa (aA aa (Bw F cW ae cq iW U ae Y) ?_));rintro _ _⟨gM,VU,Of,rfl,kS,Ic,Iv⟩;obtain⟨j6,pH,mK⟩:=bF (z:=ml) (n:=G.length) ae ae;obtain⟨zg,rF,vV,rG,Ok,DX,e6⟩:=qN mK L;refine aT (di rfl (by rw[←pH];rfl) mK ?_);refine iR aa (gO aa aa aa aa aa aa au au e6 (fun w7 Cz zQ=>?_));have wL:af cn w7:=by rw[Cz];exact fm L (ah kS (ah Ic (ah Iv bf)))
    rw[←zQ];exact W
   exact W
  exact W
 exact rc 6 aa (cl 6 11 aa aa (fun _=>⟨aa,aa⟩) (W))
end Go.Ev.Rp
