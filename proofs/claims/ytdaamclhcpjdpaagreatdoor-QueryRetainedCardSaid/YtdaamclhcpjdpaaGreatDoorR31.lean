/- Part 31 of rules for walks through the code of a program, and of such walks; what each part proves is said by its theorems. -/
import Derived.Test.YtdaamclhcpjdpaaGreatDoorR21
import Derived.Test.YtdaamclhcpjdpaaGreatDoorR22
import Derived.Test.YtdaamclhcpjdpaaGreatDoorR23
import Derived.Test.YtdaamclhcpjdpaaGreatDoorR25
import Derived.Test.YtdaamclhcpjdpaaGreatDoorR29
import Derived.Test.YtdaamclhcpjdpaaGreatDoorR30
set_option linter.unusedVariables false
set_option linter.unusedSimpArgs false
noncomputable section
set_option maxRecDepth 100000
set_option maxHeartbeats 4000000
namespace Go.Ev.Rp
open Go Go.Ev.Pp
attribute [local irreducible] VC VO VQ VI Sound cm
theorem checkC{T:aN}(F:FT T){a0 a2:DC}{bP:ak}(cr:aA bP a0)(cK:bP.length≤200)(bM:af ew bP){aJ:Int}(kJ:0≤aJ)(kK:aJ≤(bP.length:Int) -1){bt:ak}(cF:aA bt a2)(dc:bt.length≤1000000000)(bV:af br bt){A:ak}(U:af ey A)(hma3:aJ+1≤(A.length:Int)):cm T 434 [.d a0,.d (dJ aJ),.d a2,.bs 1004 A.length 2] [(1004,.arr 589 16 2 A.length A)] fun r B=>∃y0 y1,r= .agg [.d y0,.d y1]∧B=[(1004,.arr 589 16 2 A.length A)]∧tJ.ok y0∧tJ.ok y1:=by
 refine kM F.q434 aa (r0 8 aa ?_);obtain⟨_,⟨G,rfl,L0,L1⟩,_,⟨M,rfl,Sp,Sq⟩,_,⟨O,rfl,Sr,Ss⟩,_,⟨Y,rfl,hzx1_3,kzx1_3⟩,V3,T2,Jm,DD,V4,agt,nE⟩:=qI aJ bM;refine ax (aI aa aa cr ae nE aa ?_);refine aK 8 aa (ay aa (MV (aE:=G) F ae ae) ?_);rintro _ _⟨mz,rfl,Dv⟩;refine ro 2 aa (dE [10,9,8,3,2,1,0] [1004,9,8] aa aa (fun e0 b0 VE B=>an e0 VE∧an b0 B) ?_ ?_)
 ·refine rc 5 aa ?_;refine bm aa ?_ ?_<;>intro h3
  ·exact W
  refine ro 4 aa ?_;refine bm aa ?_ ?_<;>intro g4
  ·refine ro 2 aa (bJ aa aa (ay aa (adS F T2 DD agt) ?_));rintro _ _⟨gV,rfl,rK⟩;exact W
  exact W
 rintro VE B⟨hV,hB⟩;refine aU _ _ hV hB (dE [10,9,8,3,2,1,0] [1004,9,8] aa aa (fun e0 b0 VE B=>an e0 VE∧an b0 B∧(((G=10∨G=11∨(3≤G∧G≤9))→0≤M∧M<aJ)∧((3≤G∧G≤9)→0≤O∧O<aJ)∧(G=2→0≤Y∧Y<bt.length))) ?_ ?_)
 ·refine aB 4 aa (ay aa (adT (aJ:=aJ) F cr ae bM ae ae nE) ?_);rintro _ _⟨qS,rfl,n6⟩;exact W
 rintro VE B⟨hV,hB,agu⟩;refine aU _ _ hV hB (rc 5 aa (dE [12,10,9,8,3,2,1,0] [1004,9,8] aa aa (fun e0 b0 VE B=>∃I,an ((11,.d (dJ I))::e0) VE∧an b0 B∧(-9223372036854775808≤I∧I≤9223372036854775807)) ?_ ?_))
 ·refine rc 5 aa ?_;refine au aa ?_ ?_<;>intro zf
  ·refine rc 6 aa ?_;obtain⟨Fb,BE,Z⟩:=bz (z:=M) (n:=A.length) ae ae;obtain⟨qv,nQ,_,⟨zx13_1,rfl,hzx13_1,kzx13_1⟩,lP⟩:=qN Z U;refine ax (fi rfl (by rw[←BE];rfl) Z ?_);refine aK 1 aa (jy (rows:=A) aa aa (bq _) (bq _) Z lP aa ?_);refine ro 2 aa ?_;refine au aa ?_ ?_<;>intro B7
   ·refine rc 5 aa ?_;obtain⟨XC,Jn,BF⟩:=bz (z:=M) (n:=A.length) ae ae;obtain⟨H8,L2,DB,GP,BD⟩:=qN BF U;refine ax (fi rfl (by rw[←Jn];rfl) BF ?_);refine aK 1 aa (jy (rows:=A) aa aa (bq _) (bq _) BF BD aa ?_);exact et 4 aa (I1)
   refine rc 5 aa ?_;obtain⟨jQ,pB,pC⟩:=bz (z:=M) (n:=A.length) ae ae;obtain⟨_,⟨zx16_0,rfl,hzx16_0,kzx16_0⟩,AU,St,qR⟩:=qN pC U;refine ax (fi rfl (by rw[←pB];rfl) pC ?_);refine aK 1 aa (jy (rows:=A) aa aa (bq _) (bq _) pC qR aa ?_);exact ro 2 aa (fin)
  exact W
 rintro VE B⟨I,hV,hB,fj2_0⟩;refine aU _ _ hV hB (dE [11,10,9,8,3,2,1,0] [1004,9,8] aa aa (fun e0 b0 VE B=>∃L,an ((12,.d (dJ L))::e0) VE∧an b0 B∧(-9223372036854775808≤L∧L≤9223372036854775807)) ?_ ?_)
 ·refine rc 5 aa ?_;refine au aa ?_ ?_<;>intro sN
  ·refine rc 6 aa ?_;obtain⟨pQ,sh,si⟩:=bz (z:=O) (n:=A.length) ae ae;obtain⟨agv,Su,_,⟨zx18_1,rfl,hzx18_1,kzx18_1⟩,nh⟩:=qN si U;refine ax (fi rfl (by rw[←sh];rfl) si ?_);refine aK 1 aa (jy (rows:=A) aa aa (bq _) (bq _) si nh aa ?_);refine ro 2 aa ?_;refine au aa ?_ ?_<;>intro XD
   ·refine rc 5 aa ?_;obtain⟨B8,vO,qQ⟩:=bz (z:=O) (n:=A.length) ae ae;obtain⟨M4,GQ,agw,ad9,mC⟩:=qN qQ U;refine ax (fi rfl (by rw[←vO];rfl) qQ ?_);refine aK 1 aa (jy (rows:=A) aa aa (bq _) (bq _) qQ mC aa ?_);exact et 4 aa (I1)
   refine rc 5 aa ?_;obtain⟨mJ,pD,lO⟩:=bz (z:=O) (n:=A.length) ae ae;obtain⟨_,⟨zx21_0,rfl,hzx21_0,kzx21_0⟩,tw,Ao,lQ⟩:=qN lO U;refine ax (fi rfl (by rw[←pD];rfl) lO ?_);refine aK 1 aa (jy (rows:=A) aa aa (bq _) (bq _) lO lQ aa ?_);exact ro 2 aa (fin)
  exact W
 rintro VE B⟨L,hV,hB,T1⟩;refine aU _ _ hV hB (rc 12 aa ?_);refine au aa ?_ ?_<;>intro Xw
 ·exact W
 refine rc 5 aa ?_;refine au aa ?_ ?_<;>intro Pb
 ·exact W
 refine rc 6 aa ?_;refine au aa ?_ ?_<;>intro O3
 ·refine rc 1 aa (eG aa aa (aB 4 aa (ay aa (rP F ai ai) ?_)));rintro _ _⟨_,rfl,ad6,rfl⟩;refine ro 2 aa ?_;refine bm aa ?_ ?_<;>intro h27
  ·exact W
  refine ro 1 aa (bJ aa aa (ay aa (rP F ai ai) ?_));rintro _ _⟨H9,rfl,aea⟩;exact W
 refine rc 5 aa ?_;refine au aa ?_ ?_<;>intro g30
 ·refine rc 1 aa (eG aa aa (aB 4 aa (ay aa (rP F ai ai) ?_)));rintro _ _⟨_,rfl,by31_0,rfl⟩;refine ro 2 aa ?_;refine bm aa ?_ ?_<;>intro h32
  ·exact W
  refine ro 1 aa (bJ aa aa (ay aa (rP F ai ai) ?_));rintro _ _⟨agx,rfl,hy33_0⟩;exact W
 refine rc 4 aa ?_;refine au aa ?_ ?_<;>intro XE
 ·refine aB 4 aa (ay aa (rP F ai ai) ?_);rintro _ _⟨_,rfl,by36_0,rfl⟩;refine ro 2 aa ?_;refine bm aa ?_ ?_<;>intro Xy
  ·exact W
  refine ro 1 aa (bJ aa aa (ay aa (rP F ai ai) ?_));rintro _ _⟨agy,rfl,hy38_0⟩;exact W
 refine rc 6 aa ?_;refine au aa ?_ ?_<;>intro h40
 ·exact W
 refine rc 4 aa ?_;refine au aa ?_ ?_<;>intro h44
 ·exact W
 refine rc 6 aa ?_;refine au aa ?_ ?_<;>intro g48
 ·refine rc 1 aa (eG aa aa (aB 3 aa (ay aa (rP F ai ai) ?_)));rintro _ _⟨_,rfl,by49_0,rfl⟩;refine ro 2 aa ?_;refine bm aa ?_ ?_<;>intro h50
  ·exact W
  refine ro 1 aa (bJ aa aa (ay aa (rP F ai ai) ?_));rintro _ _⟨y51_0,rfl,hy51_0⟩;exact W
 refine rc 4 aa ?_;refine au aa ?_ ?_<;>intro XG
 ·refine aB 3 aa (ay aa (rP F ai ai) ?_);rintro _ _⟨_,rfl,by54_0,rfl⟩;refine ro 2 aa ?_;refine bm aa ?_ ?_<;>intro h55
  ·exact W
  refine ro 1 aa (bJ aa aa (ay aa (rP F ai ai) ?_));rintro _ _⟨agz,rfl,hy56_0⟩;exact W
 refine rc 5 aa ?_;refine au aa ?_ ?_<;>intro g58
 ·refine aB 3 aa (ay aa (rP F ai ai) ?_);rintro _ _⟨y59_0,rfl,hy59_0⟩;exact W
 exact W
theorem Ap{T:aN}(F:FT T){a0 a1 a2:DC}{Y:ak}(M:aA Y a0)(cK:Y.length≤1000000000)(bM:af ew Y)(bW:tJ.ok a1){Z:ak}(cF:aA Z a2)(dc:Z.length≤1000000000)(bV:af br Z):Sound T 346 [.d a0,.d a1,.d a2] fun r=>∃y0 y1,r= .tuple [.d y0,.d y1]∧tJ.ok y0∧tJ.ok y1:=by
 refine bj F.q346 aa ?_;obtain⟨aJ,rfl,eC,eg⟩:=bW;refine bY 9 aa (aO aa M ?_);refine ro 2 aa ?_;refine au aa ?_ ?_<;>intro h1
 ·exact W
 refine rc 7 aa ?_;refine bm aa ?_ ?_<;>intro h2
 ·exact W
 refine ro 2 aa (bJ aa aa (aO aa M ?_));refine ro 3 aa ?_;refine au aa ?_ ?_<;>intro h3
 ·exact W
 refine aB 4 aa (bC aa aa ae ae ?_);obtain⟨n4,iv⟩:∃n:Nat,(aJ+1)=n:=⟨((aJ+1)).toNat,(AE ae).symm⟩;refine ax (FH (n:=n4) 23 rfl rfl rfl rfl rfl (by rw[←iv];rfl) (by rw[←iv];rfl) ae ae (fun w4 XH Xh=>?_));have hb4:af ey w4:=by subst XH;exact FG (aj ai (aj ai bg))
 refine ro 8 aa (bd [20,12,7,6,2,1,0] [] aa aa (fun e0 b0 k VE B=>∃I L A,an ((8,.bs 23 L 2)::(9,.d (dJ I))::e0) VE∧an ((23,.arr 589 16 2 L A)::b0) B∧k=(((aJ+1):Int) -I).toNat∧(0≤I∧(I≤(aJ+1)∨I=0))∧(A.length=L)∧(L=w4.length)∧(af ey A)) ?_ fin);rintro _ VE B⟨I,L,A,hV,hB,rfl,bS,rfl,ug,G⟩;refine aU _ _ hV hB (rc 7 aa ?_);refine au aa ?_ ?_<;>intro g5
 ·refine aB 10 aa (mM (dj:=[.d a0,.d (dJ I),.d a2,.bs 1004 (A.length) 2]) (Bi:=[(1004,.arr 589 16 2 (A.length) A)]) [(1004,23)] 2000 aa aa aa aa aa aa aa ⟨aa,aa,trivial⟩ (checkC (aJ:=I) F M ae bM ae ae cF ae bV G ae) ?_);rintro _ _⟨kD,vL,rfl,rfl,qp,rN⟩;obtain⟨j7,jv,fR⟩:=bz (z:=I) (n:=A.length) ae ae;obtain⟨nf,mW,oh,rL,eV⟩:=qN fR G;refine ax (fi rfl (by rw[←jv];rfl) fR ?_);refine jV (uD aa aa aa aa aa aa ao ao eV (fun w8 wB uu=>?_));have wA:af ey w8:=by rw[wB];exact e8 G (aj qp (aj rN bg))
  rw[←uu];exact W
 refine rc 6 aa ?_;obtain⟨j9,sI,pN⟩:=bz (z:=aJ) (n:=A.length) ae ae;obtain⟨oi,kP,_,⟨MP,rfl,adv,adw⟩,fc⟩:=qN pN G;refine ax (fi rfl (by rw[←sI];rfl) pN ?_);refine aK 1 aa (jy (rows:=A) aa aa (bq _) (bq _) pN fc aa ?_);refine ro 2 aa ?_;refine au aa ?_ ?_<;>intro sM
 ·refine rc 4 aa ?_;obtain⟨mG,sb,O⟩:=bz (z:=aJ) (n:=A.length) ae ae;obtain⟨afP,RO,MN,Ad,sd⟩:=qN O G;refine aR (fi rfl (by rw[←sb];rfl) O ?_);refine rq 1 aa (aP aa (jy (rows:=A) aa aa (bq _) (bq _) O sd aa ?_));exact W
 refine rc 5 aa ?_;obtain⟨J5,vQ,U⟩:=bz (z:=aJ) (n:=A.length) ae ae;obtain⟨qu,nP,tv,xq,gI⟩:=qN U G;refine ax (fi rfl (by rw[←vQ];rfl) U ?_);refine aK 1 aa (jy (rows:=A) aa aa (bq _) (bq _) U gI aa ?_);exact et 4 aa (bI aa aa fin)
end Go.Ev.Rp
namespace Go.Ev.Rp
open Go Go.Ev.Pp
attribute [local irreducible] VC VO VQ VI Sound cm
theorem ColumnsC{T:aN}(F:FT T){a0 a1:DC}{bP:ak}(I:aA bP a0)(cK:bP.length≤1000000000)(bM:af ew bP)(bW:tJ.ok a1):Sound T 347 [.d a0,.d a1] fun r=>∃y0 bu,r= .d y0∧aA bu y0∧(bu.length:Int)≤1000000000∧af br bu∧0≤(bu.length:Int)∧(bu=[]→y0= .nil):=by
 refine bj F.q347 aa ?_;obtain⟨aJ,rfl,eC,eg⟩:=bW;refine r0 10 aa ?_;refine bm aa ?_ ?_<;>intro h1
 ·exact W
 refine ro 2 aa (bJ aa aa (aO aa I ?_));refine ro 3 aa ?_;refine au aa ?_ ?_<;>intro h2
 ·exact W
 refine aB 4 aa (bC aa aa ae ae ?_);obtain⟨n3,gA⟩:∃n:Nat,(aJ+1)=n:=⟨((aJ+1)).toNat,(AE ae).symm⟩;refine ax (FH (n:=n3) 19 rfl rfl rfl rfl rfl (by rw[←gA];rfl) (by rw[←gA];rfl) ae ae (fun w3 XI O8=>?_));have oF:af [.b] w3:=by subst XI;exact FG (aj dY bg)
 refine ro 6 aa ?_;obtain⟨j4,pM,nA⟩:=bz (z:=aJ) (n:=w3.length) ae ae;obtain⟨pw,kQ,cY⟩:=qN nA oF;refine ax (fi rfl (by rw[←pM];rfl) nA ?_);refine jV (uD aa aa aa aa aa aa ao ao cY (fun w5 J4 Fc=>?_));have J3:af [.b] w5:=by rw[J4];exact e8 oF (aj dY bg)
 rw[←Fc];refine ro 12 aa (bd [16,4,1,0] [] aa aa (fun e0 b0 k VE B=>∃O lL Y Z A,an ((5,.bs 19 Z 1)::(6,.d lL)::(7,.d (dJ O))::e0) VE∧an ((19,.arr 4 1 1 Z A)::b0) B∧k=(O+1).toNat∧(-1≤O∧O≤aJ)∧(aA Y lL)∧((Y.length:Int)≤aJ-O)∧(af br Y)∧(Y=[]→lL= .nil)∧(A.length=Z)∧(Z=w5.length)∧(af [.b] A)) ?_ fin);rintro _ VE B⟨O,lL,Y,Z,A,hV,hB,rfl,bS,hdv6_0,ug,hrv6_0,hev6_0,rfl,f0_6,QY⟩;refine aU _ _ hV hB (rc 6 aa ?_);refine au aa ?_ ?_<;>intro g6
 ·refine rc 8 aa ?_;obtain⟨j7,jv,fR⟩:=bz (z:=O) (n:=A.length) ae ae;obtain⟨_,⟨bx7_0,rfl⟩,eV⟩:=qN fR QY;refine ax (fi rfl (by rw[←jv];rfl) fR ?_);refine ax (jy (rows:=A) aa aa (bq _) (bq _) fR eV aa ?_);refine ro 2 aa ?_;refine cH aa ?_ ?_<;>intro h8
  ·exact W
  refine rc 5 aa ?_;obtain⟨_,⟨DE,rfl,L3,aeb⟩,_,⟨MP,rfl,adv,adw⟩,_,⟨Ds,rfl,adx,ady⟩,_,⟨M5,rfl,hzx9_3,kzx9_3⟩,EB,tz,EC,tA,Oo,DF,fc⟩:=qI O bM;refine ax (aI aa aa I ae fc aa ?_);refine aK 2 aa (ay aa (MV (aE:=DE) F ae ae) ?_);rintro _ _⟨mg,rfl,Ae⟩;refine ro 2 aa (dE [32,25,16,8,7,6,4,1,0] [] aa aa (fun e0 b0 VE B=>∃L G,an ((5,.bs 19 L 1)::e0) VE∧an ((19,.arr 4 1 1 L G)::b0) B∧(G.length=L)∧(L=A.length)∧(af [.b] G)) ?_ ?_)
  ·refine rc 5 aa ?_;refine bm aa ?_ ?_<;>intro ld
   ·refine ro 2 aa (bJ aa aa (aI aa aa I ae fc aa ?_));refine ro 2 aa (rp 3 aa ?_);refine bm aa ?_ ?_<;>intro zf
    ·refine ro 2 aa (bJ aa aa (aI aa aa I ae fc aa ?_));refine ro 6 aa ?_;refine au aa ?_ ?_<;>intro sK
     ·refine aB 4 aa (aI aa aa I ae fc aa ?_);refine ro 2 aa ?_;obtain⟨oG,sk,pA⟩:=bz (z:=MP) (n:=A.length) ae ae;obtain⟨T3,L4,gX⟩:=qN pA QY;refine ax (fi rfl (by rw[←sk];rfl) pA ?_);refine jV (uD aa aa aa aa aa aa ao ao gX (fun E8 hw15 ai1=>?_));have aiX:af [.b] E8:=by rw[hw15];exact e8 QY (aj dY bg)
      rw[←ai1];exact W
     exact W
    exact W
   exact W
  rintro VE B⟨L,G,hV,hB,rfl,T5,aau⟩;refine aU _ _ hV hB (dE [32,25,16,8,7,6,4,1,0] [] aa aa (fun e0 b0 VE B=>∃M U,an ((5,.bs 19 M 1)::e0) VE∧an ((19,.arr 4 1 1 M U)::b0) B∧(U.length=M)∧(M=G.length)∧(af [.b] U)) ?_ ?_)
  ·refine rc 5 aa ?_;refine bm aa ?_ ?_<;>intro nB
   ·refine ro 2 aa (bJ aa aa (aI aa aa I ae fc aa ?_));refine ro 2 aa (rp 3 aa ?_);refine bm aa ?_ ?_<;>intro sN
    ·refine ro 2 aa (bJ aa aa (aI aa aa I ae fc aa ?_));refine ro 6 aa ?_;refine au aa ?_ ?_<;>intro sO
     ·refine aB 4 aa (aI aa aa I ae fc aa ?_);refine ro 2 aa ?_;obtain⟨sQ,Bx,By⟩:=bz (z:=Ds) (n:=G.length) ae ae;obtain⟨xU,GR,ng⟩:=qN By aau;refine ax (fi rfl (by rw[←Bx];rfl) By ?_);refine jV (uD aa aa aa aa aa aa ao ao ng (fun lW BG yI=>?_));have uf:af [.b] lW:=by rw[BG];exact e8 aau (aj dY bg)
      rw[←yI];exact W
     exact W
    exact W
   exact W
  rintro VE B⟨M,U,hV,hB,rfl,agA,hrw19_j6⟩;refine aU _ _ hV hB (aB 4 aa (aI aa aa I ae fc aa ?_));refine ro 4 aa ?_;refine au aa ?_ ?_<;>intro Ka
  ·refine aB 4 aa (aI aa aa I ae fc aa ?_);refine ro 3 aa ?_;have hb22:af br [[(dJ M5)]]:=(cA (aj ai bg) bT);refine eT 103 103 aa aa (fun _=>⟨aa,aa⟩) (ax (ay aa (xp F hdv6_0 ae hrv6_0 (.inl aa) ae hb22) ?_));rintro _ _⟨M6,Sv,rfl,CD,QZ,CE,Q0,hey23_0⟩;exact W
  exact W
 exact W
theorem aec{T:aN}(F:FT T){a0 a1 a2 a3 a4 a5 a6 a7:DC}(cU:(Ty.s 1000).ok a0){U:ak}(cN:aA U a1)(df:U.length≤100)(cb:af en U)(cG:(Ty.l 200 br).ok a2)(cn:(Ty.l 4 eD).ok a3)(bZ:(Ty.l 4 ee).ok a4)(cl:tJ.ok a5){Y:ak}(M:aA Y a6)(yJ:Y.length≤1000000000)(O:af ew Y)(fS:tJ.ok a7):Sound T 228 [.agg [.d a0,.d a1,.d a2,.d a3,.d a4],.d a5,.d a6,.d a7] fun r=>∃y0 y1,r= .tuple [.d y0,.d y1]∧tJ.ok y0∧tJ.ok y1:=by
 refine bj F.q228 aa ?_;rcases cU,cG,cn,bZ,cl,fS with⟨⟨iP,rfl,kE⟩,⟨bt,cF,dc,bV⟩,⟨de,e6,fI,eA⟩,⟨eu,er,fu,dg⟩,⟨cQ,rfl,ov,ow⟩,⟨db,rfl,sn,sq⟩⟩
 refine bY 10 aa (ay aa (C7 F (bE ah) cN ae cb (aM cF ae bV) (aM e6 ae eA) (aM er ae dg) ai) ?_);rintro _ _⟨ez,fg,rfl,A,jE,I,lu,adD⟩;refine aK 7 aa (ay aa (Ap F M ae O ai A ae I) ?_);rintro _ _⟨mz,_,rfl,Dv,zy2_1,rfl,hzy2_1,kzy2_1⟩;refine ro 9 aa (rp 3 aa ?_);refine au aa ?_ ?_<;>intro h3
 ·exact W
 refine aB 5 aa (ay aa (ColumnsC F M ae O ai) ?_);rintro _ _⟨fJ,Z,rfl,z,th,L,xn,C6⟩;refine ro 8 aa (bd [26,13,12,11,10,9,8,4,3,2,1,0] [4] aa aa (fun e0 b0 k VE B=>∃G,an ((14,.d (dJ G))::e0) VE∧an b0 B∧dP k 0 G (Z.length:Int)) ?_ fin);rintro _ VE B⟨G,hV,hB,rfl,bS⟩;refine aU _ _ hV hB (aB 5 aa (aO aa z ?_));refine ro 2 aa ?_;refine au aa ?_ ?_<;>intro g5
 ·refine rc 7 aa ?_;obtain⟨_,⟨vn,rfl,GN,GO⟩,e7⟩:=qI G L;refine ax (aI aa aa z ae e7 aa ?_);refine ro 3 aa ?_;refine bm aa ?_ ?_<;>intro h7
  ·exact W
  refine ro 2 aa (bJ aa aa (aI aa aa z ae e7 aa ?_));refine ro 2 aa (bJ aa aa (aO aa A ?_));refine ro 3 aa ?_;refine bm aa ?_ ?_<;>intro h8
  ·exact W
  refine ro 3 aa (bJ aa aa (aI aa aa z ae e7 aa ?_));refine ro 1 aa ?_;obtain⟨_,⟨DE,rfl,L3,aeb⟩,fc⟩:=qI vn I;refine bJ aa aa (aI aa aa A ae fc aa ?_);refine ro 1 aa (rp 3 aa ?_);refine cH aa ?_ ?_<;>intro Pc
  ·exact W
  exact W
 exact W
theorem rowE{T:aN}(F:FT T){a0 a1 a2 a3 a4 a5 a6 a7 a8 a9 jR oH oI sU sV sW zj zk zl zm zn zo:DC}(cU:(Ty.s 1000).ok a0){bL:ak}(L:aA bL a1)(df:bL.length≤100)(M:af en bL)(cG:(Ty.l 200 br).ok a2)(cn:(Ty.l 4 eD).ok a3)(bZ:(Ty.l 4 ee).ok a4)(cl:tJ.ok a5)(fw:tJ.ok a6)(fS:(Ty.s 1000).ok a7)(gk:(Ty.l 1000000000 cC).ok a8)(iO:tJ.ok a9)(ni:tJ.ok jR)(pE:(Ty.l 100 ew).ok oH)(BH:tJ.ok oI)(BI:(Ty.l 10 ey).ok sU)(BJ:(Ty.s 1000).ok sV)(BK:(Ty.l 100 en).ok sW)(Jo:(Ty.l 200 br).ok zj)(Jp:(Ty.l 4 eD).ok zk)(Jq:(Ty.l 4 ee).ok zl)(Jr:tJ.ok zm)(Js:(Ty.s 1000).ok zn)(Jt:tJ.ok zo):Sound T 146 [.agg [.d a0,.d a1,.d a2,.d a3,.d a4],.d a5,.agg [.d a6,.d a7,.d a8,.d a9,.d jR,.d oH,.d oI,.d sU,.d sV,.d sW,.d zj,.d zk,.d zl,.d zm,.d zn,.d zo]] fun r=>∃y0,r= .d y0∧tJ.ok y0:=by
 refine bj F.q146 aa ?_;rcases cU,cG,cn,bZ,cl,fw,fS,gk,iO,ni,pE,BH,BI,BJ,BK,Jo,Jp,Jq,Jr,Js,Jt with⟨⟨iP,rfl,kE⟩,⟨bt,O,dc,U⟩,⟨de,Y,fI,Z⟩,⟨eu,er,fu,dg⟩,⟨cQ,rfl,ov,ow⟩,⟨bx,rfl,oj,om⟩,⟨Pd,rfl,Oq⟩,⟨rf,oy,yK,pF⟩,⟨gl,rfl,Bp,Bq⟩,⟨Ot,rfl,M7,M8⟩,⟨ai7,M9,agB,M'⟩,⟨za12,rfl,hza12,kza12⟩,⟨ai8,G,hna13,Na⟩,⟨sa14,rfl,hsa14⟩,⟨wa15,T6,hna15,T7⟩,⟨ai9,Ia,agC,Ib⟩,⟨aja,Ic,agD,Ie⟩,⟨ajb,Ig,agE,Ih⟩,⟨za19,rfl,hza19,kza19⟩,⟨sa20,rfl,hsa20⟩,⟨za21,rfl,hza21,kza21⟩⟩
 refine bY 11 aa (ay aa (GI F ai ai) ?_);rintro _ _⟨_,rfl,TS,rfl⟩;refine ro 2 aa ?_;refine cH aa ?_ ?_<;>intro h2
 ·exact W
 refine rc 1 aa (dE [18,6,5,3,2,1,0] [5,3] aa aa (fun e0 b0 VE B=>an e0 VE∧an b0 B) ?_ ?_)
 ·refine rc 6 aa ?_;refine au aa ?_ ?_<;>intro g3
  ·refine aB 8 aa (ay aa (aec F (bE ah) L ae M (aM O ae U) (aM Y ae Z) (aM er ae dg) ai M9 ae M' ai) ?_);rintro _ _⟨fJ,sm,rfl,o5,vo⟩;exact W
  exact W
 rintro VE B⟨hV,hB⟩;refine aU _ _ hV hB (rc 7 aa ?_);refine au aa ?_ ?_<;>intro h8
 ·exact W
 refine aB 5 aa (ay aa (C7 F (bE ah) L ae M (aM O ae U) (aM Y ae Z) (aM er ae dg) ai) ?_);rintro _ _⟨Jg,agF,rfl,I,aed,Sw,hmy9_0,hfy9_0⟩;refine ro 8 aa (bd [43,18,9,6,5,3,2,1,0] [5,3] aa aa (fun e0 b0 k VE B=>∃z,an ((10,.d (dJ z))::e0) VE∧an b0 B∧dP k 0 z (ai8.length:Int)) ?_ fin);rintro _ VE B⟨z,hV,hB,rfl,bS⟩;refine aU _ _ hV hB (aB 6 aa (aO aa G ?_));refine ro 2 aa ?_;refine au aa ?_ ?_<;>intro sM
 ·refine rc 8 aa ?_;obtain⟨_,⟨zx11_0,rfl,hzx11_0,kzx11_0⟩,MN,Ad,sd⟩:=qI z Na;refine ax (aI aa aa G ae sd aa ?_);refine ro 7 aa (rp 4 aa ?_);refine bm aa ?_ ?_<;>intro nC
  ·exact W
  refine ro 3 aa (bJ aa aa (aO aa I ?_));refine ro 3 aa ?_;refine bm aa ?_ ?_<;>intro Kd
  ·exact W
  refine ro 3 aa ?_;obtain⟨_,⟨C4,rfl,Gd,Ge⟩,gX⟩:=qI zx11_0 Sw;refine bJ aa aa (aI aa aa I ae gX aa ?_);refine ro 1 aa (rp 3 aa ?_);refine au aa ?_ ?_<;>intro Kf
  ·exact W
  refine rc 7 aa (bd [76,51,43,18,11,10,9,6,5,3,2,1,0] [11,5,3] aa aa (fun e0 b0 k VE B=>∃A,an ((12,.d (dJ A))::e0) VE∧an b0 B∧dP k 0 A z) ?_ fin);rintro _ VE B⟨A,hV,hB,rfl,eU⟩;refine aU _ _ hV hB (rc 7 aa ?_);refine au aa ?_ ?_<;>intro nB
  ·refine rc 8 aa ?_;obtain⟨x17_0,hx17_0,xW,GS,ji⟩:=qI A Na;refine aR (aI aa aa G ae ji aa ?_);refine rq 1 aa (cD aa aa (dx aa aa ?_));exact W
  refine aB 9 aa (ay aa (aec F (bE ah) L ae M (aM O ae U) (aM Y ae Z) (aM er ae dg) ai M9 ae M' Ad) ?_);rintro _ _⟨DG,y19_1,rfl,aee,hy19_1⟩;exact W
 exact W
end Go.Ev.Rp
namespace Go.Ev.Rp
open Go Go.Ev.Pp
attribute [local irreducible] VC VO VQ VI Sound cm
theorem evalC{T:aN}(F:FT T){a0 a2:DC}{bP:ak}(cr:aA bP a0)(cK:bP.length≤200)(bM:af ew bP){aJ:Int}(kJ:0≤aJ)(kK:aJ≤(bP.length:Int) -1){bt:ak}(cF:aA bt a2)(dc:bt.length≤1000000000)(bV:af cC bt){de:ak}(eA:af cC de)(hma3:aJ+1≤(de.length:Int)):cm T 519 [.d a0,.d (dJ aJ),.d a2,.bs 1004 de.length 3] [(1004,.arr 121 32 3 de.length de)] fun r B=>∃y0 y1 y2,r= .agg [.d y0,.d y1,.d y2]∧B=[(1004,.arr 121 32 3 de.length de)]∧tJ.ok y0∧tJ.ok y1∧(Ty.s 1000).ok y2:=by
 refine kM F.q519 aa (r0 8 aa ?_);obtain⟨_,⟨U,rfl,L0,L1⟩,_,⟨tB,rfl,Sp,Sq⟩,_,⟨tC,rfl,Sr,Ss⟩,_,⟨zx1_3,rfl,hzx1_3,kzx1_3⟩,V3,T2,Jm,DD,V4,agt,nE⟩:=qI aJ bM;refine ax (aI aa aa cr ae nE aa ?_);refine aK 8 aa (ay aa (MV (aE:=U) F ae ae) ?_);rintro _ _⟨mz,rfl,Dv⟩;refine ro 2 aa (dE [10,9,8,3,2,1,0] [1004,9,8] aa aa (fun e0 b0 VE B=>an e0 VE∧an b0 B∧(((U=10∨U=11∨(3≤U∧U≤9))→0≤tB∧tB<aJ)∧((3≤U∧U≤9)→0≤tC∧tC<aJ))) ?_ ?_)
 ·refine rc 5 aa ?_;refine bm aa ?_ ?_<;>intro h3
  ·exact W
  refine ro 2 aa (bJ aa aa (ay aa (adT (aJ:=aJ) F cr ae bM ae ae nE) ?_));rintro _ _⟨fJ,rfl,o5⟩;exact W
 rintro VE B⟨hV,hB,fj0_0⟩;refine aU _ _ hV hB (rc 5 aa (dE [12,11,10,9,8,3,2,1,0] [1004,12,9,8] aa aa (fun e0 b0 VE B=>∃Y Z Qk,an e0 VE∧an ((11,.one 121 32 [.d Y,.d Z,.d Qk])::b0) B∧(tJ.ok Y)∧(tJ.ok Z)∧((Ty.s 1000).ok Qk)) ?_ ?_))
 ·refine rc 5 aa ?_;refine au aa ?_ ?_<;>intro g6
  ·refine rc 4 aa ?_;obtain⟨j7,jv,fR⟩:=bz (z:=tB) (n:=de.length) ae ae;obtain⟨nf,mW,oh,rL,Bv,AS,eV⟩:=qN fR eA;refine ax (fi rfl (by rw[←jv];rfl) fR ?_);refine ax (PR (rows:=de) aa aa (bq _) (bq _) fR eV (aS aa) (aS aa) ?_);exact W
  exact W
 rintro VE B⟨Y,Z,Qk,hV,hB,A,G,I⟩;refine aU _ _ hV hB (dE [12,11,10,9,8,3,2,1,0] [1004,11,9,8] aa aa (fun e0 b0 VE B=>∃Ql Qm Qn,an e0 VE∧an ((12,.one 121 32 [.d Ql,.d Qm,.d Qn])::b0) B∧(tJ.ok Ql)∧(tJ.ok Qm)∧((Ty.s 1000).ok Qn)) ?_ ?_)
 ·refine rc 5 aa ?_;refine au aa ?_ ?_<;>intro g8
  ·refine rc 4 aa ?_;obtain⟨j9,sI,pN⟩:=bz (z:=tC) (n:=de.length) ae ae;obtain⟨oi,kP,pr,rM,BL,tD,fc⟩:=qN pN eA;refine ax (fi rfl (by rw[←sI];rfl) pN ?_);refine ax (PR (rows:=de) aa aa (bq _) (bq _) pN fc (aS aa) (aS aa) ?_);exact W
  exact W
 rintro VE B⟨Ql,Qm,Qn,hV,hB,L,M,O⟩;refine aU _ _ hV hB (rc 12 aa ?_);refine au aa ?_ ?_<;>intro Pc
 ·exact W
 refine rc 5 aa ?_;refine au aa ?_ ?_<;>intro sJ
 ·exact W
 refine rc 5 aa ?_;refine au aa ?_ ?_<;>intro ur
 ·refine rc 2 aa ?_;obtain⟨ZE,rfl,YW,YX⟩:=Ty.dH A;refine rp 4 aa ?_;refine bm aa ?_ ?_<;>intro nB
  ·refine ro 2 aa ?_;obtain⟨zc12_0_j2,rfl,hzc12_0_j2,kzc12_0_j2⟩:=Ty.dH L;refine rp 3 aa ?_;refine bm aa ?_ ?_<;>intro sN
   ·refine ro 2 aa (bJ aa aa (ay aa (HZ F ai G I ai M O) ?_));rintro _ _⟨_,rfl,zy18_0,rfl,hzy18_0,kzy18_0⟩;refine aK 2 aa (ay aa (qs F dY) ?_);rintro _ _⟨DG,y19_1,y19_2,rfl,aee,hy19_1,hy19_2⟩;exact W
   refine aK 5 aa (ay aa (qs F dY) ?_);rintro _ _⟨agG,y20_1,y20_2,rfl,hy20_0,hy20_1,hy20_2⟩;exact W
  refine aK 10 aa (ay aa (qs F dY) ?_);rintro _ _⟨T8,y21_1,y21_2,rfl,aef,hy21_1,hy21_2⟩;exact W
 refine rc 5 aa ?_;refine au aa ?_ ?_<;>intro g22
 ·refine rc 2 aa ?_;obtain⟨ZE,rfl,YW,YX⟩:=Ty.dH A;refine rp 4 aa ?_;refine bm aa ?_ ?_<;>intro O9
  ·refine ro 4 aa ?_;obtain⟨zc12_0_j2,rfl,hzc12_0_j2,kzc12_0_j2⟩:=Ty.dH L;refine rp 3 aa ?_;refine bm aa ?_ ?_<;>intro O2
   ·refine ro 2 aa (bJ aa aa (ay aa (HZ F ai G I ai M O) ?_));rintro _ _⟨_,rfl,zy25_0,rfl,hzy25_0,kzy25_0⟩;refine aK 2 aa (ay aa (qs F dY) ?_);rintro _ _⟨agH,y26_1,y26_2,rfl,hy26_0,hy26_1,hy26_2⟩;exact W
   refine aK 5 aa (ay aa (qs F dY) ?_);rintro _ _⟨agI,y27_1,y27_2,rfl,hy27_0,hy27_1,hy27_2⟩;exact W
  refine aK 12 aa (ay aa (qs F dY) ?_);rintro _ _⟨H9,y28_1,y28_2,rfl,aea,hy28_1,hy28_2⟩;exact W
 refine rc 5 aa ?_;refine au aa ?_ ?_<;>intro O4
 ·refine aB 3 aa (ay aa (xT F A G I) ?_);rintro _ _⟨_,rfl,ad7,rfl⟩;refine ro 1 aa ?_;refine bm aa ?_ ?_<;>intro h31
  ·refine ro 1 aa (bJ aa aa (ay aa (xT F L M O) ?_));rintro _ _⟨ags,rfl,ad8⟩;refine aK 1 aa (ay aa (qs F ad8) ?_);rintro _ _⟨agx,y33_1,y33_2,rfl,hy33_0,hy33_1,hy33_2⟩;exact W
  refine aK 3 aa (ay aa (qs F dY) ?_);rintro _ _⟨T9,y34_1,y34_2,rfl,hy34_0,hy34_1,hy34_2⟩;exact W
 refine rc 5 aa ?_;refine au aa ?_ ?_<;>intro XE
 ·refine aB 3 aa (ay aa (xT F A G I) ?_);rintro _ _⟨_,rfl,by36_0,rfl⟩;refine ro 1 aa ?_;refine bm aa ?_ ?_<;>intro Xy
  ·refine aK 3 aa (ay aa (qs F dY) ?_);rintro _ _⟨agy,y38_1,y38_2,rfl,hy38_0,hy38_1,hy38_2⟩;exact W
  refine ro 1 aa (bJ aa aa (ay aa (xT F L M O) ?_));rintro _ _⟨y39_0,rfl,hy39_0⟩;refine aK 1 aa (ay aa (qs F hy39_0) ?_);rintro _ _⟨y40_0,y40_1,y40_2,rfl,hy40_0,hy40_1,hy40_2⟩;exact W
 refine rc 5 aa ?_;refine au aa ?_ ?_<;>intro XJ
 ·refine aB 3 aa (ay aa (xT F A G I) ?_);rintro _ _⟨_,rfl,by42_0,rfl⟩;refine aK 1 aa (ay aa (qs F dY) ?_);rintro _ _⟨y43_0,y43_1,y43_2,rfl,hy43_0,hy43_1,hy43_2⟩;exact W
 refine rc 5 aa ?_;refine au aa ?_ ?_<;>intro O7
 ·refine rc 2 aa ?_;obtain⟨ZE,rfl,YW,YX⟩:=Ty.dH A;refine gz 3 aa (ay aa (qs F dY) ?_);rintro _ _⟨y45_0,y45_1,y45_2,rfl,hy45_0,hy45_1,hy45_2⟩;exact W
 refine aB 7 aa (ay aa (arithC F ai A G I L M O) ?_);rintro _ _⟨y46_0,y46_1,y46_2,rfl,hy46_0,hy46_1,hy46_2⟩;exact W
theorem AW{T:aN}(F:FT T){a0 a1 a2:DC}{O:ak}(M:aA O a0)(cK:O.length≤200)(bM:af ew O)(bW:tJ.ok a1){U:ak}(cF:aA U a2)(dc:U.length≤1000000000)(bV:af cC U):Sound T 424 [.d a0,.d a1,.d a2] fun r=>∃y0 y1 y2,r= .agg [.d y0,.d y1,.d y2]∧tJ.ok y0∧tJ.ok y1∧(Ty.s 1000).ok y2:=by
 refine bj F.q424 aa ?_;obtain⟨aJ,rfl,eC,eg⟩:=bW;refine r0 10 aa ?_;refine bm aa ?_ ?_<;>intro h1
 ·exact W
 refine ro 2 aa (bJ aa aa (aO aa M ?_));refine ro 3 aa ?_;refine au aa ?_ ?_<;>intro h2
 ·exact W
 refine aB 4 aa (bC aa aa ae ae ?_);obtain⟨n3,gA⟩:∃n:Nat,(aJ+1)=n:=⟨((aJ+1)).toNat,(AE ae).symm⟩;refine ax (FH (n:=n3) 20 rfl rfl rfl rfl rfl (by rw[←gA];rfl) (by rw[←gA];rfl) ae ae (fun w3 XI O8=>?_));have oF:af cC w3:=by subst XI;exact FG (aj ai (aj ai (aj (bE (s:=[]) ao) bg)))
 refine ro 8 aa (bd [16,6,2,1,0] [6] aa aa (fun e0 b0 k VE B=>∃G L A,an ((7,.bs 20 L 3)::(8,.d (dJ G))::e0) VE∧an ((20,.arr 121 32 3 L A)::b0) B∧k=(((aJ+1):Int) -G).toNat∧(0≤G∧(G≤(aJ+1)∨G=0))∧(A.length=L)∧(L=w3.length)∧(af cC A)) ?_ fin);rintro _ VE B⟨G,L,A,hV,hB,rfl,bS,rfl,ug,I⟩;refine aU _ _ hV hB (rc 7 aa ?_);refine au aa ?_ ?_<;>intro g4
 ·refine aB 10 aa (mM (dj:=[.d a0,.d (dJ G),.d a2,.bs 1004 (A.length) 3]) (Bi:=[(1004,.arr 121 32 3 (A.length) A)]) [(1004,20)] 2000 aa aa aa aa aa aa aa ⟨aa,aa,trivial⟩ (evalC (aJ:=G) F M ae bM ae ae cF ae bV I ae) ?_);rintro _ _⟨gV,ajc,V5,rfl,rfl,Y,Z,Ii⟩;obtain⟨j6,sT,pU⟩:=bz (z:=G) (n:=A.length) ae ae;obtain⟨Jl,AV,BC,xV,V6,Nb,e7⟩:=qN pU I;refine ax (fi rfl (by rw[←sT];rfl) pU ?_);refine jV (uD aa aa aa aa aa aa ao ao e7 (fun w7 Kg Fa=>?_));have J6:af cC w7:=by rw[Kg];exact e8 I (aj Y (aj Z (aj Ii bg)))
  rw[←Fa];exact W
 refine rc 5 aa ?_;obtain⟨j8,B6,sH⟩:=bz (z:=aJ) (n:=A.length) ae ae;obtain⟨N6,afO,Ve,MM,x8_2,hx8_2,hH⟩:=qN sH I;refine ax (fi rfl (by rw[←B6];rfl) sH ?_);refine ax (PR (rows:=A) aa aa (bq _) (bq _) sH hH (aS aa) (aS aa) ?_);exact W
end Go.Ev.Rp
namespace Go.Ev.Rp
open Go Go.Ev.Pp
attribute [local irreducible] VC VO VQ VI Sound cm
theorem agJ{T:aN}(F:FT T){a0 a1 a2 a3 a4 a5:DC}(cU:(Ty.s 1000).ok a0){z:ak}(A:aA z a1)(df:z.length≤100)(I:af en z)(cG:(Ty.l 200 br).ok a2)(cn:(Ty.l 4 eD).ok a3)(bZ:(Ty.l 4 ee).ok a4)(cl:tJ.ok a5):Sound T 136 [.agg [.d a0,.d a1,.d a2,.d a3,.d a4],.d a5] fun r=>∃y0 y1 y2 L y4,r= .tuple [.agg [.d y0,.d y1,.d y2],dB y4]∧tJ.ok y0∧tJ.ok y1∧aA L y2∧(L.length:Int)≤12∧af mw L∧(y4=true→1≤(z.length:Int)):=by
 refine bj F.q136 aa ?_;rcases cU,cG,cn,bZ,cl with⟨⟨iP,rfl,kE⟩,⟨bt,O,dc,U⟩,⟨de,Y,fI,Z⟩,⟨eu,er,fu,dg⟩,⟨cQ,rfl,ov,ow⟩⟩
 refine bY 10 aa (ay aa (ZD F (bE ah) A ae I (aM O ae U) (aM Y ae Z) (aM er ae dg)) ?_);rintro _ _⟨ez,rfl,M⟩;refine ro 2 aa ?_;refine bm aa ?_ ?_<;>intro h2
 ·exact W
 have k2:=M (by simpa using h2);refine ro 4 aa ?_;refine au aa ?_ ?_<;>intro h3
 ·exact W
 refine aB 7 aa (aO aa A ?_);refine ax (dq aa aa ae ae ?_);obtain⟨pw,kQ,fo,mh,sg,⟨agK,G,aeg,hrx4_2⟩,cY⟩:=qI ((z.length:Int) -1) I;refine ax (aI aa aa A ae cY aa ?_);have kb:=jX.get (And.right dm) (mb _) cY rfl G;exact W
theorem Ij{T:aN}(F:FT T){a0 a1 a2 a3 a4 a5:DC}(cU:(Ty.s 1000).ok a0)(bW:(Ty.l 100 en).ok a1)(cG:(Ty.l 200 br).ok a2)(cn:(Ty.l 4 eD).ok a3)(bZ:(Ty.l 4 ee).ok a4){I:ak}(Z:aA I a5)(vX:I.length≤100000)(kV:af jK I):Sound T 85 [.agg [.d a0,.d a1,.d a2,.d a3,.d a4,.d a5]] fun r=>∃y0 L,r= .d y0∧aA L y0∧(L.length:Int)≤I.length∧af jr L∧0≤(L.length:Int)∧(L=[]→y0= .nil):=by
 refine bj F.q85 aa ?_;rcases cU,bW,cG,cn,bZ with⟨⟨iP,rfl,kE⟩,⟨bL,cN,df,cb⟩,⟨bt,cF,dc,bV⟩,⟨de,e6,fI,eA⟩,⟨eu,er,fu,dg⟩⟩
 refine r0 15 aa (dh 3 90 148 64 4 aa aa (bd [2,1,0] [1] aa aa (fun e0 b0 k VE B=>∃z A,an ((3,.ac 90 A.length 4)::(4,.d (dJ z))::e0) VE∧an ((90,.acc 148 64 4 A)::b0) B∧k=((I.length:Int) -z).toNat∧(0≤z∧(z≤(I.length:Int)∨z=0))∧((A.length:Int)≤z)∧(af jr A)) ?_ fin));rintro _ VE B⟨z,A,hV,hB,rfl,bS,cM,xo⟩;refine aU _ _ hV hB (aB 6 aa (aO aa Z ?_));refine ro 2 aa ?_;refine au aa ?_ ?_<;>intro g1
 ·refine rc 8 aa ?_;obtain⟨_,⟨G,rfl,qe,rB⟩,fP,⟨n7,U,nR,Y⟩,_,⟨M,rfl,uX,uY⟩,_,⟨O,rfl,aeh,aei⟩,vZ,xX,_,⟨Nc,rfl,hzx2_5,kzx2_5⟩,bQ⟩:=qI z kV;refine ax (aI aa aa Z ae bQ aa ?_);refine ro 6 aa (rp 5 aa ?_);refine au aa ?_ ?_<;>intro g3
  ·refine rc 6 aa (aP aa (ay aa (widthC F (bE ah) (aM cN ae cb) (aM cF ae bV) (aM e6 ae eA) (aM er ae dg)) ?_));rintro _ _⟨_,rfl,zy4_0,rfl,hzy4_0,kzy4_0⟩;refine aP aa (ay aa (ai5 F U ae Y ai) ?_);rintro _ _⟨gV,gR,rfl,jY,qf,jl,rD,qg⟩;refine rq 5 aa ?_;have O1:af br [[(dJ G)]]:=(cA (aj ai bg) bT);refine adh 33 33 aa aa (fun _=>⟨aa,aa⟩) (rq 2 aa ?_);refine aP rfl (aX (rows:=A) (ys:=[[gV,(dJ M),(dJ O),(.sl [[(dJ G)]])]]) rfl rfl rfl (.bs (rows:=[[gV,(dJ M),(dJ O),(.sl [[(dJ G)]])]]) rfl) ao ae (fun h=>by rw[h];rfl) (fun h=>by rw[h];rfl) ?_);exact W
  exact W
 exact rc 6 aa (cf 2 90 aa aa (fun _=>⟨aa,aa⟩) (W))
theorem Pe{T:aN}(F:FT T){a0 a1 a2:DC}{I:ak}(G:aA I a0)(cK:I.length≤1000000000)(bM:af jr I){bL:ak}(cN:aA bL a1)(df:bL.length≤1000000000)(cb:af br bL){bt:ak}(cF:aA bt a2)(dc:bt.length≤1000000000)(bV:af cC bt):Sound T 152 [.d a0,.d a1,.d a2] fun r=>∃y0 L,r= .d y0∧aA L y0∧(L.length:Int)≤I.length∧af jr L∧0≤(L.length:Int)∧(L=[]→y0= .nil):=by
 refine bj F.q152 aa (r0 14 aa (dh 7 90 148 64 4 aa aa (bd [6,2,1,0] [] aa aa (fun e0 b0 k VE B=>∃z A,an ((7,.ac 90 A.length 4)::(8,.d (dJ z))::e0) VE∧an ((90,.acc 148 64 4 A)::b0) B∧k=((I.length:Int) -z).toNat∧(0≤z∧(z≤(I.length:Int)∨z=0))∧((A.length:Int)≤z)∧(af jr A)) ?_ fin)));rintro _ VE B⟨z,A,hV,hB,rfl,bS,cM,GU⟩;refine aU _ _ hV hB (aB 5 aa (aO aa G ?_));refine ro 2 aa ?_;refine au aa ?_ ?_<;>intro g1
 ·refine rc 7 aa ?_;obtain⟨gW,⟨qy,Z,xr,Aq⟩,fP,M,gb,O,lM,⟨Nd,GV,L5,Ar⟩,bQ⟩:=qI z bM;refine ax (aI aa aa G ae bQ aa ?_);refine aK 2 aa (ay aa (oV F M O) ?_);rintro _ _⟨_,rfl,AP,rfl⟩;refine ro 1 aa ?_;refine bm aa ?_ ?_<;>intro h4
  ·refine ro 2 aa (bJ aa aa (aI aa aa G ae bQ aa ?_));refine ro 3 aa (bJ aa aa (ay aa (agr F Z ae Aq cN ae cb) ?_));rintro _ _⟨gV,gR,rfl,jY,qf,jl,rD,qg⟩;refine ro 1 aa (bJ aa aa (ay aa (xQ F (aM jY ae jl) (aM cF ae bV)) ?_));rintro _ _⟨_,rfl,TV,rfl,adL,adM⟩;refine ro 3 aa ?_;refine au aa ?_ ?_<;>intro g7
   ·refine aB 4 aa (aI aa aa G ae bQ aa ?_);rcases Ty.dH M,Ty.dH O with⟨⟨U,rfl,oU,l9⟩,⟨Y,rfl,uX,uY⟩⟩
    refine ro 2 aa ?_;refine ax (aX (rows:=A) (ys:=[[gW,(dJ U),(dJ Y),lM]]) rfl rfl rfl (.bs (rows:=[[gW,(dJ U),(dJ Y),lM]]) rfl) ao ae (fun h=>by rw[h];rfl) (fun h=>by rw[h];rfl) ?_);exact W
   exact W
  exact W
 exact rc 6 aa (cf 6 90 aa aa (fun _=>⟨aa,aa⟩) (W))
theorem T'{T:aN}(F:FT T){a0 a1:DC}{L:ak}(M:aA L a0)(cK:L.length≤1000000)(bM:af jr L)(bW:tJ.ok a1):Sound T 154 [.d a0,.d a1] fun r=>∃y0 y1 O,r= .tuple [.d y0,.d y1]∧tJ.ok y0∧aA O y1∧(O.length:Int)≤1000000000∧af br O∧0≤(O.length:Int)∧(O=[]→y1= .nil):=by
 refine bj F.q154 aa ?_;obtain⟨aJ,rfl,eC,eg⟩:=bW;refine r0 19 aa (bd [5,4,1,0] [] aa aa (fun e0 b0 k VE B=>∃G I A z,an ((6,.d (dJ G))::(7,.d I)::(8,.d (dJ z))::e0) VE∧an b0 B∧k=((L.length:Int) -z).toNat∧(0≤G∧G≤z)∧(aA A I)∧((A.length:Int)≤200*z)∧(af br A)∧(A=[]→I= .nil)∧(0≤z∧(z≤(L.length:Int)∨z=0))) ?_ fin);rintro _ VE B⟨G,I,A,z,hV,hB,rfl,bS,U,ug,Y,hev7_0,uc⟩;refine aU _ _ hV hB (aB 5 aa (aO aa M ?_));refine ro 2 aa ?_;refine au aa ?_ ?_<;>intro g1
 ·refine rc 7 aa ?_;obtain⟨gW,iG,fP,jf,gb,iS,lM,⟨Nd,Z,L5,Ar⟩,bQ⟩:=qI z bM;refine ax (aI aa aa M ae bQ aa ?_);refine aK 3 aa (ay aa (MQ F jf iS ai) ?_);rintro _ _⟨_,rfl,AP,rfl⟩;refine ro 1 aa ?_;refine cH aa ?_ ?_<;>intro h4
  ·refine aB 3 aa (bC aa aa ae ae ?_);refine aK 6 aa (aI aa aa M ae bQ aa ?_);refine aK 2 aa (ay aa (xp F U ae Y Z ae Ar) ?_);rintro _ _⟨gV,gR,rfl,jY,qf,jl,rD,qg⟩;exact W
  exact W
 exact W
theorem abG{T:aN}(F:FT T){a0 a1 a2:DC}{M:ak}(U:aA M a0)(cK:M.length≤1000000000)(Y:af cC M){bL:ak}(cN:aA bL a1)(df:bL.length≤200)(cb:af ew bL){O:ak}(Z:aA O a2)(dc:O.length≤1000000000)(bV:af ey O):Sound T 349 [.d a0,.d a1,.d a2] fun r=>∃y0 bu,r= .d y0∧aA bu y0∧(bu.length:Int)≤1000000000∧af cC bu:=by
 refine bj F.q349 aa (bY 7 aa (dQ (ys:=M) 11 aa aa aa aa aa (.sD U (cO Y aa)) ao ae ?_));refine aK 6 aa (aO aa Z ?_);refine ro 3 aa (bd [13,12,6,2,1,0] [] aa aa (fun e0 b0 k VE B=>∃A I G,an ((7,.ac 11 I 3)::(14,.d (dJ A))::e0) VE∧an ((11,.acc 121 32 3 G)::b0) B∧k=((O.length:Int) -A).toNat∧(0≤A∧(A≤(O.length:Int)∨A=0))∧(G.length=I)∧(I=(M).length)∧(af cC G)) ?_ fin);rintro _ VE B⟨A,I,G,hV,hB,rfl,bS,rfl,ug,L⟩;refine aU _ _ hV hB (rc 5 aa ?_);refine au aa ?_ ?_<;>intro g1
 ·refine rc 5 aa ?_;obtain⟨_,⟨ka,rfl,qe,rB⟩,fP,jf,bQ⟩:=qI A bV;refine ax (aI aa aa Z ae bQ aa ?_);refine ro 6 aa (rp 4 aa ?_);refine bm aa ?_ ?_<;>intro g3
  ·refine ro 3 aa (bJ aa aa (aa2 aa ?_));refine ro 3 aa ?_;refine au aa ?_ ?_<;>intro g4
   ·refine rc 8 aa (aP aa (ay aa (AW F cN ae cb jf U ae Y) ?_));rintro _ _⟨gV,ajc,V5,rfl,rK,Ua,Ii⟩;obtain⟨j6,sT,pU⟩:=bz (z:=ka) (n:=G.length) ae ae;obtain⟨Jl,AV,BC,xV,V6,Nb,e7⟩:=qN pU L;refine aR (cX rfl (by rw[←sT];rfl) pU ?_);refine gK aa (fZ aa aa aa aa aa aa ao ao e7 (fun w7 Kg Fa=>?_));have J6:af cC w7:=by rw[Kg];exact e8 L (aj rK (aj Ua (aj Ii bg)))
    rw[←Fa];exact W
   exact W
  exact W
 exact rc 6 aa (cf 6 11 aa aa (fun _=>⟨aa,aa⟩) (W))
end Go.Ev.Rp
