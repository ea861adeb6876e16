/- Part 29 of rules for walks through the code of a program, and of such walks; what each part proves is said by its theorems. -/
import Derived.Test.YtdaamclhcpjdpaaGreatDoorT20
import Derived.Test.YtdaamclhcpjdpaaGreatDoorT21
import Derived.Test.YtdaamclhcpjdpaaGreatDoorT22
import Derived.Test.YtdaamclhcpjdpaaGreatDoorT28
set_option linter.unusedVariables false
set_option linter.unusedSimpArgs false
noncomputable section
set_option maxRecDepth 100000
set_option maxHeartbeats 4000000
namespace Go.Ev.Rp
open Go Go.Ev.Pp
attribute [local irreducible] VC VO VQ VI Sound cF
theorem SN{T:aO}(F:FT T){a0:DC}(I:(Ty.s 1000).ok a0):Sound T 226 [.d a0] fun r=>∃y0,r= .d y0∧(Ty.b).ok y0:=by
 refine bg F.q226 aa ?_;obtain⟨A,rfl,jl⟩:=I;refine r0 11 aa ?_;refine bk aa ?_ ?_<;>intro h1
 ·exact W
 refine ro 1 aa (bw aa aa (vi_lenStr aa ?_));refine ro 3 aa ?_;refine bk aa ?_ ?_<;>intro h2
 ·exact W
 refine ro 1 aa ?_;obtain⟨j3,L,M⟩:=bF (z:=0) (n:=A.length) ae ae;obtain⟨c3,O⟩:∃c,A[j3]?=some c:=⟨_,dm M⟩;refine bw rfl rfl (Qe rfl (by rw[←L];rfl) O ?_);refine ro 3 aa ?_;refine bk aa ?_ ?_<;>intro h4
 ·exact W
 refine ro 1 aa ?_;obtain⟨j5,U,Y⟩:=bF (z:=0) (n:=A.length) ae ae;obtain⟨c5,Z⟩:∃c,A[j5]?=some c:=⟨_,dm Y⟩;refine bw rfl rfl (Qe rfl (by rw[←U];rfl) Z ?_);refine ro 3 aa ?_;refine ax aa ?_ ?_<;>intro h6
 ·exact W
 refine rc 7 aa (bd [22,2,0] [] aa aa (fun e0 b0 k VE B=>∃G,an ((3,.d (dJ G))::e0) VE∧an b0 B∧dT k 0 G (A.length:Int)) ?_ fin);rintro _ VE B⟨G,hV,hB,rfl,bR⟩;refine aS _ _ hV hB (rc 8 aa ?_);refine ax aa ?_ ?_<;>intro g7
 ·refine rc 7 aa ?_;obtain⟨j8,Kn,zW⟩:=bF (z:=G) (n:=A.length) ae ae;obtain⟨c8,hc8⟩:∃c,A[j8]?=some c:=⟨_,dm zW⟩;refine aw (Qe rfl (by rw[←Kn];rfl) hc8 ?_);exact W
 exact W
theorem Mj{T:aO}(F:FT T){a0 a1 a2 a3 a4 a5:DC}(cC:(Ty.s 1000).ok a0)(bX:(Ty.l 100 dk).ok a1)(cN:(Ty.l 200 bc).ok a2)(ch:(Ty.l 4 dy).ok a3)(bY:(Ty.l 4 dj).ok a4)(cB:(Ty.l 200 bc).ok a5):Sound T 345 [.agg [.d a0,.d a1,.d a2,.d a3,.d a4],.d a5] fun r=>∃y0,r= .d y0∧(Ty.b).ok y0:=by
 refine bg F.q345 aa ?_;rcases cC,bX,cN,ch,bY,cB with⟨⟨gN,rfl,jl⟩,⟨bN,L,dg,Z⟩,⟨bu,cu,cX,bS⟩,⟨da,ez,fe,dQ⟩,⟨ed,dY,fJ,dw⟩,⟨jJ,M,wg,kW⟩⟩
 refine r0 11 aa (bd [4,2,1,0] [2] aa aa (fun e0 b0 k VE B=>∃z,an ((5,.d (dJ z))::e0) VE∧an b0 B∧dT k 0 z (bN.length:Int)) ?_ fin);rintro _ VE B⟨z,hV,hB,rfl,bR⟩;refine aS _ _ hV hB (aB 6 aa (aM aa L ?_));refine ro 2 aa ?_;refine ax aa ?_ ?_<;>intro g1
 ·refine rc 8 aa (bd [11,5,4,2,1,0] [2] aa aa (fun e0 b0 k VE B=>∃A,an ((6,.d (dJ A))::e0) VE∧an b0 B∧dT k 0 A (jJ.length:Int)) ?_ fin);rintro _ VE B⟨A,hV,hB,rfl,fh⟩;refine aS _ _ hV hB (aB 5 aa (aM aa M ?_));refine ro 2 aa ?_;refine ax aa ?_ ?_<;>intro g2
  ·refine rc 8 aa ?_;obtain⟨ng,O,qF,U,vX,⟨M5,G,Me,I⟩,eS⟩:=qI z Z;refine aT (aF aa aa L ae eS aa ?_);refine cr aa aa (gr aa (aV aa) (aV aa) ?_);refine rq 2 aa ?_;obtain⟨po,Y,cZ⟩:=qI A kW;refine aT (aF aa aa M ae cZ aa ?_);refine cr aa aa (c4 aa aa ?_);refine aP aa (aA aa (Ou F O U G ae I Y) ?_);rintro _ _⟨gM,rfl,kS⟩;exact W
  exact W
 exact W
theorem folC{T:aO}(F:FT T){a0 a1 a2 a3 a4 a5 a6:DC}(cC:tJ.ok a0)(bX:tJ.ok a1)(cN:(Ty.l 13 gB).ok a2)(ch:tJ.ok a3)(bY:tJ.ok a4)(cB:(Ty.l 13 gB).ok a5)(fE:tJ.ok a6):Sound T 343 [.agg [.d a0,.d a1,.d a2],.agg [.d a3,.d a4,.d a5],.d a6] fun r=>∃y0,r= .d y0∧(Ty.b).ok y0:=by
 refine bg F.q343 aa ?_;rcases cC,bX,cN,ch,bY,cB,fE with⟨⟨aK,rfl,gZ,hD⟩,⟨aH,rfl,ey,dW⟩,⟨bu,G,cX,I⟩,⟨bn,rfl,mB,mC⟩,⟨bT,rfl,oj,om⟩,⟨jJ,z,wg,kW⟩,⟨bx,rfl,oe,og⟩⟩
 refine r0 17 aa ?_;refine ax aa ?_ ?_<;>intro h1
 ·exact W
 refine rc 7 aa (bd [15,6,4,3,2,1,0] [4,3] aa aa (fun e0 b0 k VE B=>∃A,an ((7,.d (dJ A))::e0) VE∧an b0 B∧dT k 0 A (jJ.length:Int)) ?_ fin);rintro _ VE B⟨A,hV,hB,rfl,bR⟩;refine aS _ _ hV hB (aB 6 aa (aM aa z ?_));refine ro 2 aa ?_;refine ax aa ?_ ?_<;>intro g2
 ·refine rc 9 aa ?_;obtain⟨_,⟨L,rfl,L8,GY⟩,_,⟨M,rfl,hsx3_1⟩,_,⟨O,rfl,Sn,So⟩,U⟩:=qI A kW;refine aT (aF aa aa z ae U aa ?_);refine rq 1 aa (cr aa aa (c4 aa aa ?_));refine aP aa (aA aa (Ou F ai ai G ae I ai) ?_);rintro _ _⟨gh,rfl,qf⟩;refine rq 7 aa ?_;refine dK aa ?_ ?_<;>intro g5
  ·refine rq 3 aa (cb aa aa (aF aa aa z ae U aa ?_));refine rq 6 aa ?_;refine dK aa ?_ ?_<;>intro g6
   ·refine rq 3 aa (bL aa (dA aa (bL aa (bL aa (dA aa (bL aa (dA aa (bL aa (bL aa ?_)))))))));exact dA aa (bL aa (rq 2 aa (W)))
   refine rq 3 aa ?_;refine dK aa ?_ ?_<;>intro g7
   ·refine rq 3 aa ?_;obtain⟨_,⟨Ih,rfl,aeq,aer⟩,_,⟨agI,rfl,hsx8_1⟩,_,⟨zx8_2,rfl,hzx8_2,kzx8_2⟩,jt⟩:=qI gh I;refine cb aa aa (aF aa aa G ae jt aa ?_);refine rq 4 aa (cb aa aa (aF aa aa z ae U aa ?_));refine rq 1 aa (cb aa aa (xk (r:=[(dJ Ih),(al agI),(dJ zx8_2)]) (r':=[(dJ L),(al M),(dJ O)]) aa aa aa aa (fun b9=>?_)));exact rq 2 aa (W)
   exact rq 13 aa (W)
  refine rq 13 aa ?_;refine dK aa ?_ ?_<;>intro l7
  ·refine rq 3 aa ?_;obtain⟨_,⟨Y,rfl,hzx12_0,kzx12_0⟩,_,⟨Z,rfl,hsx12_1⟩,_,⟨zx12_2,rfl,hzx12_2,kzx12_2⟩,iY⟩:=qI gh I;refine cb aa aa (aF aa aa G ae iY aa ?_);refine rq 4 aa (cb aa aa (aF aa aa z ae U aa ?_));refine rq 1 aa (cb aa aa (xk (r:=[(dJ Y),(al Z),(dJ zx12_2)]) (r':=[(dJ L),(al M),(dJ O)]) aa aa aa aa (fun b13=>?_)));exact rq 2 aa (W)
  exact rq 13 aa (W)
 exact W
theorem Uz{T:aO}(F:FT T){a0 a1 a2 a3 a4 a5:DC}(cC:(Ty.s 1000).ok a0)(bX:(Ty.l 100 dk).ok a1)(cN:(Ty.l 200 bc).ok a2)(ch:(Ty.l 4 dy).ok a3)(bY:(Ty.l 4 dj).ok a4)(cB:tJ.ok a5):Sound T 142 [.agg [.d a0,.d a1,.d a2,.d a3,.d a4],.d a5] fun r=>∃y0,r= .d y0∧(Ty.b).ok y0:=by
 refine bg F.q142 aa ?_;rcases cC,bX,cN,ch,bY,cB with⟨⟨gN,rfl,jl⟩,⟨bN,cW,dg,cq⟩,⟨bu,O,cX,U⟩,⟨da,L,fe,Y⟩,⟨ed,M,fJ,Z⟩,⟨bO,rfl,oo,oq⟩⟩
 refine cf 11 aa (aA aa (D2 F O ae U ai) ?_);rintro _ _⟨_,rfl,UA,rfl⟩;refine ro 1 aa ?_;refine cO aa ?_ ?_<;>intro h2
 ·exact W
 refine rc 7 aa (bd [11,4,2,1,0] [2] aa aa (fun e0 b0 k VE B=>∃z,an ((5,.d (dJ z))::e0) VE∧an b0 B∧dT k 0 z (da.length:Int)) ?_ fin);rintro _ VE B⟨z,hV,hB,rfl,bR⟩;refine aS _ _ hV hB (aB 6 aa (aM aa L ?_));refine ro 2 aa ?_;refine ax aa ?_ ?_<;>intro g3
 ·refine rc 8 aa ?_;obtain⟨_,rfl,_,⟨sx4_1,rfl,hsx4_1⟩,_,rfl,cZ⟩:=qI z Y;refine aw (aF aa aa L ae cZ aa ?_);refine aJ 9 aa (aA aa (D2 F (.inl aa) ae sW ai) ?_);rintro _ _⟨_,rfl,Na,rfl⟩;refine ro 1 aa ?_;refine bk aa ?_ ?_<;>intro h6
  ·exact W
  refine ro 4 aa (bw aa aa (Ar aa aa ?_));refine ro 1 aa ?_;refine bk aa ?_ ?_<;>intro g8
  ·refine ro 3 aa (bw aa aa (aA aa (D2 F (.inl aa) ae sW ai) ?_));rintro _ _⟨Jl,rfl,Nb⟩;exact W
  exact W
 refine rc 7 aa (bd [16,11,5,4,2,1,0] [2] aa aa (fun e0 b0 k VE B=>∃A,an ((7,.d (dJ A))::e0) VE∧an b0 B∧dT k 0 A (ed.length:Int)) ?_ fin);rintro _ VE B⟨A,hV,hB,rfl,fh⟩;refine aS _ _ hV hB (aB 6 aa (aM aa M ?_));refine ro 2 aa ?_;refine ax aa ?_ ?_<;>intro l7
 ·refine rc 8 aa ?_;obtain⟨qh,nO,tm,⟨aen,G,abV,I⟩,iY⟩:=qI A Z;refine aw (aF aa aa M ae iY aa ?_);refine aJ 3 aa (aA aa (D2 F G ae I ai) ?_);rintro _ _⟨vD,rfl,Mk⟩;exact W
 exact W
theorem Z1{T:aO}(F:FT T){L M:DC}{A:aj}(G:ao A L)(O:A.length≤1000000000)(U:af bc A)(I:tJ.ok M):Sound T 231 [.d L,.d M] fun r=>∃Y,r= .d Y∧(Ty.b).ok Y:=by
 refine bg F.q231 aa ?_;obtain⟨aH,rfl,Z,dW⟩:=I;refine cf 8 aa (aM aa G ?_);refine ro 3 aa (bd [8,7,4,1,0] [] aa aa (fun e0 b0 k VE B=>∃z,an ((9,.d (dJ z))::e0) VE∧an b0 B∧dT k 0 z (A.length:Int)) ?_ fin);rintro _ VE B⟨z,hV,hB,rfl,bR⟩;exact aS _ _ hV hB (W)
theorem InsertC{T:aO}(F:FT T){L Z a2:DC}(M:(Ty.l 1000000000 cn).ok L)(O:tJ.ok Z)(U:tJ.ok a2):Sound T 145 [.d L,.agg [.d Z,.d a2]] fun r=>∃y0 z y2 A,r= .agg [.d y0,.d y2]∧ao z y0∧(z.length:Int)≤0∧af bc z∧ao A y2∧(A.length:Int)≤1∧af fI A:=by
 refine bg F.q145 aa ?_;rcases M,O,U with⟨⟨bV,G,cI,I⟩,⟨aH,rfl,ey,dW⟩,⟨bA,rfl,lN,lO⟩⟩
 refine cf 9 aa (aA aa (G3 F ai ai) ?_);rintro _ _⟨_,rfl,Y,rfl⟩;refine ro 2 aa ?_;refine cO aa ?_ ?_<;>intro h2
 ·exact W
 refine rc 7 aa ?_;have qS:af fI [[L,(dJ aH),(dJ bA),.nil]]:=(cJ (ah (aL G ae I) (ah ai (ah ai (ah gv bf)))) ca);exact eV 12 12 aa aa (fun _=>⟨aa,aa⟩) (W)
theorem aes{T:aO}(F:FT T){a0:DC}{I:aj}(Z:ao I a0)(cI:I.length≤1000000000)(bJ:af fI I):Sound T 153 [.d a0] fun r=>∃y0 L,r= .d y0∧ao L y0∧(L.length:Int)≤2*(I.length:Int)∧af bc L∧0≤(L.length:Int)∧(L=[]→y0= .nil):=by
 refine bg F.q153 aa (cf 12 aa (aM aa Z ?_));refine ro 3 aa (bd [7,6,2,0] [] aa aa (fun e0 b0 k VE B=>∃G A z,an ((3,.d G)::(8,.d (dJ z))::e0) VE∧an b0 B∧k=((I.length:Int) -z).toNat∧(ao A G)∧((A.length:Int)≤2*z)∧(af bc A)∧(A=[]→G= .nil)∧(0≤z∧(z≤(I.length:Int)∨z=0))) ?_ fin);rintro _ VE B⟨G,A,z,hV,hB,rfl,U,cM,Y,aet,tZ⟩;refine aS _ _ hV hB (rc 5 aa ?_);refine ax aa ?_ ?_<;>intro g1
 ·refine rc 5 aa ?_;obtain⟨gm,gx,ff,M,fg,O,jB,iV,bM⟩:=qI z bJ;refine aw (aF aa aa Z ae bM aa ?_);refine aJ 8 aa (aA aa (oQ F M O) ?_);rintro _ _⟨_,rfl,Bu,rfl⟩;refine ro 1 aa ?_;refine cO aa ?_ ?_<;>intro h4
  ·refine rc 1 aa ?_;rcases Ty.dP M,Ty.dP O with⟨⟨vE,rfl,uV,pY⟩,⟨Nc,rfl,xx,xz⟩⟩
   refine rp 8 aa ?_;have CB:af bc [[(dJ vE)],[(dJ Nc)]]:=(cJ (ah ai bf) (cJ (ah ai bf) ca));refine eV 22 22 aa aa (fun _=>⟨aa,aa⟩) (aw (aA aa (xG F U ae Y (.inl aa) ae CB) ?_));rintro _ _⟨jW,oX,rfl,oP,u9,lz,Ma,Mb⟩;exact W
  exact W
 exact W
theorem Ii{T:aO}(F:FT T){a0:DC}{G:aj}(I:ao G a0)(cI:G.length≤1000000000)(L:af bc G):Sound T 344 [.d a0] fun r=>∃y0,r= .d y0∧(Ty.b).ok y0:=by
 refine bg F.q344 aa (r0 10 aa (bd [2,0] [] aa aa (fun e0 b0 k VE B=>∃A,an ((3,.d (dJ A))::e0) VE∧an b0 B∧dT k 0 A (G.length:Int)) ?_ fin));rintro _ VE B⟨A,hV,hB,rfl,bR⟩;refine aS _ _ hV hB (aB 5 aa (aM aa I ?_));refine ro 2 aa ?_;refine ax aa ?_ ?_<;>intro g1
 ·refine rc 7 aa ?_;obtain⟨j2,O,pI⟩:=bF (z:=A) (n:=G.length+1) ae ae;refine aT (eO (l:=0) (h:=j2) rfl I L rfl (ta ae) ⟨_,(by rw[←O];rfl)⟩ rfl ae ae (fun d3 w3 U J9 Y=>?_));refine rq 2 aa ?_;obtain⟨po,M,Z⟩:=qI A L;refine aT (aF aa aa I ae Z aa ?_);refine cr aa aa (c4 aa aa ?_);refine aP aa (aA aa (D2 F U ae Y M) ?_);rintro _ _⟨gM,rfl,kS⟩;exact W
 exact W
end Go.Ev.Rp
namespace Go.Ev.Rp
open Go Go.Ev.Pp
attribute [local irreducible] VC VO VQ VI Sound cF
theorem SO{T:aO}(F:FT T){G:DC}(z:(Ty.s 1000).ok G):Sound T 137 [.d G] fun r=>∃I,r= .d I∧(Ty.b).ok I:=by
 refine bg F.q137 aa ?_;obtain⟨M,rfl,L⟩:=z;refine cf 7 aa (aA aa (SN F (bC aq)) ?_);rintro _ _⟨_,rfl,A,rfl⟩;refine ro 1 aa ?_;refine bk aa ?_ ?_<;>intro h2
 ·refine ro 1 aa (bw aa aa (nE (b:=[118,102,114,111,109]) aa aa ?_));refine ro 2 aa ?_;refine bk aa ?_ ?_<;>intro O
  ·refine ro 1 aa (bw aa aa (nE (b:=[118,116,111]) aa aa ?_));refine ro 2 aa ?_;refine bk aa ?_ ?_<;>intro U
   ·refine ro 1 aa (bw aa aa (nE (b:=[114,102,114,111,109]) aa aa ?_));refine ro 2 aa ?_;refine bk aa ?_ ?_<;>intro Y
    ·refine ro 1 aa (bw aa aa (nE (b:=[114,116,111]) aa aa ?_));exact dR 4 aa (bD aa aa fin)
    exact W
   exact W
  exact W
 exact W
theorem vverC{T:aO}(F:FT T){a0 a1 a2:DC}(cC:tJ.ok a0)(bX:tJ.ok a1){L:aj}(z:ao L a2)(cX:L.length≤13)(I:af gB L):Sound T 342 [.agg [.d a0,.d a1,.d a2]] fun r=>∃y0,r=dB y0∧(y0=true→1≤(L.length:Int)∧(L.length:Int)≤12):=by
 refine bg F.q342 aa ?_;rcases cC,bX with⟨⟨aK,rfl,gZ,hD⟩,⟨aH,rfl,ey,dW⟩⟩
 refine cf 10 aa (aA aa (oQ F ai ai) ?_);rintro _ _⟨_,rfl,UA,rfl⟩;refine ro 2 aa ?_;refine bk aa ?_ ?_<;>intro h2
 ·exact W
 refine ro 2 aa (bw aa aa (aM aa z ?_));refine ro 3 aa ?_;refine bk aa ?_ ?_<;>intro h3
 ·exact W
 refine ro 2 aa (bw aa aa (aM aa z ?_));refine ro 3 aa ?_;refine ax aa ?_ ?_<;>intro h4
 ·exact W
 refine rc 7 aa (bd [20,2,1,0] [1] aa aa (fun e0 b0 k VE B=>∃G,an ((3,.d (dJ G))::e0) VE∧an b0 B∧dT k 0 G (L.length:Int)) ?_ fin);rintro _ VE B⟨G,hV,hB,rfl,bR⟩;refine aS _ _ hV hB (aB 6 aa (aM aa z ?_));refine ro 2 aa ?_;refine ax aa ?_ ?_<;>intro g5
 ·refine rc 8 aa ?_;obtain⟨_,⟨D3,rfl,Y,Z⟩,vV,A,_,⟨Un,rfl,adP,adQ⟩,e6⟩:=qI G I;refine aw (aF aa aa z ae e6 aa ?_);refine ro 6 aa (rp 4 aa ?_);refine dK aa ?_ ?_<;>intro g7
  ·refine rq 8 aa (bL aa (dA aa (bL aa (dA aa (bL aa (bL aa (bL aa (bL aa (dA aa ?_)))))))));exact bL aa (rq 26 aa (W))
  refine rq 5 aa ?_;refine dK aa ?_ ?_<;>intro g8
  ·refine rq 3 aa (bL aa (dA aa (bL aa (dA aa (bL aa (bL aa (bL aa (bL aa (dA aa ?_)))))))));exact bL aa (rq 26 aa (W))
  refine rq 3 aa ?_;refine dK aa ?_ ?_<;>intro g9
  ·refine rq 5 aa (cb aa aa (dO aa aa ae ae ?_));obtain⟨_,⟨aeu,rfl,M,O⟩,rI,AX,Ij,AY,U⟩:=qI (G-1) I;refine cb aa aa (aF aa aa z ae U aa ?_);refine rq 2 aa (rp 4 aa ?_);refine dK aa ?_ ?_<;>intro l7
   ·exact rq 23 aa (W)
   refine rq 2 aa (eD aa aa aa (aA aa (SO F A) ?_));rintro _ _⟨_,rfl,SP,rfl⟩;refine rq 3 aa ?_;refine dK aa ?_ ?_<;>intro Kj
   ·exact rq 17 aa (W)
   refine rq 2 aa (rp 3 aa ?_);refine dK aa ?_ ?_<;>intro CD
   ·exact rq 12 aa (W)
   refine rq 5 aa ?_;refine dK aa ?_ ?_<;>intro uu
   ·exact rq 7 aa (W)
   refine rq 3 aa (eD aa aa aa (aA aa (SL F ai ai z ae I A) ?_));rintro _ _⟨Nd,rfl,hy16_0⟩;exact rq 3 aa (W)
  refine rq 15 aa (eD aa aa aa (aA aa (SO F A) ?_));rintro _ _⟨_,rfl,by18_0,rfl⟩;refine rq 3 aa ?_;refine dK aa ?_ ?_<;>intro h19
  ·exact rq 17 aa (W)
  refine rq 2 aa (rp 3 aa ?_);refine dK aa ?_ ?_<;>intro XV
  ·exact rq 12 aa (W)
  refine rq 5 aa ?_;refine dK aa ?_ ?_<;>intro Kf
  ·exact rq 7 aa (W)
  refine rq 3 aa (eD aa aa aa (aA aa (SL F ai ai z ae I A) ?_));rintro _ _⟨Ik,rfl,aev⟩;exact rq 3 aa (W)
 exact W
theorem CZ{T:aO}(F:FT T){a0:DC}{G:aj}(L:ao G a0)(cI:G.length≤1000000000)(M:af bc G):Sound T 86 [.d a0] fun r=>∃Z I,r= .d Z∧ao I Z∧(I.length:Int)≤1000000000∧af bc I∧0≤(I.length:Int)∧(I=[]→Z= .nil):=by
 refine bg F.q86 aa (r0 14 aa (de 3 90 3 8 1 aa aa (bd [2,0] [] aa aa (fun e0 b0 k VE B=>∃z A,an ((3,.ac 90 A.length 1)::(4,.d (dJ z))::e0) VE∧an ((90,.acc 3 8 1 A)::b0) B∧k=((G.length:Int) -z).toNat∧(0≤z∧(z≤(G.length:Int)∨z=0))∧((A.length:Int)≤z)∧(af bc A)) ?_ fin)));rintro _ VE B⟨z,A,hV,hB,rfl,bR,cM,O⟩;refine aS _ _ hV hB (aB 5 aa (aM aa L ?_));refine ro 2 aa ?_;refine ax aa ?_ ?_<;>intro g1
 ·refine rc 7 aa ?_;obtain⟨_,⟨ml,rfl,U,Y⟩,bM⟩:=qI z M;refine aw (aF aa aa L ae bM aa ?_);refine aJ 1 aa (aby aa aa (fun z3 hz3=>?_));refine ro 1 aa ?_;refine aw (aW (rows:=A) (ys:=[[(dJ z3)]]) rfl rfl rfl (.bs (rows:=[[(dJ z3)]]) rfl) au ae (fun h=>by rw[h];rfl) (fun h=>by rw[h];rfl) ?_);exact W
 exact rc 6 aa (cl 2 90 aa aa (fun _=>⟨aa,aa⟩) (W))
theorem ajk{T:aO}(F:FT T){Y Z:DC}{A:aj}(I:ao A Y)(cI:A.length≤1000000000)(L:af cn A)(O:(Ty.i .i64 0 64).ok Z):Sound T 147 [.d Y,.d Z] fun r=>∃U G,r= .d U∧ao G U∧(G.length:Int)≤max (A.length:Int) 64∧af cn G∧0≤(G.length:Int)∧(G=[]→U= .nil):=by
 refine bg F.q147 aa ?_;obtain⟨aH,rfl,ey,dW⟩:=O;refine cf 7 aa (dZ (ys:=A) 7 aa aa aa aa aa (.sD I (cP L aa)) au ae ?_);refine ro 4 aa (bd [4,1,0] [] aa aa (fun e0 b0 k VE B=>∃z,an ((5,.ac 7 z.length 3)::e0) VE∧an ((7,.acc 121 32 3 z)::b0) B∧k=(aH-z.length).toNat∧((z.length:Int)≤max (A.length:Int) 64)∧(af cn z)) ?_ fin);rintro _ VE B⟨z,hV,hB,rfl,bR,M⟩;refine aS _ _ hV hB (rc 8 aa ?_);refine ax aa ?_ ?_<;>intro g1
 ·refine rc 6 aa ?_;refine aw (aW (rows:=z) (ys:=[[i0,i0,(al [])]]) rfl rfl rfl (.bs (rows:=[[i0,i0,(al [])]]) rfl) au ae (fun h=>by rw[h];rfl) (fun h=>by rw[h];rfl) ?_);exact W
 exact rc 6 aa (cl 4 7 aa aa (fun _=>⟨aa,aa⟩) (W))
theorem agJ{T:aO}(F:FT T){a0 a1:DC}{Z:aj}(Y:ao Z a0)(cI:Z.length≤1000000000)(bJ:af cn Z){I:aj}(G:ao I a1)(dg:I.length≤1000000000)(cq:af bc I):Sound T 232 [.d a0,.d a1] fun r=>∃y0 L,r= .d y0∧ao L y0∧(L.length:Int)≤1000000000∧af cn L∧0≤(L.length:Int)∧(L=[]→y0= .nil):=by
 refine bg F.q232 aa (r0 14 aa (de 5 90 121 32 3 aa aa (bd [4,1,0] [] aa aa (fun e0 b0 k VE B=>∃z A,an ((5,.ac 90 A.length 3)::(6,.d (dJ z))::e0) VE∧an ((90,.acc 121 32 3 A)::b0) B∧k=((I.length:Int) -z).toNat∧(0≤z∧(z≤(I.length:Int)∨z=0))∧((A.length:Int)≤z)∧(af cn A)) ?_ fin)));rintro _ VE B⟨z,A,hV,hB,rfl,bR,cM,p9⟩;refine aS _ _ hV hB (aB 5 aa (aM aa G ?_));refine ro 2 aa ?_;refine ax aa ?_ ?_<;>intro g1
 ·refine rc 7 aa ?_;obtain⟨_,⟨ml,rfl,mT,nM⟩,bM⟩:=qI z cq;refine aw (aF aa aa G ae bM aa ?_);refine ro 3 aa ?_;refine bk aa ?_ ?_<;>intro g3
  ·refine ro 2 aa (bw aa aa (aF aa aa G ae bM aa ?_));refine ro 2 aa (bw aa aa (aM aa Y ?_));refine ro 3 aa ?_;refine ax aa ?_ ?_<;>intro g4
   ·refine aB 5 aa (aF aa aa G ae bM aa ?_);refine ro 1 aa ?_;obtain⟨_,⟨M,rfl,xv,xw⟩,_,⟨O,rfl,Dv,Dw⟩,_,⟨U,rfl,adS⟩,eQ⟩:=qI ml bJ;refine aw (aF aa aa Y ae eQ aa ?_);refine ro 2 aa ?_;refine aw (aW (rows:=A) (ys:=[[(dJ M),(dJ O),(al U)]]) rfl rfl rfl (.bs (rows:=[[(dJ M),(dJ O),(al U)]]) rfl) au ae (fun h=>by rw[h];rfl) (fun h=>by rw[h];rfl) ?_);exact W
   refine rc 4 aa ?_;refine aw (aW (rows:=A) (ys:=[[i0,i0,(al [])]]) rfl rfl rfl (.bs (rows:=[[i0,i0,(al [])]]) rfl) au ae (fun h=>by rw[h];rfl) (fun h=>by rw[h];rfl) ?_);exact W
  refine ro 9 aa (dc aa aa (rc 4 aa ?_));refine aw (aW (rows:=A) (ys:=[[i0,i0,(al [])]]) rfl rfl rfl (.bs (rows:=[[i0,i0,(al [])]]) rfl) au ae (fun h=>by rw[h];rfl) (fun h=>by rw[h];rfl) ?_);exact W
 exact rc 6 aa (cl 4 90 aa aa (fun _=>⟨aa,aa⟩) (W))
end Go.Ev.Rp
namespace Go.Ev.Rp
open Go Go.Ev.Pp
attribute [local irreducible] VC VO VQ VI Sound cF
theorem Z2{T:aO}(F:FT T){a0 a1 a2 a3 a4:DC}(cC:(Ty.s 1000).ok a0){L:aj}(G:ao L a1)(dg:L.length≤100)(Z:af dk L)(cN:(Ty.l 200 bc).ok a2)(ch:(Ty.l 4 dy).ok a3)(bY:(Ty.l 4 dj).ok a4):Sound T 225 [.agg [.d a0,.d a1,.d a2,.d a3,.d a4]] fun r=>∃y0,r=dB y0∧(y0=true→1≤(L.length:Int)∧kp L.length L):=by
 refine bg F.q225 aa ?_;rcases cC,cN,ch,bY with⟨⟨gN,rfl,jl⟩,⟨bu,cu,cX,bS⟩,⟨da,O,fe,dQ⟩,⟨ed,U,fJ,dw⟩⟩
 refine r0 5 aa (dE [2,1,0] [1] aa aa (fun e0 b0 VE B=>an e0 VE∧an b0 B∧(1≤(L.length:Int))) ?_ ?_)
 ·refine aB 4 aa (aA aa (SN F (bC aq)) ?_);rintro _ _⟨eo,rfl,oV⟩;exact W
 rintro VE B⟨hV,hB,fj0_0⟩;refine aS _ _ hV hB (rc 10 aa (bd [2,1,0] [1] aa aa (fun e0 b0 k VE B=>∃wh A,an ((3,.d (dJ wh))::(4,.d (dJ A))::e0) VE∧an b0 B∧k=((L.length:Int) -A).toNat∧(0≤wh∧wh≤12)∧(0≤A∧(A≤(L.length:Int)∨A=0))∧(kp A L)) ?_ fin));rintro _ VE B⟨wh,A,hV,hB,rfl,bR,cM,rQ⟩;refine aS _ _ hV hB (aB 6 aa (aM aa G ?_));refine ro 2 aa ?_;refine ax aa ?_ ?_<;>intro g6
 ·refine rc 3 aa ?_;obtain⟨jY,lD,oi,th,zj,⟨Nf,M,hnx7_2,SQ⟩,eL⟩:=qI A Z;refine dE [38,4,3,2,1,0] [1] aa aa (fun e0 b0 VE B=>an e0 VE∧an b0 B∧(1≤(Nf.length:Int)∧(Nf.length:Int)≤12)) ?_ ?_
  ·refine rc 5 aa (aT (aF aa aa G ae eL aa ?_));refine cr aa aa (gr aa (aV aa) (aV aa) ?_);refine aP aa (aA aa (vverC F lD th M ae SQ) ?_);rintro _ _⟨wi,rfl,Bv⟩;refine rq 2 aa ?_;refine dK aa ?_ ?_<;>intro h9
   ·refine rq 3 aa (bL aa (dA aa (bL aa (bL aa (bL aa (dA aa (bL aa (dA aa (bL aa ?_)))))))));exact bL aa (dA aa (bL aa (dA aa (bL aa (rq 2 aa (W))))))
   have k9:=Bv (by simpa using h9);refine rq 3 aa ?_;refine dK aa ?_ ?_<;>intro uq
   ·refine rq 3 aa (cb aa aa (dO aa aa ae ae ?_));obtain⟨x11_0,aew,UB,DE,x11_2,hx11_2,wk⟩:=qI (A-1) Z;refine cb aa aa (aF aa aa G ae wk aa ?_);refine rq 4 aa (cb aa aa (aF aa aa G ae eL aa ?_));refine rq 2 aa (eD aa aa aa (aA aa (folC F aew DE hx11_2 lD th (aL M ae SQ) ai) ?_));rintro _ _⟨_,rfl,SP,rfl⟩;exact rq 3 aa (W)
   exact rq 16 aa (W)
  rintro VE B⟨hV,hB,UC⟩;refine aS _ _ hV hB (rc 5 aa (bd [38,4,2,1,0] [1] aa aa (fun e0 b0 k VE B=>∃Jm Y,an ((3,.d (dJ Jm))::(5,.d (dJ Y))::e0) VE∧an b0 B∧k=((Nf.length:Int) -Y).toNat∧(0≤Jm∧Jm≤12)∧(0≤Y∧(Y≤(Nf.length:Int)∨Y=0))) ?_ fin));rintro _ VE B⟨Jm,Y,hV,hB,rfl,fh,gn⟩;refine aS _ _ hV hB (aB 7 aa (aF aa aa G ae eL aa ?_));refine aJ 2 aa (aM aa M ?_);refine ro 2 aa ?_;refine ax aa ?_ ?_<;>intro CD
  ·refine aB 8 aa (aF aa aa G ae eL aa ?_);refine ro 3 aa ?_;obtain⟨_,⟨zx15_0,rfl,hzx15_0,kzx15_0⟩,D9,G4,x15_2,hx15_2,B5⟩:=qI Y SQ;refine aw (aF aa aa M ae B5 aa ?_);refine aJ 2 aa (sO aa aa (fun z16 hz16=>?_));refine aJ 4 aa (bB aa aa ae ae ?_);exact cA 2 aa (⟨_,EH fin ae⟩)
  refine aB 3 aa (bB aa aa ae ae ?_);refine cA 2 aa ?_;exact⟨((L.length:Int) -((A+1))).toNat,ae,Jm,(A+1),⟨rfl,rfl,rfl,rfl,rfl,trivial⟩,⟨rfl,trivial⟩,rfl,ae,ae,(by first|assumption|exact lensTo_0|exact kp.step (by assumption) ae (by assumption) rfl (by assumption) (by assumption))⟩
 refine rc 1 aa (dE [38,4,3,2,1,0] [1] aa aa (fun e0 b0 VE B=>an e0 VE∧an b0 B∧(kp L.length L)) ?_ ?_)
 ·refine aB 4 aa (aA aa (Ii F cu ae bS) ?_);rintro _ _⟨_,rfl,by17_0,rfl⟩;refine ro 2 aa ?_;refine bk aa ?_ ?_<;>intro XW
  ·exact W
  refine ro 3 aa (bw aa aa (aA aa (Mj F (bC aq) (aL G ae Z) (aL cu ae bS) (aL O ae dQ) (aL U ae dw) (aL cu ae bS)) ?_));rintro _ _⟨_,rfl,by19_0,rfl⟩;refine ro 3 aa ?_;refine bk aa ?_ ?_<;>intro h20
  ·exact W
  refine ro 2 aa (bw aa aa (aM aa O ?_));refine ro 3 aa ?_;refine bk aa ?_ ?_<;>intro h21
  ·exact W
  refine ro 2 aa (bw aa aa (aM aa U ?_));refine ro 3 aa ?_;refine ax aa ?_ ?_<;>intro XX
  ·exact W
  refine rcl 1 aa ?_;exact⟨⟨rfl,rfl,rfl,rfl,rfl,rfl,trivial⟩,⟨rfl,trivial⟩,(by first|assumption|exact kp.all (by assumption) ae)⟩
 rintro VE B⟨hV,hB,fj7_0⟩;refine aS _ _ hV hB (rc 6 aa (bd [38,4,3,2,1,0] [1] aa aa (fun e0 b0 k VE B=>∃OA,an ((6,.d (dJ OA))::e0) VE∧an b0 B∧dT k 0 OA (da.length:Int)) ?_ fin));rintro _ VE B⟨OA,hV,hB,rfl,ot⟩;refine aS _ _ hV hB (aB 6 aa (aM aa O ?_));refine ro 2 aa ?_;refine ax aa ?_ ?_<;>intro Pk
 ·refine rc 8 aa ?_;obtain⟨_,rfl,x24_1,hx24_1,_,rfl,Wx⟩:=qI OA dQ;refine aw (aF aa aa O ae Wx aa ?_);refine ro 4 aa (dE [118,38,7,6,4,3,2,1,0] [7,1] aa aa (fun e0 b0 VE B=>an e0 VE∧an b0 B) ?_ ?_)
  ·refine rc 2 aa (iw 2 aa (aM aa (.inl aa) ?_));refine ro 2 aa ?_;refine bk aa ?_ ?_<;>intro XY
   ·exact W
   refine ro 2 aa (bw aa aa (aA aa (Ii F (.inl aa) ae sW) ?_));rintro _ _⟨_,rfl,aex,rfl⟩;refine ro 3 aa ?_;refine bk aa ?_ ?_<;>intro h27
   ·exact W
   refine ro 3 aa (bw aa aa (aA aa (Mj F (bC aq) (aL G ae Z) (aL cu ae bS) (aL O ae dQ) (aL U ae dw) (aL (.inl aa) ae sW)) ?_));rintro _ _⟨_,rfl,by28_0,rfl⟩;refine ro 3 aa ?_;refine bk aa ?_ ?_<;>intro h29
   ·exact W
   refine ro 2 aa (bw aa aa (aA aa (SN F hx24_1) ?_));rintro _ _⟨_,rfl,aey,rfl⟩;refine ro 3 aa ?_;refine bk aa ?_ ?_<;>intro h31
   ·exact W
   refine ro 2 aa (bw aa aa (aM aa (.inl aa) ?_));refine ro 2 aa (bw aa aa (aM aa (.inl aa) ?_));refine ro 3 aa (bw aa bh (pQ aa ?_));refine bw aa bh (iP aa aa aa ?_);refine bw aa bh (aA aa (Ii F (.inl aa) ae sW) ?_);rintro _ _⟨agK,rfl,aez⟩;exact W
  rintro VE B⟨hV,hB⟩;refine aS _ _ hV hB (rc 5 aa (bd [118,38,7,6,4,3,2,1,0] [7,1] aa aa (fun e0 b0 k VE B=>∃OB,an ((8,.d (dJ OB))::e0) VE∧an b0 B∧dT k 0 OB (((([[DC.i .i64 1]]:aj)).length:Nat):Int)) ?_ fin));rintro _ VE B⟨OB,hV,hB,rfl,Jn⟩;refine aS _ _ hV hB (rc 3 aa (iw 3 aa (aM aa (.inl aa) ?_)));refine ro 2 aa ?_;refine ax aa ?_ ?_<;>intro Kg
  ·refine rc 8 aa ?_;obtain⟨_,⟨zx35_0,rfl,hzx35_0,kzx35_0⟩,EP⟩:=qI OB H8;refine aw (aF aa aa (.inl aa) ae EP aa ?_);refine ro 3 aa ?_;refine bk aa ?_ ?_<;>intro h36
   ·exact W
   refine ro 3 aa (bw aa aa (aF aa aa (.inl aa) ae EP aa ?_));refine ro 4 aa ?_;refine cO aa ?_ ?_<;>intro XZ
   ·exact W
   exact W
  exact W
 refine rc 7 aa (bd [118,38,6,4,3,2,1,0] [1] aa aa (fun e0 b0 k VE B=>∃OC,an ((9,.d (dJ OC))::e0) VE∧an b0 B∧dT k 0 OC (ed.length:Int)) ?_ fin);rintro _ VE B⟨OC,hV,hB,rfl,Jo⟩;refine aS _ _ hV hB (aB 6 aa (aM aa U ?_));refine ro 2 aa ?_;refine ax aa ?_ ?_<;>intro g38
 ·refine rc 8 aa ?_;obtain⟨_,⟨zx39_0,rfl,hzx39_0,kzx39_0⟩,x39_1,⟨wx39_1,z,hnx39_1,I⟩,Wy⟩:=qI OC dw;refine aw (aF aa aa U ae Wy aa ?_);refine ro 6 aa (rp 4 aa ?_);refine bk aa ?_ ?_<;>intro X1
  ·refine ro 5 aa ?_;refine bk aa ?_ ?_<;>intro h41
   ·exact W
   refine ro 2 aa (bw aa aa (aM aa z ?_));refine ro 3 aa ?_;refine bk aa ?_ ?_<;>intro h42
   ·exact W
   refine ro 2 aa (bw aa aa (aA aa (Ii F z ae I) ?_));rintro _ _⟨_,rfl,by43_0,rfl⟩;refine ro 3 aa ?_;refine bk aa ?_ ?_<;>intro CC
   ·exact W
   refine ro 3 aa (bw aa aa (aA aa (Mj F (bC aq) (aL G ae Z) (aL cu ae bS) (aL O ae dQ) (aL U ae dw) (aL z ae I)) ?_));rintro _ _⟨y45_0,rfl,hy45_0⟩;exact W
  refine ro 7 aa (bw aa aa (aM aa z ?_));refine ro 3 aa ?_;refine bk aa ?_ ?_<;>intro Pl
  ·exact W
  refine ro 2 aa (bw aa aa (aA aa (Ii F z ae I) ?_));rintro _ _⟨_,rfl,by48_0,rfl⟩;refine ro 3 aa ?_;refine bk aa ?_ ?_<;>intro h49
  ·exact W
  refine ro 3 aa (bw aa aa (aA aa (Mj F (bC aq) (aL G ae Z) (aL cu ae bS) (aL O ae dQ) (aL U ae dw) (aL z ae I)) ?_));rintro _ _⟨y50_0,rfl,hy50_0⟩;exact W
 exact W
theorem CreateSC{T:aO}(F:FT T){a0 a1 a2 a3 a4 a5:DC}(cC:(Ty.s 1000).ok a0){bN:aj}(z:ao bN a1)(dg:bN.length≤100)(M:af dk bN)(cN:(Ty.l 200 bc).ok a2)(ch:(Ty.l 4 dy).ok a3)(bY:(Ty.l 4 dj).ok a4)(cB:tJ.ok a5):Sound T 134 [.agg [.d a0,.d a1,.d a2,.d a3,.d a4],.d a5] fun r=>∃y0 y1 G y3 y4 y5 y6,r= .tuple [.agg [.d y0,.d y1,.d y3,.d y4,.d y5],.d (dJ y6)]∧(Ty.s 1000).ok y0∧ao G y1∧(G.length:Int)≤1∧af dk G∧(Ty.l 200 bc).ok y3∧(Ty.l 4 dy).ok y4∧(Ty.l 4 dj).ok y5∧(0≤y6∧y6≤100∧(y6=0→1≤(G.length:Int)∧kp G.length G)):=by
 refine bg F.q134 aa ?_;rcases cC,cN,ch,bY,cB with⟨⟨gN,rfl,jl⟩,⟨bu,O,cX,U⟩,⟨da,Y,fe,Z⟩,⟨ed,dY,fJ,dw⟩,⟨bO,rfl,oo,oq⟩⟩
 refine r0 12 aa ?_;refine bk aa ?_ ?_<;>intro h1
 ·exact W
 refine ro 4 aa ?_;refine ax aa ?_ ?_<;>intro h2
 ·exact W
 refine aB 5 aa (aA aa (Z2 F (bC aq) z ae M (aL O ae U) (aL Y ae Z) (aL dY ae dw)) ?_);rintro _ _⟨jX,rfl,lC⟩;refine ro 2 aa ?_;refine bk aa ?_ ?_<;>intro h4
 ·exact W
 have k4:=lC (by simpa using h4);refine ro 2 aa (bw aa aa (aM aa z ?_));refine ro 3 aa ?_;refine bk aa ?_ ?_<;>intro h5
 ·exact W
 refine ro 2 aa ?_;obtain⟨_,⟨D3,rfl,Mf,Mg⟩,vV,rG,I,⟨wx6_2,A,hnx6_2,L⟩,e6⟩:=qI 0 M;refine bw aa aa (aF aa aa z ae e6 aa ?_);refine ro 3 aa (rp 3 aa ?_);refine ax aa ?_ ?_<;>intro h7
 ·exact W
 refine aB 7 aa (aF aa aa z ae e6 aa ?_);refine ro 2 aa ?_;have kd:=A;have kb:=kp.get (And.right dz) (vk _) e6 rfl kd;refine rp 3 aa ?_;have sq:af dk [[(dJ bO),(dJ 1099511627776),I]]:=(cJ (ah ai (ah ai (ah (aL A ae L) bf))) ca);refine eV 40 40 aa aa (fun _=>⟨aa,aa⟩) (dR 9 aa ?_);exact bD rfl rfl ⟨(al gN),(.sl [[(dJ bO),(dJ 1099511627776),I]]),[[(dJ bO),(dJ 1099511627776),I]],a2,a3,a4,0,rfl,(bC aq),(.inl rfl),vQ,sq,(aL O ae U),(aL Y ae Z),(aL dY ae dw),⟨ae,ae,(by first|(intro hb;exact absurd hb au)|(intro hb;exact⟨(by simp),lens1 kd kb⟩))⟩⟩
end Go.Ev.Rp
namespace Go.Ev.Rp
open Go Go.Ev.Pp
attribute [local irreducible] VC VO VQ VI Sound cF
theorem Ml{T:aO}(F:FT T){a0 a1 a2 a3 a4:DC}(cC:(Ty.s 1000).ok a0){G:aj}(U:ao G a1)(dg:G.length≤100)(Z:af dk G)(cN:(Ty.l 200 bc).ok a2)(ch:(Ty.l 4 dy).ok a3)(bY:(Ty.l 4 dj).ok a4):Sound T 139 [.agg [.d a0,.d a1,.d a2,.d a3,.d a4]] fun r=>∃y0,r= .d (dJ y0)∧(0≤y0∧y0≤12∧(gu G.length y0 G∧pS y0 G)):=by
 refine bg F.aiO aa ?_;rcases cC,cN,ch,bY with⟨⟨gN,rfl,jl⟩,⟨bu,cu,cX,bS⟩,⟨da,ez,fe,dQ⟩,⟨ed,dY,fJ,dw⟩⟩
 refine r0 15 aa (bd [2,1,0] [1] aa aa (fun e0 b0 k VE B=>∃L z,an ((3,.d (dJ L))::(4,.d (dJ z))::e0) VE∧an b0 B∧k=((G.length:Int) -z).toNat∧(0≤L∧L≤12)∧(0≤z∧(z≤(G.length:Int)∨z=0))∧(gu z L G)∧(pS L G)) ?_ fin);rintro _ VE B⟨L,z,hV,hB,rfl,bR,cM,rQ,hH⟩;refine aS _ _ hV hB (aB 6 aa (aM aa U ?_));refine ro 2 aa ?_;refine ax aa ?_ ?_<;>intro g1
 ·refine rc 8 aa ?_;obtain⟨gm,gx,ff,iW,fg,⟨M,O,p5,Y⟩,bM⟩:=qI z Z;refine bd [10,4,2,1,0] [1] aa aa (fun e0 b0 k VE B=>∃I A,an ((3,.d (dJ I))::(5,.d (dJ A))::e0) VE∧an b0 B∧k=((M.length:Int) -A).toNat∧(0≤I∧I≤12)∧(0≤A∧(A≤(M.length:Int)∨A=0))∧(gu z I G)∧(pS I G)∧(jO A I M)) ?_ fin;rintro _ VE B⟨I,A,hV,hB,rfl,fh,gn,Oj,I8,I'⟩;refine aS _ _ hV hB (aB 7 aa (aF aa aa U ae bM aa ?_));refine aJ 2 aa (aM aa O ?_);refine ro 2 aa ?_;refine ax aa ?_ ?_<;>intro g3
  ·refine aB 8 aa (aF aa aa U ae bM aa ?_);refine ro 3 aa ?_;obtain⟨_,⟨DZ,rfl,sX,sY⟩,fu,mo,qE,oW,cZ⟩:=qI A Y;refine aw (aF aa aa O ae cZ aa ?_);refine aJ 2 aa (sO aa aa (fun z5 hz5=>?_));refine aJ 4 aa (bB aa aa ae ae ?_);refine cA 2 aa ?_;exact⟨((M.length:Int) -((A+1))).toNat,ae,z5,(A+1),⟨rfl,rfl,rfl,rfl,rfl,rfl,rfl,trivial⟩,⟨rfl,trivial⟩,rfl,ae,ae,Ud,(by first|assumption|exact ZW|exact pS.max (by assumption) (by assumption) rfl (by assumption) (by assumption) rfl ae),Ud⟩
  refine aB 3 aa (bB aa aa ae ae ?_);refine cA 2 aa ?_;exact⟨((G.length:Int) -((z+1))).toNat,ae,I,(z+1),⟨rfl,rfl,rfl,rfl,rfl,trivial⟩,⟨rfl,trivial⟩,rfl,ae,ae,Ud,(by first|assumption|exact ZW|exact pS.max (by assumption) (by assumption) rfl (by assumption) (by assumption) rfl ae)⟩
 refine dH 7 aa ?_;exact bD rfl rfl ⟨L,rfl,⟨ae,ae,⟨gu.all dz ae,by assumption⟩⟩⟩
theorem ajl{T:aO}(F:FT T){a0 a1 a2 a3 a4 a5:DC}(cC:(Ty.s 1000).ok a0){G:aj}(I:ao G a1)(dg:G.length≤100)(Z:af dk G)(cN:(Ty.l 200 bc).ok a2)(ch:(Ty.l 4 dy).ok a3)(bY:(Ty.l 4 dj).ok a4)(cB:tJ.ok a5):Sound T 67 [.agg [.d a0,.d a1,.d a2,.d a3,.d a4],.d a5] fun r=>∃y0 y1 y2 A y4,r= .tuple [.agg [.d y0,.d y1,.d y2],.d y4]∧tJ.ok y0∧tJ.ok y1∧ao A y2∧(A.length:Int)≤13∧af gB A∧0≤(A.length:Int)∧(A=[]∨∃(q:Nat)(r:List DC)(d:DC),G[q]?=some r∧r[2]?=some d∧ao A d)∧(Ty.b).ok y4:=by
 refine bg F.XE aa ?_;rcases cC,cN,ch,bY,cB with⟨⟨gN,rfl,jl⟩,⟨bu,cu,cX,bS⟩,⟨da,ez,fe,dQ⟩,⟨ed,dY,fJ,dw⟩,⟨bO,rfl,oo,oq⟩⟩
 refine r0 12 aa (bd [5,4,2,1,0] [4,2] aa aa (fun e0 b0 k VE B=>∃z,an ((6,.d (dJ z))::e0) VE∧an b0 B∧dT k 0 z (G.length:Int)) ?_ fin);rintro _ VE B⟨z,hV,hB,rfl,bR⟩;refine aS _ _ hV hB (aB 6 aa (aM aa I ?_));refine ro 2 aa ?_;refine ax aa ?_ ?_<;>intro g1
 ·refine rc 8 aa ?_;obtain⟨_,⟨O,rfl,mT,nM⟩,_,⟨U,rfl,uV,pY⟩,fg,⟨Y,L,p5,M⟩,bM⟩:=qI z Z;refine aw (aF aa aa I ae bM aa ?_);refine ro 7 aa (rp 5 aa ?_);refine bk aa ?_ ?_<;>intro g3
  ·refine ro 3 aa (rp 3 aa ?_);refine ax aa ?_ ?_<;>intro g4
   ·refine aB 5 aa (aF aa aa I ae bM aa ?_);refine ro 5 aa ?_;exact bD rfl rfl ⟨(dJ O),(dJ U),fg,Y,(.b true),rfl,ai,ai,L,ae,M,ae,(by first|exact .inl rfl|exact .inr ⟨_,_,_,(by assumption),rfl,(by assumption)⟩),eb⟩
   exact W
  exact W
 exact W
theorem DF{T:aO}(F:FT T){a0 a1 a2 a3 a4 a5:DC}(cC:(Ty.s 1000).ok a0){O:aj}(cW:ao O a1)(dg:O.length≤100)(cq:af dk O)(cN:(Ty.l 200 bc).ok a2)(ch:(Ty.l 4 dy).ok a3)(bY:(Ty.l 4 dj).ok a4)(cB:tJ.ok a5):Sound T 135 [.agg [.d a0,.d a1,.d a2,.d a3,.d a4],.d a5] fun r=>∃y0 U,r= .d y0∧ao U y0∧(U.length:Int)≤12∧af bc U∧0≤(U.length:Int)∧(gu O.length U.length O):=by
 refine bg F.q135 aa ?_;rcases cC,cN,ch,bY,cB with⟨⟨gN,rfl,jl⟩,⟨bu,cu,cX,bS⟩,⟨da,ez,fe,dQ⟩,⟨ed,dY,fJ,dw⟩,⟨bO,rfl,oo,oq⟩⟩
 refine cf 8 aa (aA aa (Ml F (bC aq) cW ae cq (aL cu ae bS) (aL ez ae dQ) (aL dY ae dw)) ?_);rintro _ _⟨eo,rfl,ly1_0,uy1_0,oV⟩;obtain⟨n2,Pm⟩:∃n:Nat,eo=n:=⟨(eo).toNat,(vl ae).symm⟩;refine aw (Aw (n:=n2) 11 rfl rfl rfl rfl rfl (by rw[←Pm];rfl) (by rw[←Pm];rfl) ae ae (fun w2 X2 zJ=>?_));have uj:af bc w2:=by subst X2;exact Au (ah ai bf)
 refine aJ 6 aa (aA aa (ajl F (bC aq) cW ae cq (aL cu ae bS) (aL ez ae dQ) (aL dY ae dw) ai) ?_);rintro _ _⟨jX,zh,EM,Y,ai6,rfl,lC,Br,M,ad0,Z,ad1,Sm,Ut⟩;refine ro 13 aa (bd [6,4,2,1,0] [6,2] aa aa (fun e0 b0 k VE B=>∃G I A,an ((5,.bs 11 I 1)::(8,.d (dJ G))::e0) VE∧an ((11,.arr 3 8 1 I A)::b0) B∧k=((Y.length:Int) -G).toNat∧(0≤G∧(G≤(Y.length:Int)∨G=0))∧(A.length=I)∧(I=w2.length)∧(af bc A)) ?_ fin);rintro _ VE B⟨G,I,A,hV,hB,rfl,bR,rfl,rQ,L⟩;refine aS _ _ hV hB (aB 6 aa (aM aa M ?_));refine ro 2 aa ?_;refine ax aa ?_ ?_<;>intro g4
 ·refine rc 8 aa ?_;obtain⟨_,⟨yk,rfl,xv,xw⟩,zi,vA,EN,DV,eQ⟩:=qI G Z;refine aT (aF aa aa M ae eQ aa ?_);refine rq 1 aa (cr aa aa (c4 aa aa ?_));refine aT (dO aa aa ae ae ?_);refine c7 3 aa (aF aa aa M ae eQ aa ?_);refine rq 1 aa (cr aa aa (c4 aa aa ?_));have kb:=jO.get (gu.at oV.1 Sm) (vk _) eQ rfl;obtain⟨j6,pH,mK⟩:=bF (z:=(yk-1)) (n:=A.length) ae ae;obtain⟨zg,rF,e6⟩:=qN mK L;refine aT (fb rfl (by rw[←pH];rfl) mK ?_);refine iR aa (q9 aa aa aa aa aa aa au au e6 (fun w7 Cz zQ=>?_));have wL:af bc w7:=by rw[Cz];exact fm L (ah DV bf)
  rw[←zQ];exact W
 exact rc 6 aa (mS 4 11 aa aa (fun _=>⟨aa,aa⟩) (dH 1 aa (bD aa aa ⟨(.sl A),A,aa,(.inl aa),ae,L,ae,(gu.cast (And.left dz) ae)⟩)))
end Go.Ev.Rp
