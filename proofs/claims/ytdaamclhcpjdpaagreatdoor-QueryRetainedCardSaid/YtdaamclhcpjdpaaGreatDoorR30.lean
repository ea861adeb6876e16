/- Part 30 of rules for walks through the code of a program, and of such walks; what each part proves is said by its theorems. -/
import Derived.Test.YtdaamclhcpjdpaaGreatDoorR20
import Derived.Test.YtdaamclhcpjdpaaGreatDoorR21
import Derived.Test.YtdaamclhcpjdpaaGreatDoorR22
import Derived.Test.YtdaamclhcpjdpaaGreatDoorR23
import Derived.Test.YtdaamclhcpjdpaaGreatDoorR25
import Derived.Test.YtdaamclhcpjdpaaGreatDoorR29
set_option linter.unusedVariables false
set_option linter.unusedSimpArgs false
noncomputable section
set_option maxRecDepth 100000
set_option maxHeartbeats 4000000
namespace Go.Ev.Rp
open Go Go.Ev.Pp
attribute [local irreducible] VC VO VQ VI Sound cm
theorem Sl{T:aN}(F:FT T){a0:DC}(I:(Ty.s 1000).ok a0):Sound T 226 [.d a0] fun r=>∃y0,r= .d y0∧(Ty.b).ok y0:=by
 refine bj F.q226 aa ?_;obtain⟨A,rfl,kE⟩:=I;refine r0 11 aa ?_;refine bm aa ?_ ?_<;>intro h1
 ·exact W
 refine ro 1 aa (bJ aa aa (vi_lenStr aa ?_));refine ro 3 aa ?_;refine bm aa ?_ ?_<;>intro h2
 ·exact W
 refine ro 1 aa ?_;obtain⟨j3,L,M⟩:=bz (z:=0) (n:=A.length) ae ae;obtain⟨c3,O⟩:∃c,A[j3]?=some c:=⟨_,c7 M⟩;refine bJ rfl rfl (PX rfl (by rw[←L];rfl) O ?_);refine ro 3 aa ?_;refine bm aa ?_ ?_<;>intro h4
 ·exact W
 refine ro 1 aa ?_;obtain⟨j5,U,Y⟩:=bz (z:=0) (n:=A.length) ae ae;obtain⟨c5,Z⟩:∃c,A[j5]?=some c:=⟨_,c7 Y⟩;refine bJ rfl rfl (PX rfl (by rw[←U];rfl) Z ?_);refine ro 3 aa ?_;refine au aa ?_ ?_<;>intro h6
 ·exact W
 refine rc 7 aa (bd [22,2,0] [] aa aa (fun e0 b0 k VE B=>∃G,an ((3,.d (dJ G))::e0) VE∧an b0 B∧dP k 0 G (A.length:Int)) ?_ fin);rintro _ VE B⟨G,hV,hB,rfl,bS⟩;refine aU _ _ hV hB (rc 8 aa ?_);refine au aa ?_ ?_<;>intro g7
 ·refine rc 7 aa ?_;obtain⟨j8,B6,sH⟩:=bz (z:=G) (n:=A.length) ae ae;obtain⟨c8,hc8⟩:∃c,A[j8]?=some c:=⟨_,c7 sH⟩;refine ax (PX rfl (by rw[←B6];rfl) hc8 ?_);exact W
 exact W
theorem LX{T:aN}(F:FT T){a0 a1 a2 a3 a4 a5:DC}(cU:(Ty.s 1000).ok a0)(bW:(Ty.l 100 en).ok a1)(cG:(Ty.l 200 br).ok a2)(cn:(Ty.l 4 eD).ok a3)(bZ:(Ty.l 4 ee).ok a4)(cl:(Ty.l 200 br).ok a5):Sound T 345 [.agg [.d a0,.d a1,.d a2,.d a3,.d a4],.d a5] fun r=>∃y0,r= .d y0∧(Ty.b).ok y0:=by
 refine bj F.q345 aa ?_;rcases cU,bW,cG,cn,bZ,cl with⟨⟨iP,rfl,kE⟩,⟨bL,L,df,Z⟩,⟨bt,cF,dc,bV⟩,⟨de,e6,fI,eA⟩,⟨eu,er,fu,dg⟩,⟨jx,M,vX,kV⟩⟩
 refine r0 11 aa (bd [4,2,1,0] [2] aa aa (fun e0 b0 k VE B=>∃z,an ((5,.d (dJ z))::e0) VE∧an b0 B∧dP k 0 z (bL.length:Int)) ?_ fin);rintro _ VE B⟨z,hV,hB,rfl,bS⟩;refine aU _ _ hV hB (aB 6 aa (aO aa L ?_));refine ro 2 aa ?_;refine au aa ?_ ?_<;>intro g1
 ·refine rc 8 aa (bd [11,5,4,2,1,0] [2] aa aa (fun e0 b0 k VE B=>∃A,an ((6,.d (dJ A))::e0) VE∧an b0 B∧dP k 0 A (jx.length:Int)) ?_ fin);rintro _ VE B⟨A,hV,hB,rfl,eU⟩;refine aU _ _ hV hB (aB 5 aa (aO aa M ?_));refine ro 2 aa ?_;refine au aa ?_ ?_<;>intro g2
  ·refine rc 8 aa ?_;obtain⟨pz,O,ud,U,Eu,⟨agp,G,adZ,I⟩,fD⟩:=qI z Z;refine aR (aI aa aa L ae fD aa ?_);refine cD aa aa (gm aa (aS aa) (aS aa) ?_);refine rq 2 aa ?_;obtain⟨pw,Y,cY⟩:=qI A kV;refine aR (aI aa aa M ae cY aa ?_);refine cD aa aa (dx aa aa ?_);refine aP aa (ay aa (N8 F O U G ae I Y) ?_);rintro _ _⟨gV,rfl,rK⟩;exact W
  exact W
 exact W
theorem folC{T:aN}(F:FT T){a0 a1 a2 a3 a4 a5 a6:DC}(cU:tJ.ok a0)(bW:tJ.ok a1)(cG:(Ty.l 13 mw).ok a2)(cn:tJ.ok a3)(bZ:tJ.ok a4)(cl:(Ty.l 13 mw).ok a5)(fw:tJ.ok a6):Sound T 343 [.agg [.d a0,.d a1,.d a2],.agg [.d a3,.d a4,.d a5],.d a6] fun r=>∃y0,r= .d y0∧(Ty.b).ok y0:=by
 refine bj F.q343 aa ?_;rcases cU,bW,cG,cn,bZ,cl,fw with⟨⟨aE,rfl,iU,iV⟩,⟨aJ,rfl,eC,eg⟩,⟨bt,G,dc,I⟩,⟨aW,rfl,mA,mB⟩,⟨bR,rfl,oq,ot⟩,⟨jx,z,vX,kV⟩,⟨bx,rfl,oj,om⟩⟩
 refine r0 17 aa ?_;refine au aa ?_ ?_<;>intro h1
 ·exact W
 refine rc 7 aa (bd [15,6,4,3,2,1,0] [4,3] aa aa (fun e0 b0 k VE B=>∃A,an ((7,.d (dJ A))::e0) VE∧an b0 B∧dP k 0 A (jx.length:Int)) ?_ fin);rintro _ VE B⟨A,hV,hB,rfl,bS⟩;refine aU _ _ hV hB (aB 6 aa (aO aa z ?_));refine ro 2 aa ?_;refine au aa ?_ ?_<;>intro g2
 ·refine rc 9 aa ?_;obtain⟨_,⟨L,rfl,GG,CW⟩,_,⟨M,rfl,hsx3_1⟩,_,⟨O,rfl,hzx3_2,kzx3_2⟩,U⟩:=qI A kV;refine aR (aI aa aa z ae U aa ?_);refine rq 1 aa (cD aa aa (dx aa aa ?_));refine aP aa (ay aa (N8 F ai ai G ae I ai) ?_);rintro _ _⟨fJ,rfl,o5⟩;refine rq 7 aa ?_;refine dw aa ?_ ?_<;>intro g5
  ·refine rq 3 aa (ca aa aa (aI aa aa z ae U aa ?_));refine rq 6 aa ?_;refine dw aa ?_ ?_<;>intro g6
   ·refine rq 3 aa (bK aa (dA aa (bK aa (bK aa (dA aa (bK aa (dA aa (bK aa (bK aa ?_)))))))));exact dA aa (bK aa (rq 2 aa (W)))
   refine rq 3 aa ?_;refine dw aa ?_ ?_<;>intro g7
   ·refine rq 3 aa ?_;obtain⟨_,⟨H4,rfl,ad0,ad1⟩,_,⟨agq,rfl,hsx8_1⟩,_,⟨zx8_2,rfl,hzx8_2,kzx8_2⟩,hH⟩:=qI fJ I;refine ca aa aa (aI aa aa G ae hH aa ?_);refine rq 4 aa (ca aa aa (aI aa aa z ae U aa ?_));refine rq 1 aa (ca aa aa (wX (r:=[(dJ H4),(aq agq),(dJ zx8_2)]) (r':=[(dJ L),(aq M),(dJ O)]) aa aa aa aa (fun b9=>?_)));exact rq 2 aa (W)
   exact rq 13 aa (W)
  refine rq 13 aa ?_;refine dw aa ?_ ?_<;>intro ld
  ·refine rq 3 aa ?_;obtain⟨_,⟨Y,rfl,abl,abm⟩,_,⟨Z,rfl,hsx12_1⟩,_,⟨zx12_2,rfl,hzx12_2,kzx12_2⟩,gI⟩:=qI fJ I;refine ca aa aa (aI aa aa G ae gI aa ?_);refine rq 4 aa (ca aa aa (aI aa aa z ae U aa ?_));refine rq 1 aa (ca aa aa (wX (r:=[(dJ Y),(aq Z),(dJ zx12_2)]) (r':=[(dJ L),(aq M),(dJ O)]) aa aa aa aa (fun b13=>?_)));exact rq 2 aa (W)
  exact rq 13 aa (W)
 exact W
theorem TZ{T:aN}(F:FT T){a0 a1 a2 a3 a4 a5:DC}(cU:(Ty.s 1000).ok a0)(bW:(Ty.l 100 en).ok a1)(cG:(Ty.l 200 br).ok a2)(cn:(Ty.l 4 eD).ok a3)(bZ:(Ty.l 4 ee).ok a4)(cl:tJ.ok a5):Sound T 142 [.agg [.d a0,.d a1,.d a2,.d a3,.d a4],.d a5] fun r=>∃y0,r= .d y0∧(Ty.b).ok y0:=by
 refine bj F.q142 aa ?_;rcases cU,bW,cG,cn,bZ,cl with⟨⟨iP,rfl,kE⟩,⟨bL,cN,df,cb⟩,⟨bt,O,dc,U⟩,⟨de,L,fI,Y⟩,⟨eu,M,fu,Z⟩,⟨cQ,rfl,ov,ow⟩⟩
 refine bY 11 aa (ay aa (Dt F O ae U ai) ?_);rintro _ _⟨_,rfl,TS,rfl⟩;refine ro 1 aa ?_;refine cH aa ?_ ?_<;>intro h2
 ·exact W
 refine rc 7 aa (bd [11,4,2,1,0] [2] aa aa (fun e0 b0 k VE B=>∃z,an ((5,.d (dJ z))::e0) VE∧an b0 B∧dP k 0 z (de.length:Int)) ?_ fin);rintro _ VE B⟨z,hV,hB,rfl,bS⟩;refine aU _ _ hV hB (aB 6 aa (aO aa L ?_));refine ro 2 aa ?_;refine au aa ?_ ?_<;>intro g3
 ·refine rc 8 aa ?_;obtain⟨_,rfl,_,⟨sx4_1,rfl,hsx4_1⟩,_,rfl,cY⟩:=qI z Y;refine ax (aI aa aa L ae cY aa ?_);refine aK 9 aa (ay aa (Dt F (.inl aa) ae tg ai) ?_);rintro _ _⟨_,rfl,MW,rfl⟩;refine ro 1 aa ?_;refine bm aa ?_ ?_<;>intro h6
  ·exact W
  refine ro 4 aa (bJ aa aa (zI aa aa ?_));refine ro 1 aa ?_;refine bm aa ?_ ?_<;>intro g8
  ·refine ro 3 aa (bJ aa aa (ay aa (Dt F (.inl aa) ae tg ai) ?_));rintro _ _⟨Jg,rfl,MX⟩;exact W
  exact W
 refine rc 7 aa (bd [16,11,5,4,2,1,0] [2] aa aa (fun e0 b0 k VE B=>∃A,an ((7,.d (dJ A))::e0) VE∧an b0 B∧dP k 0 A (eu.length:Int)) ?_ fin);rintro _ VE B⟨A,hV,hB,rfl,eU⟩;refine aU _ _ hV hB (aB 6 aa (aO aa M ?_));refine ro 2 aa ?_;refine au aa ?_ ?_<;>intro ld
 ·refine rc 8 aa ?_;obtain⟨qu,nP,tv,⟨adW,G,abz,I⟩,gI⟩:=qI A Z;refine ax (aI aa aa M ae gI aa ?_);refine aK 3 aa (ay aa (Dt F G ae I ai) ?_);rintro _ _⟨vt,rfl,LY⟩;exact W
 exact W
theorem ZC{T:aN}(F:FT T){L M:DC}{A:ak}(G:aA A L)(O:A.length≤1000000000)(U:af br A)(I:tJ.ok M):Sound T 231 [.d L,.d M] fun r=>∃Y,r= .d Y∧(Ty.b).ok Y:=by
 refine bj F.q231 aa ?_;obtain⟨aJ,rfl,Z,eg⟩:=I;refine bY 8 aa (aO aa G ?_);refine ro 3 aa (bd [8,7,4,1,0] [] aa aa (fun e0 b0 k VE B=>∃z,an ((9,.d (dJ z))::e0) VE∧an b0 B∧dP k 0 z (A.length:Int)) ?_ fin);rintro _ VE B⟨z,hV,hB,rfl,bS⟩;exact aU _ _ hV hB (W)
theorem InsertC{T:aN}(F:FT T){L Z a2:DC}(M:(Ty.l 1000000000 cC).ok L)(O:tJ.ok Z)(U:tJ.ok a2):Sound T 145 [.d L,.agg [.d Z,.d a2]] fun r=>∃y0 z y2 A,r= .agg [.d y0,.d y2]∧aA z y0∧(z.length:Int)≤0∧af br z∧aA A y2∧(A.length:Int)≤1∧af jr A:=by
 refine bj F.q145 aa ?_;rcases M,O,U with⟨⟨bP,G,cK,I⟩,⟨aJ,rfl,eC,eg⟩,⟨bf,rfl,lJ,lK⟩⟩
 refine bY 9 aa (ay aa (GI F ai ai) ?_);rintro _ _⟨_,rfl,Y,rfl⟩;refine ro 2 aa ?_;refine cH aa ?_ ?_<;>intro h2
 ·exact W
 refine rc 7 aa ?_;have oF:af jr [[L,(dJ aJ),(dJ bf),.nil]]:=(cA (aj (aM G ae I) (aj ai (aj ai (aj gp bg)))) bT);exact eT 12 12 aa aa (fun _=>⟨aa,aa⟩) (W)
theorem ad2{T:aN}(F:FT T){a0:DC}{I:ak}(Z:aA I a0)(cK:I.length≤1000000000)(bM:af jr I):Sound T 153 [.d a0] fun r=>∃y0 L,r= .d y0∧aA L y0∧(L.length:Int)≤2*(I.length:Int)∧af br L∧0≤(L.length:Int)∧(L=[]→y0= .nil):=by
 refine bj F.q153 aa (bY 12 aa (aO aa Z ?_));refine ro 3 aa (bd [7,6,2,0] [] aa aa (fun e0 b0 k VE B=>∃G A z,an ((3,.d G)::(8,.d (dJ z))::e0) VE∧an b0 B∧k=((I.length:Int) -z).toNat∧(aA A G)∧((A.length:Int)≤2*z)∧(af br A)∧(A=[]→G= .nil)∧(0≤z∧(z≤(I.length:Int)∨z=0))) ?_ fin);rintro _ VE B⟨G,A,z,hV,hB,rfl,U,cM,Y,adC,qM⟩;refine aU _ _ hV hB (rc 5 aa ?_);refine au aa ?_ ?_<;>intro g1
 ·refine rc 5 aa ?_;obtain⟨gW,iG,fP,M,gb,O,lM,mi,bQ⟩:=qI z bM;refine ax (aI aa aa Z ae bQ aa ?_);refine aK 8 aa (ay aa (oV F M O) ?_);rintro _ _⟨_,rfl,AP,rfl⟩;refine ro 1 aa ?_;refine cH aa ?_ ?_<;>intro h4
  ·refine rc 1 aa ?_;rcases Ty.dH M,Ty.dH O with⟨⟨lz,rfl,oU,l9⟩,⟨MY,rfl,uX,uY⟩⟩
   refine rp 8 aa ?_;have J3:af br [[(dJ lz)],[(dJ MY)]]:=(cA (aj ai bg) (cA (aj ai bg) bT));refine eT 22 22 aa aa (fun _=>⟨aa,aa⟩) (ax (ay aa (xp F U ae Y (.inl aa) ae J3) ?_));rintro _ _⟨kD,nZ,rfl,oW,xm,ma,RZ,ad3⟩;exact W
  exact W
 exact W
theorem H5{T:aN}(F:FT T){a0:DC}{G:ak}(I:aA G a0)(cK:G.length≤1000000000)(L:af br G):Sound T 344 [.d a0] fun r=>∃y0,r= .d y0∧(Ty.b).ok y0:=by
 refine bj F.q344 aa (r0 10 aa (bd [2,0] [] aa aa (fun e0 b0 k VE B=>∃A,an ((3,.d (dJ A))::e0) VE∧an b0 B∧dP k 0 A (G.length:Int)) ?_ fin));rintro _ VE B⟨A,hV,hB,rfl,bS⟩;refine aU _ _ hV hB (aB 5 aa (aO aa I ?_));refine ro 2 aa ?_;refine au aa ?_ ?_<;>intro g1
 ·refine rc 7 aa ?_;obtain⟨j2,O,pR⟩:=bz (z:=A) (n:=G.length+1) ae ae;refine aR (eI (l:=0) (h:=j2) rfl I L rfl (tq ae) ⟨_,(by rw[←O];rfl)⟩ rfl ae ae (fun d3 w3 U O8 Y=>?_));refine rq 2 aa ?_;obtain⟨pw,M,Z⟩:=qI A L;refine aR (aI aa aa I ae Z aa ?_);refine cD aa aa (dx aa aa ?_);refine aP aa (ay aa (Dt F U ae Y M) ?_);rintro _ _⟨gV,rfl,rK⟩;exact W
 exact W
end Go.Ev.Rp
namespace Go.Ev.Rp
open Go Go.Ev.Pp
attribute [local irreducible] VC VO VQ VI Sound cm
theorem Sm{T:aN}(F:FT T){G:DC}(z:(Ty.s 1000).ok G):Sound T 137 [.d G] fun r=>∃I,r= .d I∧(Ty.b).ok I:=by
 refine bj F.q137 aa ?_;obtain⟨M,rfl,L⟩:=z;refine bY 7 aa (ay aa (Sl F (bE ah)) ?_);rintro _ _⟨_,rfl,A,rfl⟩;refine ro 1 aa ?_;refine bm aa ?_ ?_<;>intro h2
 ·refine ro 1 aa (bJ aa aa (oM (b:=[118,102,114,111,109]) aa aa ?_));refine ro 2 aa ?_;refine bm aa ?_ ?_<;>intro O
  ·refine ro 1 aa (bJ aa aa (oM (b:=[118,116,111]) aa aa ?_));refine ro 2 aa ?_;refine bm aa ?_ ?_<;>intro U
   ·refine ro 1 aa (bJ aa aa (oM (b:=[114,102,114,111,109]) aa aa ?_));refine ro 2 aa ?_;refine bm aa ?_ ?_<;>intro Y
    ·refine ro 1 aa (bJ aa aa (oM (b:=[114,116,111]) aa aa ?_));exact et 4 aa (bI aa aa fin)
    exact W
   exact W
  exact W
 exact W
theorem vverC{T:aN}(F:FT T){a0 a1 a2:DC}(cU:tJ.ok a0)(bW:tJ.ok a1){L:ak}(z:aA L a2)(dc:L.length≤13)(I:af mw L):Sound T 342 [.agg [.d a0,.d a1,.d a2]] fun r=>∃y0,r=dB y0∧(y0=true→1≤(L.length:Int)∧(L.length:Int)≤12):=by
 refine bj F.q342 aa ?_;rcases cU,bW with⟨⟨aE,rfl,iU,iV⟩,⟨aJ,rfl,eC,eg⟩⟩
 refine bY 10 aa (ay aa (oV F ai ai) ?_);rintro _ _⟨_,rfl,TS,rfl⟩;refine ro 2 aa ?_;refine bm aa ?_ ?_<;>intro h2
 ·exact W
 refine ro 2 aa (bJ aa aa (aO aa z ?_));refine ro 3 aa ?_;refine bm aa ?_ ?_<;>intro h3
 ·exact W
 refine ro 2 aa (bJ aa aa (aO aa z ?_));refine ro 3 aa ?_;refine au aa ?_ ?_<;>intro h4
 ·exact W
 refine rc 7 aa (bd [20,2,1,0] [1] aa aa (fun e0 b0 k VE B=>∃G,an ((3,.d (dJ G))::e0) VE∧an b0 B∧dP k 0 G (L.length:Int)) ?_ fin);rintro _ VE B⟨G,hV,hB,rfl,bS⟩;refine aU _ _ hV hB (aB 6 aa (aO aa z ?_));refine ro 2 aa ?_;refine au aa ?_ ?_<;>intro g5
 ·refine rc 8 aa ?_;obtain⟨_,⟨vn,rfl,Y,Z⟩,BC,A,_,⟨T0,rfl,hzx6_2,kzx6_2⟩,e7⟩:=qI G I;refine ax (aI aa aa z ae e7 aa ?_);refine ro 6 aa (rp 4 aa ?_);refine dw aa ?_ ?_<;>intro g7
  ·refine rq 8 aa (bK aa (dA aa (bK aa (dA aa (bK aa (bK aa (bK aa (bK aa (dA aa ?_)))))))));exact bK aa (rq 26 aa (W))
  refine rq 5 aa ?_;refine dw aa ?_ ?_<;>intro g8
  ·refine rq 3 aa (bK aa (dA aa (bK aa (dA aa (bK aa (bK aa (bK aa (bK aa (dA aa ?_)))))))));exact bK aa (rq 26 aa (W))
  refine rq 3 aa ?_;refine dw aa ?_ ?_<;>intro g9
  ·refine rq 5 aa (ca aa aa (dq aa aa ae ae ?_));obtain⟨_,⟨ad4,rfl,M,O⟩,rQ,Am,H6,An,U⟩:=qI (G-1) I;refine ca aa aa (aI aa aa z ae U aa ?_);refine rq 2 aa (rp 4 aa ?_);refine dw aa ?_ ?_<;>intro ld
   ·exact rq 23 aa (W)
   refine rq 2 aa (eL aa aa aa (ay aa (Sm F A) ?_));rintro _ _⟨_,rfl,Sn,rfl⟩;refine rq 3 aa ?_;refine dw aa ?_ ?_<;>intro Kd
   ·exact rq 17 aa (W)
   refine rq 2 aa (rp 3 aa ?_);refine dw aa ?_ ?_<;>intro B7
   ·exact rq 12 aa (W)
   refine rq 5 aa ?_;refine dw aa ?_ ?_<;>intro ur
   ·exact rq 7 aa (W)
   refine rq 3 aa (eL aa aa aa (ay aa (RR F ai ai z ae I A) ?_));rintro _ _⟨MZ,rfl,hy16_0⟩;exact rq 3 aa (W)
  refine rq 15 aa (eL aa aa aa (ay aa (Sm F A) ?_));rintro _ _⟨_,rfl,by18_0,rfl⟩;refine rq 3 aa ?_;refine dw aa ?_ ?_<;>intro h19
  ·exact rq 17 aa (W)
  refine rq 2 aa (rp 3 aa ?_);refine dw aa ?_ ?_<;>intro Xu
  ·exact rq 12 aa (W)
  refine rq 5 aa ?_;refine dw aa ?_ ?_<;>intro Ka
  ·exact rq 7 aa (W)
  refine rq 3 aa (eL aa aa aa (ay aa (RR F ai ai z ae I A) ?_));rintro _ _⟨H7,rfl,ad5⟩;exact rq 3 aa (W)
 exact W
theorem Cv{T:aN}(F:FT T){a0:DC}{G:ak}(L:aA G a0)(cK:G.length≤1000000000)(M:af br G):Sound T 86 [.d a0] fun r=>∃Z I,r= .d Z∧aA I Z∧(I.length:Int)≤1000000000∧af br I∧0≤(I.length:Int)∧(I=[]→Z= .nil):=by
 refine bj F.q86 aa (r0 14 aa (dh 3 90 3 8 1 aa aa (bd [2,0] [] aa aa (fun e0 b0 k VE B=>∃z A,an ((3,.ac 90 A.length 1)::(4,.d (dJ z))::e0) VE∧an ((90,.acc 3 8 1 A)::b0) B∧k=((G.length:Int) -z).toNat∧(0≤z∧(z≤(G.length:Int)∨z=0))∧((A.length:Int)≤z)∧(af br A)) ?_ fin)));rintro _ VE B⟨z,A,hV,hB,rfl,bS,cM,O⟩;refine aU _ _ hV hB (aB 5 aa (aO aa L ?_));refine ro 2 aa ?_;refine au aa ?_ ?_<;>intro g1
 ·refine rc 7 aa ?_;obtain⟨_,⟨ka,rfl,U,Y⟩,bQ⟩:=qI z M;refine ax (aI aa aa L ae bQ aa ?_);refine aK 1 aa (abc aa aa (fun z3 hz3=>?_));refine ro 1 aa ?_;refine ax (aX (rows:=A) (ys:=[[(dJ z3)]]) rfl rfl rfl (.bs (rows:=[[(dJ z3)]]) rfl) ao ae (fun h=>by rw[h];rfl) (fun h=>by rw[h];rfl) ?_);exact W
 exact rc 6 aa (cf 2 90 aa aa (fun _=>⟨aa,aa⟩) (W))
theorem ai5{T:aN}(F:FT T){Y Z:DC}{A:ak}(I:aA A Y)(cK:A.length≤1000000000)(L:af cC A)(O:(Ty.i .i64 0 64).ok Z):Sound T 147 [.d Y,.d Z] fun r=>∃U G,r= .d U∧aA G U∧(G.length:Int)≤max (A.length:Int) 64∧af cC G∧0≤(G.length:Int)∧(G=[]→U= .nil):=by
 refine bj F.q147 aa ?_;obtain⟨aJ,rfl,eC,eg⟩:=O;refine bY 7 aa (dQ (ys:=A) 7 aa aa aa aa aa (.sD I (cO L aa)) ao ae ?_);refine ro 4 aa (bd [4,1,0] [] aa aa (fun e0 b0 k VE B=>∃z,an ((5,.ac 7 z.length 3)::e0) VE∧an ((7,.acc 121 32 3 z)::b0) B∧k=(aJ-z.length).toNat∧((z.length:Int)≤max (A.length:Int) 64)∧(af cC z)) ?_ fin);rintro _ VE B⟨z,hV,hB,rfl,bS,M⟩;refine aU _ _ hV hB (rc 8 aa ?_);refine au aa ?_ ?_<;>intro g1
 ·refine rc 6 aa ?_;refine ax (aX (rows:=z) (ys:=[[i0,i0,(aq [])]]) rfl rfl rfl (.bs (rows:=[[i0,i0,(aq [])]]) rfl) ao ae (fun h=>by rw[h];rfl) (fun h=>by rw[h];rfl) ?_);exact W
 exact rc 6 aa (cf 4 7 aa aa (fun _=>⟨aa,aa⟩) (W))
theorem agr{T:aN}(F:FT T){a0 a1:DC}{Z:ak}(Y:aA Z a0)(cK:Z.length≤1000000000)(bM:af cC Z){I:ak}(G:aA I a1)(df:I.length≤1000000000)(cb:af br I):Sound T 232 [.d a0,.d a1] fun r=>∃y0 L,r= .d y0∧aA L y0∧(L.length:Int)≤1000000000∧af cC L∧0≤(L.length:Int)∧(L=[]→y0= .nil):=by
 refine bj F.q232 aa (r0 14 aa (dh 5 90 121 32 3 aa aa (bd [4,1,0] [] aa aa (fun e0 b0 k VE B=>∃z A,an ((5,.ac 90 A.length 3)::(6,.d (dJ z))::e0) VE∧an ((90,.acc 121 32 3 A)::b0) B∧k=((I.length:Int) -z).toNat∧(0≤z∧(z≤(I.length:Int)∨z=0))∧((A.length:Int)≤z)∧(af cC A)) ?_ fin)));rintro _ VE B⟨z,A,hV,hB,rfl,bS,cM,nO⟩;refine aU _ _ hV hB (aB 5 aa (aO aa G ?_));refine ro 2 aa ?_;refine au aa ?_ ?_<;>intro g1
 ·refine rc 7 aa ?_;obtain⟨_,⟨ka,rfl,qe,rB⟩,bQ⟩:=qI z cb;refine ax (aI aa aa G ae bQ aa ?_);refine ro 3 aa ?_;refine bm aa ?_ ?_<;>intro g3
  ·refine ro 2 aa (bJ aa aa (aI aa aa G ae bQ aa ?_));refine ro 2 aa (bJ aa aa (aO aa Y ?_));refine ro 3 aa ?_;refine au aa ?_ ?_<;>intro g4
   ·refine aB 5 aa (aI aa aa G ae bQ aa ?_);refine ro 1 aa ?_;obtain⟨_,⟨M,rfl,xj,xk⟩,_,⟨O,rfl,CX,CY⟩,_,⟨U,rfl,hsx5_2⟩,eW⟩:=qI ka bM;refine ax (aI aa aa Y ae eW aa ?_);refine ro 2 aa ?_;refine ax (aX (rows:=A) (ys:=[[(dJ M),(dJ O),(aq U)]]) rfl rfl rfl (.bs (rows:=[[(dJ M),(dJ O),(aq U)]]) rfl) ao ae (fun h=>by rw[h];rfl) (fun h=>by rw[h];rfl) ?_);exact W
   refine rc 4 aa ?_;refine ax (aX (rows:=A) (ys:=[[i0,i0,(aq [])]]) rfl rfl rfl (.bs (rows:=[[i0,i0,(aq [])]]) rfl) ao ae (fun h=>by rw[h];rfl) (fun h=>by rw[h];rfl) ?_);exact W
  refine ro 9 aa (eo aa aa (rc 4 aa ?_));refine ax (aX (rows:=A) (ys:=[[i0,i0,(aq [])]]) rfl rfl rfl (.bs (rows:=[[i0,i0,(aq [])]]) rfl) ao ae (fun h=>by rw[h];rfl) (fun h=>by rw[h];rfl) ?_);exact W
 exact rc 6 aa (cf 4 90 aa aa (fun _=>⟨aa,aa⟩) (W))
end Go.Ev.Rp
namespace Go.Ev.Rp
open Go Go.Ev.Pp
attribute [local irreducible] VC VO VQ VI Sound cm
theorem ZD{T:aN}(F:FT T){a0 a1 a2 a3 a4:DC}(cU:(Ty.s 1000).ok a0){L:ak}(G:aA L a1)(df:L.length≤100)(Z:af en L)(cG:(Ty.l 200 br).ok a2)(cn:(Ty.l 4 eD).ok a3)(bZ:(Ty.l 4 ee).ok a4):Sound T 225 [.agg [.d a0,.d a1,.d a2,.d a3,.d a4]] fun r=>∃y0,r=dB y0∧(y0=true→1≤(L.length:Int)∧jX L.length L):=by
 refine bj F.q225 aa ?_;rcases cU,cG,cn,bZ with⟨⟨iP,rfl,kE⟩,⟨bt,cF,dc,bV⟩,⟨de,O,fI,eA⟩,⟨eu,U,fu,dg⟩⟩
 refine r0 5 aa (dE [2,1,0] [1] aa aa (fun e0 b0 VE B=>an e0 VE∧an b0 B∧(1≤(L.length:Int))) ?_ ?_)
 ·refine aB 4 aa (ay aa (Sl F (bE ah)) ?_);rintro _ _⟨ez,rfl,qw⟩;exact W
 rintro VE B⟨hV,hB,fj0_0⟩;refine aU _ _ hV hB (rc 10 aa (bd [2,1,0] [1] aa aa (fun e0 b0 k VE B=>∃vY A,an ((3,.d (dJ vY))::(4,.d (dJ A))::e0) VE∧an b0 B∧k=((L.length:Int) -A).toNat∧(0≤vY∧vY≤12)∧(0≤A∧(A≤(L.length:Int)∨A=0))∧(jX A L)) ?_ fin));rintro _ VE B⟨vY,A,hV,hB,rfl,bS,cM,ug⟩;refine aU _ _ hV hB (aB 6 aa (aO aa G ?_));refine ro 2 aa ?_;refine au aa ?_ ?_<;>intro g6
 ·refine rc 3 aa ?_;obtain⟨nf,mW,oh,rL,Bv,⟨M0,M,hnx7_2,So⟩,eV⟩:=qI A Z;refine dE [38,4,3,2,1,0] [1] aa aa (fun e0 b0 VE B=>an e0 VE∧an b0 B∧(1≤(M0.length:Int)∧(M0.length:Int)≤12)) ?_ ?_
  ·refine rc 5 aa (aR (aI aa aa G ae eV aa ?_));refine cD aa aa (gm aa (aS aa) (aS aa) ?_);refine aP aa (ay aa (vverC F mW rL M ae So) ?_);rintro _ _⟨ss,rfl,vu⟩;refine rq 2 aa ?_;refine dw aa ?_ ?_<;>intro h9
   ·refine rq 3 aa (bK aa (dA aa (bK aa (bK aa (bK aa (dA aa (bK aa (dA aa (bK aa ?_)))))))));exact bK aa (dA aa (bK aa (dA aa (bK aa (rq 2 aa (W))))))
   have k9:=vu (by simpa using h9);refine rq 3 aa ?_;refine dw aa ?_ ?_<;>intro sM
   ·refine rq 3 aa (ca aa aa (dq aa aa ae ae ?_));obtain⟨afP,RO,MN,Ad,x11_2,hx11_2,sd⟩:=qI (A-1) Z;refine ca aa aa (aI aa aa G ae sd aa ?_);refine rq 4 aa (ca aa aa (aI aa aa G ae eV aa ?_));refine rq 2 aa (eL aa aa aa (ay aa (folC F RO Ad hx11_2 mW rL (aM M ae So) ai) ?_));rintro _ _⟨_,rfl,Sn,rfl⟩;exact rq 3 aa (W)
   exact rq 16 aa (W)
  rintro VE B⟨hV,hB,T1⟩;refine aU _ _ hV hB (rc 5 aa (bd [38,4,2,1,0] [1] aa aa (fun e0 b0 k VE B=>∃Jh Y,an ((3,.d (dJ Jh))::(5,.d (dJ Y))::e0) VE∧an b0 B∧k=((M0.length:Int) -Y).toNat∧(0≤Jh∧Jh≤12)∧(0≤Y∧(Y≤(M0.length:Int)∨Y=0))) ?_ fin));rintro _ VE B⟨Jh,Y,hV,hB,rfl,eU,fO⟩;refine aU _ _ hV hB (aB 7 aa (aI aa aa G ae eV aa ?_));refine aK 2 aa (aO aa M ?_);refine ro 2 aa ?_;refine au aa ?_ ?_<;>intro B7
  ·refine aB 8 aa (aI aa aa G ae eV aa ?_);refine ro 3 aa ?_;obtain⟨_,⟨zx15_0,rfl,hzx15_0,kzx15_0⟩,DB,GP,x15_2,hx15_2,BD⟩:=qI Y So;refine ax (aI aa aa M ae BD aa ?_);refine aK 2 aa (pZ aa aa (fun z16 hz16=>?_));refine aK 4 aa (bC aa aa ae ae ?_);exact cW 2 aa (⟨_,Em fin ae⟩)
  refine aB 3 aa (bC aa aa ae ae ?_);refine cW 2 aa ?_;exact⟨((L.length:Int) -((A+1))).toNat,ae,Jh,(A+1),⟨rfl,rfl,rfl,rfl,rfl,trivial⟩,⟨rfl,trivial⟩,rfl,ae,ae,(by first|assumption|exact lensTo_0|exact jX.step (by assumption) ae (by assumption) rfl (by assumption) (by assumption))⟩
 refine rc 1 aa (dE [38,4,3,2,1,0] [1] aa aa (fun e0 b0 VE B=>an e0 VE∧an b0 B∧(jX L.length L)) ?_ ?_)
 ·refine aB 4 aa (ay aa (H5 F cF ae bV) ?_);rintro _ _⟨_,rfl,by17_0,rfl⟩;refine ro 2 aa ?_;refine bm aa ?_ ?_<;>intro Xv
  ·exact W
  refine ro 3 aa (bJ aa aa (ay aa (LX F (bE ah) (aM G ae Z) (aM cF ae bV) (aM O ae eA) (aM U ae dg) (aM cF ae bV)) ?_));rintro _ _⟨_,rfl,by19_0,rfl⟩;refine ro 3 aa ?_;refine bm aa ?_ ?_<;>intro h20
  ·exact W
  refine ro 2 aa (bJ aa aa (aO aa O ?_));refine ro 3 aa ?_;refine bm aa ?_ ?_<;>intro h21
  ·exact W
  refine ro 2 aa (bJ aa aa (aO aa U ?_));refine ro 3 aa ?_;refine au aa ?_ ?_<;>intro Xw
  ·exact W
  refine rcl 1 aa ?_;exact⟨⟨rfl,rfl,rfl,rfl,rfl,rfl,trivial⟩,⟨rfl,trivial⟩,(by first|assumption|exact jX.all (by assumption) ae)⟩
 rintro VE B⟨hV,hB,fj7_0⟩;refine aU _ _ hV hB (rc 6 aa (bd [38,4,3,2,1,0] [1] aa aa (fun e0 b0 k VE B=>∃Ol,an ((6,.d (dJ Ol))::e0) VE∧an b0 B∧dP k 0 Ol (de.length:Int)) ?_ fin));rintro _ VE B⟨Ol,hV,hB,rfl,ox⟩;refine aU _ _ hV hB (aB 6 aa (aO aa O ?_));refine ro 2 aa ?_;refine au aa ?_ ?_<;>intro O9
 ·refine rc 8 aa ?_;obtain⟨_,rfl,x24_1,hx24_1,_,rfl,V1⟩:=qI Ol eA;refine ax (aI aa aa O ae V1 aa ?_);refine ro 4 aa (dE [118,38,7,6,4,3,2,1,0] [7,1] aa aa (fun e0 b0 VE B=>an e0 VE∧an b0 B) ?_ ?_)
  ·refine rc 2 aa (gz 2 aa (aO aa (.inl aa) ?_));refine ro 2 aa ?_;refine bm aa ?_ ?_<;>intro Xx
   ·exact W
   refine ro 2 aa (bJ aa aa (ay aa (H5 F (.inl aa) ae tg) ?_));rintro _ _⟨_,rfl,ad6,rfl⟩;refine ro 3 aa ?_;refine bm aa ?_ ?_<;>intro h27
   ·exact W
   refine ro 3 aa (bJ aa aa (ay aa (LX F (bE ah) (aM G ae Z) (aM cF ae bV) (aM O ae eA) (aM U ae dg) (aM (.inl aa) ae tg)) ?_));rintro _ _⟨_,rfl,by28_0,rfl⟩;refine ro 3 aa ?_;refine bm aa ?_ ?_<;>intro h29
   ·exact W
   refine ro 2 aa (bJ aa aa (ay aa (Sl F hx24_1) ?_));rintro _ _⟨_,rfl,ad7,rfl⟩;refine ro 3 aa ?_;refine bm aa ?_ ?_<;>intro h31
   ·exact W
   refine ro 2 aa (bJ aa aa (aO aa (.inl aa) ?_));refine ro 2 aa (bJ aa aa (aO aa (.inl aa) ?_));refine ro 3 aa (bJ aa bB (Z9 aa ?_));refine bJ aa bB (oJ aa aa aa ?_);refine bJ aa bB (ay aa (H5 F (.inl aa) ae tg) ?_);rintro _ _⟨ags,rfl,ad8⟩;exact W
  rintro VE B⟨hV,hB⟩;refine aU _ _ hV hB (rc 5 aa (bd [118,38,7,6,4,3,2,1,0] [7,1] aa aa (fun e0 b0 k VE B=>∃Om,an ((8,.d (dJ Om))::e0) VE∧an b0 B∧dP k 0 Om (((([[DC.i .i64 1]]:ak)).length:Nat):Int)) ?_ fin));rintro _ VE B⟨Om,hV,hB,rfl,Ji⟩;refine aU _ _ hV hB (rc 3 aa (gz 3 aa (aO aa (.inl aa) ?_)));refine ro 2 aa ?_;refine au aa ?_ ?_<;>intro Kb
  ·refine rc 8 aa ?_;obtain⟨_,⟨zx35_0,rfl,hzx35_0,kzx35_0⟩,EA⟩:=qI Om HV;refine ax (aI aa aa (.inl aa) ae EA aa ?_);refine ro 3 aa ?_;refine bm aa ?_ ?_<;>intro h36
   ·exact W
   refine ro 3 aa (bJ aa aa (aI aa aa (.inl aa) ae EA aa ?_));refine ro 4 aa ?_;refine cH aa ?_ ?_<;>intro Xy
   ·exact W
   exact W
  exact W
 refine rc 7 aa (bd [118,38,6,4,3,2,1,0] [1] aa aa (fun e0 b0 k VE B=>∃On,an ((9,.d (dJ On))::e0) VE∧an b0 B∧dP k 0 On (eu.length:Int)) ?_ fin);rintro _ VE B⟨On,hV,hB,rfl,Jj⟩;refine aU _ _ hV hB (aB 6 aa (aO aa U ?_));refine ro 2 aa ?_;refine au aa ?_ ?_<;>intro g38
 ·refine rc 8 aa ?_;obtain⟨_,⟨zx39_0,rfl,hzx39_0,kzx39_0⟩,x39_1,⟨wx39_1,z,hnx39_1,I⟩,V2⟩:=qI On dg;refine ax (aI aa aa U ae V2 aa ?_);refine ro 6 aa (rp 4 aa ?_);refine bm aa ?_ ?_<;>intro Xz
  ·refine ro 5 aa ?_;refine bm aa ?_ ?_<;>intro h41
   ·exact W
   refine ro 2 aa (bJ aa aa (aO aa z ?_));refine ro 3 aa ?_;refine bm aa ?_ ?_<;>intro h42
   ·exact W
   refine ro 2 aa (bJ aa aa (ay aa (H5 F z ae I) ?_));rintro _ _⟨_,rfl,by43_0,rfl⟩;refine ro 3 aa ?_;refine bm aa ?_ ?_<;>intro h44
   ·exact W
   refine ro 3 aa (bJ aa aa (ay aa (LX F (bE ah) (aM G ae Z) (aM cF ae bV) (aM O ae eA) (aM U ae dg) (aM z ae I)) ?_));rintro _ _⟨y45_0,rfl,hy45_0⟩;exact W
  refine ro 7 aa (bJ aa aa (aO aa z ?_));refine ro 3 aa ?_;refine bm aa ?_ ?_<;>intro O'
  ·exact W
  refine ro 2 aa (bJ aa aa (ay aa (H5 F z ae I) ?_));rintro _ _⟨_,rfl,by48_0,rfl⟩;refine ro 3 aa ?_;refine bm aa ?_ ?_<;>intro h49
  ·exact W
  refine ro 3 aa (bJ aa aa (ay aa (LX F (bE ah) (aM G ae Z) (aM cF ae bV) (aM O ae eA) (aM U ae dg) (aM z ae I)) ?_));rintro _ _⟨y50_0,rfl,hy50_0⟩;exact W
 exact W
theorem CreateSC{T:aN}(F:FT T){a0 a1 a2 a3 a4 a5:DC}(cU:(Ty.s 1000).ok a0){bL:ak}(z:aA bL a1)(df:bL.length≤100)(M:af en bL)(cG:(Ty.l 200 br).ok a2)(cn:(Ty.l 4 eD).ok a3)(bZ:(Ty.l 4 ee).ok a4)(cl:tJ.ok a5):Sound T 134 [.agg [.d a0,.d a1,.d a2,.d a3,.d a4],.d a5] fun r=>∃y0 y1 G y3 y4 y5 y6,r= .tuple [.agg [.d y0,.d y1,.d y3,.d y4,.d y5],.d (dJ y6)]∧(Ty.s 1000).ok y0∧aA G y1∧(G.length:Int)≤1∧af en G∧(Ty.l 200 br).ok y3∧(Ty.l 4 eD).ok y4∧(Ty.l 4 ee).ok y5∧(0≤y6∧y6≤100∧(y6=0→1≤(G.length:Int)∧jX G.length G)):=by
 refine bj F.q134 aa ?_;rcases cU,cG,cn,bZ,cl with⟨⟨iP,rfl,kE⟩,⟨bt,O,dc,U⟩,⟨de,Y,fI,Z⟩,⟨eu,er,fu,dg⟩,⟨cQ,rfl,ov,ow⟩⟩
 refine r0 12 aa ?_;refine bm aa ?_ ?_<;>intro h1
 ·exact W
 refine ro 4 aa ?_;refine au aa ?_ ?_<;>intro h2
 ·exact W
 refine aB 5 aa (ay aa (ZD F (bE ah) z ae M (aM O ae U) (aM Y ae Z) (aM er ae dg)) ?_);rintro _ _⟨jL,rfl,mj⟩;refine ro 2 aa ?_;refine bm aa ?_ ?_<;>intro h4
 ·exact W
 have k4:=mj (by simpa using h4);refine ro 2 aa (bJ aa aa (aO aa z ?_));refine ro 3 aa ?_;refine bm aa ?_ ?_<;>intro h5
 ·exact W
 refine ro 2 aa ?_;obtain⟨_,⟨vn,rfl,GN,GO⟩,BC,xV,I,⟨wx6_2,A,hnx6_2,L⟩,e7⟩:=qI 0 M;refine bJ aa aa (aI aa aa z ae e7 aa ?_);refine ro 3 aa (rp 3 aa ?_);refine au aa ?_ ?_<;>intro h7
 ·exact W
 refine aB 7 aa (aI aa aa z ae e7 aa ?_);refine ro 2 aa ?_;have kd:=A;have kb:=jX.get (And.right dm) (mb _) e7 rfl kd;refine rp 3 aa ?_;have wA:af en [[(dJ cQ),(dJ 1099511627776),I]]:=(cA (aj ai (aj ai (aj (aM A ae L) bg))) bT);refine eT 40 40 aa aa (fun _=>⟨aa,aa⟩) (et 9 aa ?_);exact bI rfl rfl ⟨(aq iP),(.sl [[(dJ cQ),(dJ 1099511627776),I]]),[[(dJ cQ),(dJ 1099511627776),I]],a2,a3,a4,0,rfl,(bE ah),(.inl rfl),oe,wA,(aM O ae U),(aM Y ae Z),(aM er ae dg),⟨ae,ae,(by first|(intro hb;exact absurd hb ao)|(intro hb;exact⟨(by simp),lens1 kd kb⟩))⟩⟩
end Go.Ev.Rp
namespace Go.Ev.Rp
open Go Go.Ev.Pp
attribute [local irreducible] VC VO VQ VI Sound cm
theorem LZ{T:aN}(F:FT T){a0 a1 a2 a3 a4:DC}(cU:(Ty.s 1000).ok a0){G:ak}(U:aA G a1)(df:G.length≤100)(Z:af en G)(cG:(Ty.l 200 br).ok a2)(cn:(Ty.l 4 eD).ok a3)(bZ:(Ty.l 4 ee).ok a4):Sound T 139 [.agg [.d a0,.d a1,.d a2,.d a3,.d a4]] fun r=>∃y0,r= .d (dJ y0)∧(0≤y0∧y0≤12∧(gn G.length y0 G∧p0 y0 G)):=by
 refine bj F.aiu aa ?_;rcases cU,cG,cn,bZ with⟨⟨iP,rfl,kE⟩,⟨bt,cF,dc,bV⟩,⟨de,e6,fI,eA⟩,⟨eu,er,fu,dg⟩⟩
 refine r0 15 aa (bd [2,1,0] [1] aa aa (fun e0 b0 k VE B=>∃L z,an ((3,.d (dJ L))::(4,.d (dJ z))::e0) VE∧an b0 B∧k=((G.length:Int) -z).toNat∧(0≤L∧L≤12)∧(0≤z∧(z≤(G.length:Int)∨z=0))∧(gn z L G)∧(p0 L G)) ?_ fin);rintro _ VE B⟨L,z,hV,hB,rfl,bS,cM,ug,js⟩;refine aU _ _ hV hB (aB 6 aa (aO aa U ?_));refine ro 2 aa ?_;refine au aa ?_ ?_<;>intro g1
 ·refine rc 8 aa ?_;obtain⟨gW,iG,fP,jf,gb,⟨M,O,Af,Y⟩,bQ⟩:=qI z Z;refine bd [10,4,2,1,0] [1] aa aa (fun e0 b0 k VE B=>∃I A,an ((3,.d (dJ I))::(5,.d (dJ A))::e0) VE∧an b0 B∧k=((M.length:Int) -A).toNat∧(0≤I∧I≤12)∧(0≤A∧(A≤(M.length:Int)∨A=0))∧(gn z I G)∧(p0 I G)∧(jD A I M)) ?_ fin;rintro _ VE B⟨I,A,hV,hB,rfl,eU,fO,Od,En,Eo⟩;refine aU _ _ hV hB (aB 7 aa (aI aa aa U ae bQ aa ?_));refine aK 2 aa (aO aa O ?_);refine ro 2 aa ?_;refine au aa ?_ ?_<;>intro g3
  ·refine aB 8 aa (aI aa aa U ae bQ aa ?_);refine ro 3 aa ?_;obtain⟨_,⟨tt,rfl,qc,qd⟩,fo,mh,sg,rO,cY⟩:=qI A Y;refine ax (aI aa aa O ae cY aa ?_);refine aK 2 aa (pZ aa aa (fun z5 hz5=>?_));refine aK 4 aa (bC aa aa ae ae ?_);refine cW 2 aa ?_;exact⟨((M.length:Int) -((A+1))).toNat,ae,z5,(A+1),⟨rfl,rfl,rfl,rfl,rfl,rfl,rfl,trivial⟩,⟨rfl,trivial⟩,rfl,ae,ae,TH,(by first|assumption|exact Zx|exact p0.max (by assumption) (by assumption) rfl (by assumption) (by assumption) rfl ae),TH⟩
  refine aB 3 aa (bC aa aa ae ae ?_);refine cW 2 aa ?_;exact⟨((G.length:Int) -((z+1))).toNat,ae,I,(z+1),⟨rfl,rfl,rfl,rfl,rfl,trivial⟩,⟨rfl,trivial⟩,rfl,ae,ae,TH,(by first|assumption|exact Zx|exact p0.max (by assumption) (by assumption) rfl (by assumption) (by assumption) rfl ae)⟩
 refine dO 7 aa ?_;exact bI rfl rfl ⟨L,rfl,⟨ae,ae,⟨gn.all dm ae,by assumption⟩⟩⟩
theorem ai6{T:aN}(F:FT T){a0 a1 a2 a3 a4 a5:DC}(cU:(Ty.s 1000).ok a0){G:ak}(I:aA G a1)(df:G.length≤100)(Z:af en G)(cG:(Ty.l 200 br).ok a2)(cn:(Ty.l 4 eD).ok a3)(bZ:(Ty.l 4 ee).ok a4)(cl:tJ.ok a5):Sound T 67 [.agg [.d a0,.d a1,.d a2,.d a3,.d a4],.d a5] fun r=>∃y0 y1 y2 A y4,r= .tuple [.agg [.d y0,.d y1,.d y2],.d y4]∧tJ.ok y0∧tJ.ok y1∧aA A y2∧(A.length:Int)≤13∧af mw A∧0≤(A.length:Int)∧(A=[]∨∃(q:Nat)(r:List DC)(d:DC),G[q]?=some r∧r[2]?=some d∧aA A d)∧(Ty.b).ok y4:=by
 refine bj F.q67 aa ?_;rcases cU,cG,cn,bZ,cl with⟨⟨iP,rfl,kE⟩,⟨bt,cF,dc,bV⟩,⟨de,e6,fI,eA⟩,⟨eu,er,fu,dg⟩,⟨cQ,rfl,ov,ow⟩⟩
 refine r0 12 aa (bd [5,4,2,1,0] [4,2] aa aa (fun e0 b0 k VE B=>∃z,an ((6,.d (dJ z))::e0) VE∧an b0 B∧dP k 0 z (G.length:Int)) ?_ fin);rintro _ VE B⟨z,hV,hB,rfl,bS⟩;refine aU _ _ hV hB (aB 6 aa (aO aa I ?_));refine ro 2 aa ?_;refine au aa ?_ ?_<;>intro g1
 ·refine rc 8 aa ?_;obtain⟨_,⟨O,rfl,qe,rB⟩,_,⟨U,rfl,oU,l9⟩,gb,⟨Y,L,Af,M⟩,bQ⟩:=qI z Z;refine ax (aI aa aa I ae bQ aa ?_);refine ro 7 aa (rp 5 aa ?_);refine bm aa ?_ ?_<;>intro g3
  ·refine ro 3 aa (rp 3 aa ?_);refine au aa ?_ ?_<;>intro g4
   ·refine aB 5 aa (aI aa aa I ae bQ aa ?_);refine ro 5 aa ?_;exact bI rfl rfl ⟨(dJ O),(dJ U),gb,Y,(.b true),rfl,ai,ai,L,ae,M,ae,(by first|exact .inl rfl|exact .inr ⟨_,_,_,(by assumption),rfl,(by assumption)⟩),dY⟩
   exact W
  exact W
 exact W
theorem C7{T:aN}(F:FT T){a0 a1 a2 a3 a4 a5:DC}(cU:(Ty.s 1000).ok a0){O:ak}(cN:aA O a1)(df:O.length≤100)(cb:af en O)(cG:(Ty.l 200 br).ok a2)(cn:(Ty.l 4 eD).ok a3)(bZ:(Ty.l 4 ee).ok a4)(cl:tJ.ok a5):Sound T 135 [.agg [.d a0,.d a1,.d a2,.d a3,.d a4],.d a5] fun r=>∃y0 U,r= .d y0∧aA U y0∧(U.length:Int)≤12∧af br U∧0≤(U.length:Int)∧(gn O.length U.length O):=by
 refine bj F.q135 aa ?_;rcases cU,cG,cn,bZ,cl with⟨⟨iP,rfl,kE⟩,⟨bt,cF,dc,bV⟩,⟨de,e6,fI,eA⟩,⟨eu,er,fu,dg⟩,⟨cQ,rfl,ov,ow⟩⟩
 refine bY 8 aa (ay aa (LZ F (bE ah) cN ae cb (aM cF ae bV) (aM e6 ae eA) (aM er ae dg)) ?_);rintro _ _⟨ez,rfl,ly1_0,uy1_0,qw⟩;obtain⟨n2,Pa⟩:∃n:Nat,ez=n:=⟨(ez).toNat,(AE ae).symm⟩;refine ax (FH (n:=n2) 11 rfl rfl rfl rfl rfl (by rw[←Pa];rfl) (by rw[←Pa];rfl) ae ae (fun w2 XA wt=>?_));have sB:af br w2:=by subst XA;exact FG (aj ai bg)
 refine aK 6 aa (ay aa (ai6 F (bE ah) cN ae cb (aM cF ae bV) (aM e6 ae eA) (aM er ae dg) ai) ?_);rintro _ _⟨jL,Ey,I5,Y,y3_4,rfl,mj,M1,M,hny3_2,Z,hmy3_2,hfy3_2,hy3_4⟩;refine ro 13 aa (bd [6,4,2,1,0] [6,2] aa aa (fun e0 b0 k VE B=>∃G I A,an ((5,.bs 11 I 1)::(8,.d (dJ G))::e0) VE∧an ((11,.arr 3 8 1 I A)::b0) B∧k=((Y.length:Int) -G).toNat∧(0≤G∧(G≤(Y.length:Int)∨G=0))∧(A.length=I)∧(I=w2.length)∧(af br A)) ?_ fin);rintro _ VE B⟨G,I,A,hV,hB,rfl,bS,rfl,ug,L⟩;refine aU _ _ hV hB (aB 6 aa (aO aa M ?_));refine ro 2 aa ?_;refine au aa ?_ ?_<;>intro g4
 ·refine rc 8 aa ?_;obtain⟨_,⟨tu,rfl,xj,xk⟩,Br,xR,Jk,M3,eW⟩:=qI G Z;refine aR (aI aa aa M ae eW aa ?_);refine rq 1 aa (cD aa aa (dx aa aa ?_));refine aR (dq aa aa ae ae ?_);refine cZ 3 aa (aI aa aa M ae eW aa ?_);refine rq 1 aa (cD aa aa (dx aa aa ?_));have kb:=jD.get (gn.at qw.1 hfy3_2) (mb _) eW rfl;obtain⟨j6,sT,pU⟩:=bz (z:=(tu-1)) (n:=A.length) ae ae;obtain⟨Jl,AV,e7⟩:=qN pU L;refine aR (fi rfl (by rw[←sT];rfl) pU ?_);refine gK aa (uD aa aa aa aa aa aa ao ao e7 (fun w7 Kg Fa=>?_));have J6:af br w7:=by rw[Kg];exact e8 L (aj M3 bg)
  rw[←Fa];exact W
 exact rc 6 aa (qa 4 11 aa aa (fun _=>⟨aa,aa⟩) (dO 1 aa (bI aa aa ⟨(.sl A),A,aa,(.inl aa),ae,L,ae,(gn.cast (Hx dm) ae)⟩)))
end Go.Ev.Rp
