/- Part 33 of rules for walks through the code of a program, and of such walks; what each part proves is said by its theorems. -/
import Derived.Test.YtmpoloiempjdpaaGreatR24
import Derived.Test.YtmpoloiempjdpaaGreatR25
import Derived.Test.YtmpoloiempjdpaaGreatR32
set_option linter.unusedVariables false
set_option linter.unusedSimpArgs false
noncomputable section
set_option maxRecDepth 100000
set_option maxHeartbeats 4000000
namespace Go.Ev.Rp
open Go Go.Ev.Pp
attribute [local irreducible] VC VO VQ VI Sound bY
theorem abp{T:aM}(F:FT T){a0 a1 a2 a3 a4 a5 a6 a7:DC}(z:(Ty.i .u16 0 65535).ok a0)(A:(Ty.i .u16 0 65535).ok a1)(G:(Ty.i .u16 0 65535).ok a2)(I:(Ty.i .u16 0 65535).ok a3)(L:(Ty.i .u16 0 65535).ok a4)(M:(Ty.i .u16 0 65535).ok a5)(O:(Ty.i .u16 0 65535).ok a6)(U:(Ty.i .u16 0 65535).ok a7)(Y:zh T):Sound T 54 [.agg [.d a0,.d a1,.d a2,.d a3,.d a4,.d a5,.d a6,.d a7]] fun r=>∃y0 y1 y2 y3,r= .agg [.d y0,.d y1,.d y2,.d y3]∧tJ.ok y0∧tJ.ok y1∧tJ.ok y2∧(Ty.q (IP T)).ok y3:=by
 refine bm F.q54 aa ?_;rcases z,A,G,I,L,M,O,U with⟨⟨aJ,rfl,iv,iw⟩,⟨aS,rfl,eB,ee⟩,⟨bz,rfl,lF,lG⟩,⟨aT,rfl,mf,mg⟩,⟨bA,rfl,mW,mX⟩,⟨cg,rfl,mY,mZ⟩,⟨bu,rfl,nP,nQ⟩,⟨bT,rfl,su,sv⟩⟩
 refine r0 7 aa (aV (bG (j:=0) aa aa (aX aa) ?_));refine dh 1 aa (c6 aa aa aa ae ae ?_);refine aV (fm aa ao ae ae ?_);refine aV (bx aa aa ae ae ?_);refine aV (bG (j:=1) aa aa (aX aa) ?_);refine dh 1 aa (c6 aa aa aa ae ae ?_);refine aV (fm aa ao ae ae ?_);refine aV (bG (j:=2) aa aa (aX aa) ?_);refine dh 1 aa (c6 aa aa aa ae ae ?_);refine aV (fm aa ao ae ae ?_);refine aV (bG (j:=4) aa aa (aX aa) ?_);refine dh 1 aa (bG (j:=5) aa aa (aX aa) ?_);refine dh 1 aa (bG (j:=6) aa aa (aX aa) ?_);refine dh 1 aa (bG (j:=7) aa aa (aX aa) ?_);refine rq 2 aa (aP aa (aB aa (TextX F ak ak ak ak Y) ?_));rintro _ _⟨dD,rfl,Z⟩;refine rq 7 aa (aw (bG (j:=3) aa aa (aX aa) ?_));refine aN 1 aa (c6 aa aa aa ae ae ?_);refine ro 2 aa ?_;refine cE aa ?_ ?_<;>intro h2
 ·exact W
 exact W
theorem CommandX{T:aM}(F:FT T){aJ:Int}(iY:0≤aJ)(ic:aJ≤65535){aS:Int}(mA:0≤aS)(mB:aS≤65535){bz:Int}(pY:0≤bz)(nh:bz≤65535){aT:Int}(fV:0≤aT)(fW:aT≤65535){bA:Int}(mC:0≤bA)(mD:bA≤65535){cg:Int}(rl:0≤cg)(rm:cg≤65535){bu:Int}(kr:0≤bu)(ku:bu≤65535){bT:Int}(oZ:0≤bT)(o0:bT≤65535){gC:Int}(la8:0≤gC)(ua8:gC≤65535)(uz:zh T):Sound T 27 [.agg [dU aJ,dU aS,dU bz,dU aT,dU bA,dU cg,dU bu,dU bT,dU gC]] fun r=>∃y0 y1 y2 y3 y4 y5 y6 y7 y8 y9,r= .agg [.d y0,.d y1,.d y2,.d y3,.d y4,.d y5,.d y6,.d y7,.d y8,.d y9]∧(Ty.i .i64 1 5).ok y0∧tJ.ok y1∧(Ty.l 2 [tJ,.s 1000,.l 1000000000 cu,tJ,tJ,.l 100 ey,tJ,.l 10 yG,.s 1000,.l 100 dV,.l 200 bn,.l 4 ep,.l 4 dT,tJ,.s 1000,tJ]).ok y2∧tJ.ok y3∧tJ.ok y4∧tJ.ok y5∧(Ty.q (IP T)).ok y6∧(Ty.i .i64 0 4).ok y7∧tJ.ok y8∧tJ.ok y9:=by
 refine bm F.q27 aa (r0 7 aa ?_);have hT0:=uz.1;refine aw (bG (j:=1) aa aa (aX aa) ?_);refine aN 1 aa (bG (j:=2) aa aa (aX aa) ?_);refine aN 1 aa (bG (j:=3) aa aa (aX aa) ?_);refine aN 1 aa (bG (j:=4) aa aa (aX aa) ?_);refine aN 1 aa (bG (j:=5) aa aa (aX aa) ?_);refine aN 1 aa (bG (j:=6) aa aa (aX aa) ?_);refine aN 1 aa (bG (j:=7) aa aa (aX aa) ?_);refine aN 1 aa (bG (j:=8) aa aa (aX aa) ?_);refine ro 5 aa (cw [3,2,1,0] [3,2,1] aa aa (aA 3 aa (bG (j:=0) aa aa (aX aa) ?_)));refine aN 1 aa (c6 aa aa aa ae ae ?_);refine ro 8 aa ?_;refine ay aa ?_ ?_<;>intro g1
 ·refine rc 1 aa (eu aa aa (cw [27,26,3,2,1,0] [3,2,1] aa aa (aA 2 aa (bG (j:=2) aa aa (aX aa) ?_))));refine aN 1 aa (bG (j:=3) aa aa (aX aa) ?_);refine aN 1 aa (bG (j:=4) aa aa (aX aa) ?_);refine aN 1 aa (bG (j:=5) aa aa (aX aa) ?_);refine aN 1 aa (bG (j:=6) aa aa (aX aa) ?_);refine aN 1 aa (bG (j:=7) aa aa (aX aa) ?_);refine aN 1 aa (bG (j:=8) aa aa (aX aa) ?_);refine aN 2 aa (aB aa (abp F ak ak ak ak ak ak ak ak uz) ?_);rintro _ _⟨nR,Wg,Ow,sw,rfl,DF,ahe,ahf,DG⟩;exact ro 3 aa (cw [27,26,4,3,2,1,0] [4,3,2,1] aa aa (W))
 refine rc 4 aa ?_;refine ay aa ?_ ?_<;>intro g3
 ·refine cw [27,26,3,2,1,0] [3,2,1] aa aa (aA 2 aa (bG (j:=2) aa aa (aX aa) ?_));refine aN 1 aa (bG (j:=3) aa aa (aX aa) ?_);refine aN 1 aa (bG (j:=4) aa aa (aX aa) ?_);refine aN 1 aa (bG (j:=5) aa aa (aX aa) ?_);refine aN 1 aa (bG (j:=6) aa aa (aX aa) ?_);refine aN 1 aa (bG (j:=7) aa aa (aX aa) ?_);refine aN 1 aa (bG (j:=8) aa aa (aX aa) ?_);refine aN 2 aa (aB aa (abp F ak ak ak ak ak ak ak ak uz) ?_);rintro _ _⟨gp,sr,ub,Wm,rfl,tH,vu,UH,hy4_3⟩;exact ro 3 aa (cw [27,26,4,3,2,1,0] [4,3,2,1] aa aa (W))
 refine rc 5 aa ?_;refine ay aa ?_ ?_<;>intro g5
 ·refine cw [48,27,26,3,2,1,0] [3,2,1] aa aa (aA 2 aa (bG (j:=2) aa aa (aX aa) ?_));refine aN 1 aa (c6 aa aa aa ae ae ?_);refine aw (fm aa ao ae ae ?_);refine aw (bG (j:=2) aa aa (aX aa) ?_);refine aN 1 aa (c6 aa aa aa ae ae ?_);refine aw (fm aa ao ae ae ?_);refine aw (bx aa aa ae ae ?_);refine aw (bG (j:=3) aa aa (aX aa) ?_);refine aN 1 aa (c6 aa aa aa ae ae ?_);refine aw (fm aa ao ae ae ?_);refine aw (bx aa aa ae ae ?_);refine ro 4 aa (cw [48,27,26,5,3,2,1,0] [5,3,2,1] aa aa (aA 3 aa (bG (j:=3) aa aa (aX aa) ?_)));refine aN 1 aa (c6 aa aa aa ae ae ?_);refine ro 2 aa ?_;refine ay aa ?_ ?_<;>intro g6
  ·refine rc 4 aa (cw [68,48,27,26,5,3,2,1,0] [5,3,2,1] aa aa (aA 2 aa (bG (j:=1) aa aa (aX aa) ?_)));refine aN 1 aa (c6 aa aa aa ae ae ?_);refine aw (fm aa ao ae ae ?_);refine aw (bx aa aa ae ae ?_);exact eJ 6 aa (bL aa aa fin)
  refine rc 1 aa (cw [68,48,27,26,5,3,2,1,0] [5,3,2,1] aa aa (aA 2 aa (bG (j:=1) aa aa (aX aa) ?_)));refine aN 1 aa (c6 aa aa aa ae ae ?_);refine aw (fm aa ao ae ae ?_);refine aw (bx aa aa ae ae ?_);exact eJ 6 aa (bL aa aa fin)
 refine cw [48,27,26,3,2,1,0] [3,2,1] aa aa (rc 5 aa ?_);refine ay aa ?_ ?_<;>intro g7
 ·refine aA 2 aa (bG (j:=1) aa aa (aX aa) ?_);refine aN 1 aa (c6 aa aa aa ae ae ?_);refine aw (fm aa ao ae ae ?_);refine aw (bx aa aa ae ae ?_);exact eJ 4 aa (bL aa aa fin)
 refine cw [78,48,27,26,3,2,1,0] [3,2,1] aa aa (rc 5 aa ?_);refine ay aa ?_ ?_<;>intro g8
 ·refine aA 2 aa (bG (j:=1) aa aa (aX aa) ?_);refine aN 1 aa (c6 aa aa aa ae ae ?_);refine aw (fm aa ao ae ae ?_);exact eJ 4 aa (bL aa aa fin)
 refine rc 1 aa (cw [86,78,48,27,26,3,2,1,0] [3,2,1] aa aa (aA 3 aa (aB aa (aha (aJ:=aS) (aS:=bz) (bz:=aT) (aT:=bA) (bA:=cg) (cg:=bu) (bu:=bT) (bT:=gC) F ae ae ae ae ae ae ae ae ae ae ae ae ae ae ae ae) ?_)));rintro _ _⟨_,_,Wo,_,_,ajT,_,ajU,_,ajV,ahg,ahh,ahi,_,_,_,rfl,⟨HO,rfl,SB,SC⟩,⟨ahj,rfl,hsy9_1⟩,⟨wy9_2,SN,hny9_2,SO⟩,⟨ahk,rfl,hzy9_3,kzy9_3⟩,⟨ahl,rfl,hzy9_4,kzy9_4⟩,⟨wy9_5,hdy9_5,hny9_5,hry9_5⟩,⟨ahm,rfl,hzy9_6,kzy9_6⟩,⟨wy9_7,hdy9_7,hny9_7,hry9_7⟩,⟨ahn,rfl,hsy9_8⟩,⟨wy9_9,hdy9_9,hny9_9,hry9_9⟩,⟨wy9_10,hdy9_10,hny9_10,hry9_10⟩,⟨wy9_11,hdy9_11,hny9_11,hry9_11⟩,⟨wy9_12,hdy9_12,hny9_12,hry9_12⟩,⟨I,rfl,hzy9_13,kzy9_13⟩,⟨L,rfl,hsy9_14⟩,M,rfl,hzy9_15,kzy9_15⟩;refine ro 5 aa (cw [86,78,48,27,26,6,3,2,1,0] [95,6,3,2,1] aa aa (aA 3 aa (bG (j:=0) aa aa (aX aa) ?_)));refine aN 1 aa (c6 aa aa aa ae ae ?_);refine ro 2 aa ?_;refine ay aa ?_ ?_<;>intro uw
 ·refine rc 3 aa (aV (bG (j:=8) aa aa (aX aa) ?_));refine dh 1 aa (bG (j:=2) aa aa (aX aa) ?_);refine dh 1 aa (bG (j:=4) aa aa (aX aa) ?_);refine dh 1 aa (bG (j:=3) aa aa (aX aa) ?_);refine dh 1 aa (bG (j:=6) aa aa (aX aa) ?_);refine dh 1 aa (bG (j:=5) aa aa (aX aa) ?_);refine dh 1 aa (bG (j:=1) aa aa (aX aa) ?_);refine dh 1 aa (bG (j:=7) aa aa (aX aa) ?_);refine rq 2 aa (aP aa (aB aa (aha (aJ:=gC) (aS:=bz) (bz:=bA) (aT:=aT) (bA:=bu) (cg:=cg) (bu:=aS) (bT:=bT) F ae ae ae ae ae ae ae ae ae ae ae ae ae ae ae ae) ?_));rintro _ _⟨_,_,UI,_,_,aho,_,ahp,_,ahq,O,U,Y,_,_,_,rfl,⟨Z,rfl,hzy11_0,kzy11_0⟩,⟨aeL,rfl,hsy11_1⟩,⟨wy11_2,hdy11_2,hny11_2,hry11_2⟩,⟨aeM,rfl,hzy11_3,kzy11_3⟩,⟨aeN,rfl,hzy11_4,kzy11_4⟩,⟨wy11_5,hdy11_5,hny11_5,hry11_5⟩,⟨SP,rfl,hzy11_6,kzy11_6⟩,⟨wy11_7,hdy11_7,hny11_7,hry11_7⟩,⟨aeO,rfl,hsy11_8⟩,⟨wy11_9,hdy11_9,hny11_9,hry11_9⟩,⟨wy11_10,hdy11_10,hny11_10,hry11_10⟩,⟨wy11_11,hdy11_11,hny11_11,hry11_11⟩,⟨wy11_12,hdy11_12,hny11_12,hry11_12⟩,⟨z,rfl,hzy11_13,kzy11_13⟩,⟨A,rfl,hsy11_14⟩,G,rfl,hzy11_15,kzy11_15⟩;refine rq 1 aa (aP aa (rL (rows:=[[(dJ HO),(aq ahj),Wo,(dJ ahk),(dJ ahl),ajT,(dJ ahm),ajU,(aq ahn),ajV,ahg,ahh,ahi,(dJ I),(aq L),(dJ M)]]) (ys:=[[(dJ Z),(aq aeL),UI,(dJ aeM),(dJ aeN),aho,(dJ SP),ahp,(aq aeO),ahq,O,U,Y,(dJ z),(aq A),(dJ G)]]) aa aa aa (.bs (rows:=[[(dJ Z),(aq aeL),UI,(dJ aeM),(dJ aeN),aho,(dJ SP),ahp,(aq aeO),ahq,O,U,Y,(dJ z),(aq A),(dJ G)]]) aa) ao ae ?_));exact rq 3 aa (cw [100,86,78,48,27,26,6,3,2,1,0] [121,95,6,3,2,1] aa aa (rc 3 aa (eZ 124 95 aa aa dr (W))))
 refine rc 4 aa ?_;have Wk:af [tJ,.s 1000,.l 1000000000 cu,tJ,tJ,.l 100 ey,tJ,.l 10 yG,.s 1000,.l 100 dV,.l 200 bn,.l 4 ep,.l 4 dT,tJ,.s 1000,tJ] [[(dJ HO),(aq ahj),Wo,(dJ ahk),(dJ ahl),ajT,(dJ ahm),ajU,(aq ahn),ajV,ahg,ahh,ahi,(dJ I),(aq L),(dJ M)]]:=(cH (ah ak (ah (bB al) (ah (aL SN ae SO) (ah ak (ah ak (ah (aL hdy9_5 ae hry9_5) (ah ak (ah (aL hdy9_7 ae hry9_7) (ah (bB al) (ah (aL hdy9_9 ae hry9_9) (ah (aL hdy9_10 ae hry9_10) (ah (aL hdy9_11 ae hry9_11) (ah (aL hdy9_12 ae hry9_12) (ah ak (ah (bB al) (ah ak bl)))))))))))))))) cb);exact eZ 124 95 aa aa dr (W)
end Go.Ev.Rp
namespace Go.Ev.Rp
open Go Go.Ev.Pp
attribute [local irreducible] VC VO VQ VI Sound bY
theorem DH{T:aM}(F:FT T){I L:DC}{A:ai}(M:au A I)(O:A.length≤1000000000)(U:af bn A)(G:tJ.ok L):Sound T 64 [.d I,.d L] fun r=>∃Y,r= .d Y∧(Ty.b).ok Y:=by
 refine bm F.q64 aa ?_;obtain⟨aS,rfl,Z,ee⟩:=G;refine r0 10 aa (bj [4,1,0] [] aa aa (fun e0 b0 k VE B=>∃z,an ((5,.d (dJ z))::e0) VE∧an b0 B∧d9 k 0 z (A.length:Int)) ?_ fin);rintro _ VE B⟨z,hV,hB,rfl,bU⟩;exact aU _ _ hV hB (W)
theorem ph{T:aM}(F:FT T){G I:DC}(z:tJ.ok G)(A:tJ.ok I):Sound T 79 [.agg [.d G,.d I]] fun r=>∃L,r= .d L∧(Ty.b).ok L:=by
 refine bm F.q79 aa ?_;rcases z,A with⟨⟨aJ,rfl,M,O⟩,⟨aS,rfl,U,Y⟩⟩
 exact W
theorem MI{T:aM}(F:FT T){L M O:DC}(z:tJ.ok L)(A:tJ.ok M)(G:tJ.ok O):Sound T 151 [.agg [.d L,.d M],.d O] fun r=>∃U,r= .d U∧(Ty.b).ok U:=by
 refine bm F.q151 aa ?_;rcases z,A,G with⟨⟨aJ,rfl,Y,Z⟩,⟨aS,rfl,eB,ee⟩,⟨bz,rfl,lF,lG⟩⟩
 refine ch 8 aa (aB aa (ph F ak ak) ?_);rintro _ _⟨dD,rfl,I⟩;exact W
theorem GI{T:aM}(F:FT T){I L:DC}(z:tJ.ok I)(A:tJ.ok L):Sound T 100 [.agg [.d I,.d L]] fun r=>∃M,r= .d M∧(Ty.b).ok M:=by
 refine bm F.q100 aa ?_;rcases z,A with⟨⟨aJ,rfl,O,U⟩,⟨aS,rfl,Y,Z⟩⟩
 refine ch 8 aa (aB aa (ph F ak ak) ?_);rintro _ _⟨dD,rfl,G⟩;exact W
theorem CZ{T:aM}(F:FT T){O U Y Z:DC}(z:tJ.ok O)(A:tJ.ok U)(G:tJ.ok Y)(I:tJ.ok Z):Sound T 135 [.agg [.d O,.d U],.agg [.d Y,.d Z]] fun r=>∃y0 y1 y2,r= .tuple [.agg [.d y0,.d y1],.d y2]∧tJ.ok y0∧tJ.ok y1∧(Ty.b).ok y2:=by
 refine bm F.ajy aa ?_;rcases z,A,G,I with⟨⟨aJ,rfl,iv,iw⟩,⟨aS,rfl,eB,ee⟩,⟨bz,rfl,lF,lG⟩,⟨aT,rfl,mf,mg⟩⟩
 refine ch 13 aa (om aa aa (fun z1 E0=>?_));refine aN 4 aa (tf aa aa (fun z2 ng=>?_));refine aN 8 aa (aB aa (ph F ak ak) ?_);rintro _ _⟨_,rfl,L,rfl⟩;refine ro 2 aa ?_;refine br aa ?_ ?_<;>intro h4
 ·exact W
 refine ro 1 aa (bM aa aa (aB aa (ph F ak ak) ?_));rintro _ _⟨jz,rfl,M⟩;exact W
theorem widthC{T:aM}(F:FT T){a0 a1 a2 a3 a4:DC}(cP:(Ty.s 1000).ok a0)(bV:(Ty.l 100 dV).ok a1)(cG:(Ty.l 200 bn).ok a2)(cr:(Ty.l 4 ep).ok a3)(ca:(Ty.l 4 dT).ok a4):Sound T 96 [.agg [.d a0,.d a1,.d a2,.d a3,.d a4]] fun r=>∃y0,r= .d y0∧(Ty.i .i64 0 12).ok y0:=by
 refine bm F.q96 aa ?_;rcases cP,bV,cG,cr,ca with⟨⟨gO,rfl,ki⟩,⟨Y,M,dn,Z⟩,⟨bo,ct,df,bQ⟩,⟨du,eS,fI,et⟩,⟨dK,dx,eU,dg⟩⟩
 refine r0 15 aa (bj [2,1,0] [1] aa aa (fun e0 b0 k VE B=>∃G z,an ((3,.d (dJ G))::(4,.d (dJ z))::e0) VE∧an b0 B∧k=((Y.length:Int) -z).toNat∧(0≤G∧G≤12)∧(0≤z∧(z≤(Y.length:Int)∨z=0))) ?_ fin);rintro _ VE B⟨G,z,hV,hB,rfl,bU,cS⟩;refine aU _ _ hV hB (aA 6 aa (aQ aa M ?_));refine ro 2 aa ?_;refine ay aa ?_ ?_<;>intro g1
 ·refine rc 8 aa ?_;obtain⟨gW,jt,fH,iQ,gf,⟨O,I,Ao,U⟩,bS⟩:=qI z Z;refine bj [10,4,2,1,0] [1] aa aa (fun e0 b0 k VE B=>∃L A,an ((3,.d (dJ L))::(5,.d (dJ A))::e0) VE∧an b0 B∧k=((O.length:Int) -A).toNat∧(0≤L∧L≤12)∧(0≤A∧(A≤(O.length:Int)∨A=0))) ?_ fin;rintro _ VE B⟨L,A,hV,hB,rfl,fu,gL⟩;refine aU _ _ hV hB (aA 7 aa (aH aa aa M ae bS aa ?_));refine aN 2 aa (aQ aa I ?_);refine ro 2 aa ?_;refine ay aa ?_ ?_<;>intro g3
  ·refine aA 8 aa (aH aa aa M ae bS aa ?_);refine ro 3 aa ?_;obtain⟨_,⟨DE,rfl,tt,tu⟩,e5,kO,pQ,oH,dj⟩:=qI A U;refine aw (aH aa aa I ae dj aa ?_);refine aN 2 aa (om aa aa (fun z5 X4=>?_));refine aN 4 aa (bx aa aa ae ae ?_);exact cL 2 aa (⟨_,me fin ae⟩)
  exact W
 exact W
theorem OC{T:aM}(F:FT T){O U Y Z:DC}(G:tJ.ok O)(I:tJ.ok U){z:ai}(ct:au z Y)(df:z.length≤13)(bQ:af lE z)(L:tJ.ok Z):Sound T 98 [.agg [.d O,.d U,.d Y],.d Z] fun r=>∃M,r= .d (dJ M)∧((-1)≤M∧M≤(z.length:Int) -1∧(True)):=by
 refine bm F.q98 aa ?_;rcases G,I,L with⟨⟨aJ,rfl,iv,iw⟩,⟨aS,rfl,eB,ee⟩,⟨aT,rfl,mf,mg⟩⟩
 refine r0 11 aa (bj [4,2,1,0] [2] aa aa (fun e0 b0 k VE B=>∃A,an ((5,.d (dJ A))::e0) VE∧an b0 B∧d9 k 0 A (z.length:Int)) ?_ fin);rintro _ VE B⟨A,hV,hB,rfl,bU⟩;exact aU _ _ hV hB (W)
theorem SQ{T:aM}(F:FT T){O U Y Z:DC}(G:tJ.ok O)(I:tJ.ok U){z:ai}(ct:au z Y)(df:z.length≤13)(bQ:af lE z)(L:(Ty.s 1000).ok Z):Sound T 95 [.agg [.d O,.d U,.d Y],.d Z] fun r=>∃M,r= .d (dJ M)∧((-1)≤M∧M≤(z.length:Int) -1∧(True)):=by
 refine bm F.q95 aa ?_;rcases G,I,L with⟨⟨aJ,rfl,iv,iw⟩,⟨aS,rfl,eB,ee⟩,⟨sa3,rfl,ajW⟩⟩
 refine r0 11 aa (bj [4,2,1,0] [2] aa aa (fun e0 b0 k VE B=>∃A,an ((5,.d (dJ A))::e0) VE∧an b0 B∧d9 k 0 A (z.length:Int)) ?_ fin);rintro _ VE B⟨A,hV,hB,rfl,bU⟩;exact aU _ _ hV hB (W)
theorem ahr{T:aM}(F:FT T){a0 a1:DC}{G:ai}(A:au G a0)(cT:G.length≤1000000000)(M:af bn G){L:ai}(I:au L a1)(dn:L.length≤1000000000)(O:af bn L):Sound T 152 [.d a0,.d a1] fun r=>∃y0,r= .d y0∧(Ty.b).ok y0:=by
 refine bm F.q152 aa (ch 8 aa (aQ aa A ?_));refine aN 1 aa (aQ aa I ?_);refine ro 2 aa ?_;refine ay aa ?_ ?_<;>intro h1
 ·exact W
 refine rc 7 aa (bj [10,4,1,0] [] aa aa (fun e0 b0 k VE B=>∃z,an ((5,.d (dJ z))::e0) VE∧an b0 B∧d9 k 0 z (G.length:Int)) ?_ fin);rintro _ VE B⟨z,hV,hB,rfl,bU⟩;refine aU _ _ hV hB (aA 5 aa (aQ aa A ?_));refine ro 2 aa ?_;refine ay aa ?_ ?_<;>intro g2
 ·refine rc 7 aa ?_;obtain⟨pS,U,Y⟩:=qI z M;refine aV (aH aa aa A ae Y aa ?_);refine cJ aa aa (dy aa aa ?_);refine rq 2 aa ?_;obtain⟨oS,Z,dj⟩:=qI z O;refine aV (aH aa aa I ae dj aa ?_);refine cJ aa aa (dy aa aa ?_);exact W
 exact W
theorem MJ{T:aM}(F:FT T){Y Z a2 a3 a4 a5:DC}(G:tJ.ok Y)(I:tJ.ok Z)(L:(Ty.s 1000).ok a2)(M:tJ.ok a3)(O:tJ.ok a4)(U:(Ty.s 1000).ok a5):Sound T 206 [.agg [.d Y,.d Z,.d a2],.agg [.d a3,.d a4,.d a5]] fun r=>∃y0,r= .d y0∧(Ty.i .i64 (-1) 1).ok y0:=by
 refine bm F.q206 aa ?_;rcases G,I,L,M,O,U with⟨⟨aJ,rfl,iv,iw⟩,⟨aS,rfl,eB,ee⟩,⟨z,rfl,ajX⟩,⟨aT,rfl,mf,mg⟩,⟨bA,rfl,mW,mX⟩,⟨A,rfl,hsa5⟩⟩
 refine r0 16 aa ?_;refine br aa ?_ ?_<;>intro h1
 ·exact W
 refine ro 6 aa ?_;refine br aa ?_ ?_<;>intro g2
 ·refine ro 8 aa ?_;refine br aa ?_ ?_<;>intro h3
  ·exact W
  refine ro 6 aa ?_;refine br aa ?_ ?_<;>intro g4
  ·refine ro 7 aa ?_;refine br aa ?_ ?_<;>intro g5
   ·refine ro 4 aa (bM aa aa (zV aa aa ao (fun b6=>?_)));refine ro 4 aa ?_;refine cE aa ?_ ?_<;>intro h7
    ·exact W
    refine aA 4 aa (xj (r:=[(dJ aJ),(dJ aS),(aq z)]) (r':=[(dJ aT),(dJ bA),(aq A)]) aa aa aa aa (fun b8=>?_));exact W
   refine ro 9 aa (dq aa aa (aA 4 aa (xj (r:=[(dJ aJ),(dJ aS),(aq z)]) (r':=[(dJ aT),(dJ bA),(aq A)]) aa aa aa aa (fun b10=>?_))));exact W
  refine ro 16 aa (dq aa aa (aA 4 aa (xj (r:=[(dJ aJ),(dJ aS),(aq z)]) (r':=[(dJ aT),(dJ bA),(aq A)]) aa aa aa aa (fun b12=>?_))));exact W
 refine ro 14 aa ?_;refine br aa ?_ ?_<;>intro Cb
 ·refine ro 7 aa ?_;refine br aa ?_ ?_<;>intro uy
  ·refine ro 4 aa (bM aa aa (zV aa aa ao (fun b16=>?_)));refine ro 4 aa ?_;refine cE aa ?_ ?_<;>intro o6
   ·exact W
   refine aA 4 aa (xj (r:=[(dJ aJ),(dJ aS),(aq z)]) (r':=[(dJ aT),(dJ bA),(aq A)]) aa aa aa aa (fun b18=>?_));exact W
  refine ro 9 aa (dq aa aa (aA 4 aa (xj (r:=[(dJ aJ),(dJ aS),(aq z)]) (r':=[(dJ aT),(dJ bA),(aq A)]) aa aa aa aa (fun b20=>?_))));exact W
 refine ro 16 aa (dq aa aa (aA 4 aa (xj (r:=[(dJ aJ),(dJ aS),(aq z)]) (r':=[(dJ aT),(dJ bA),(aq A)]) aa aa aa aa (fun b22=>?_))));exact W
theorem x7{T:aM}(F:FT T){a0 a1:DC}(cP:(Ty.l 1000000000 cu).ok a0)(bV:(Ty.l 1000000000 cu).ok a1):Sound T 149 [.d a0,.d a1] fun r=>∃y0,r= .d y0∧(Ty.i .i64 (-1) 1).ok y0:=by
 refine bm F.q149 aa ?_;rcases cP,bV with⟨⟨bW,A,cT,Z⟩,⟨bJ,G,dn,cq⟩⟩
 refine r0 10 aa (bj [4,1,0] [] aa aa (fun e0 b0 k VE B=>∃z,an ((5,.d (dJ z))::e0) VE∧an b0 B∧d9 k 0 z (bW.length:Int)) ?_ fin);rintro _ VE B⟨z,hV,hB,rfl,bU⟩;refine aU _ _ hV hB (aA 5 aa (aQ aa A ?_));refine ro 2 aa ?_;refine br aa ?_ ?_<;>intro g1
 ·refine ro 2 aa (bM aa aa (aQ aa G ?_));refine ro 3 aa ?_;refine ay aa ?_ ?_<;>intro g2
  ·refine rc 7 aa ?_;obtain⟨pS,I,ud,L,Br,M,fJ⟩:=qI z Z;refine aV (aH aa aa A ae fJ aa ?_);refine cJ aa aa (iJ aa (aX aa) (aX aa) ?_);refine rq 2 aa ?_;obtain⟨oS,O,e5,U,pQ,Y,dj⟩:=qI z cq;refine aV (aH aa aa G ae dj aa ?_);refine cJ aa aa (iJ aa (aX aa) (aX aa) ?_);refine aP aa (aB aa (MJ F I L M O U Y) ?_);rintro _ _⟨jz,rfl,pw⟩;exact W
  exact W
 exact W
theorem ahs{T:aM}(F:FT T){a0 a1:DC}{I:ai}(A:au I a0)(cT:I.length≤1000000000)(M:af bn I){L:ai}(G:au L a1)(dn:L.length≤1000000000)(O:af bn L):Sound T 241 [.d a0,.d a1] fun r=>∃y0,r= .d y0∧(Ty.i .i64 (-1) 1).ok y0:=by
 refine bm F.q241 aa (r0 10 aa (bj [4,1,0] [] aa aa (fun e0 b0 k VE B=>∃z,an ((5,.d (dJ z))::e0) VE∧an b0 B∧d9 k 0 z (I.length:Int)) ?_ fin));rintro _ VE B⟨z,hV,hB,rfl,bU⟩;refine aU _ _ hV hB (aA 5 aa (aQ aa A ?_));refine ro 2 aa ?_;refine br aa ?_ ?_<;>intro g1
 ·refine ro 2 aa (bM aa aa (aQ aa G ?_));refine ro 3 aa ?_;refine ay aa ?_ ?_<;>intro g2
  ·refine rc 8 aa ?_;obtain⟨_,⟨DD,rfl,Z,GD⟩,U⟩:=qI z M;refine aV (aH aa aa A ae U aa ?_);refine cJ aa aa (dy aa aa ?_);refine rq 2 aa ?_;obtain⟨_,⟨DE,rfl,tt,tu⟩,Y⟩:=qI z O;refine aV (aH aa aa G ae Y aa ?_);refine cJ aa aa (dy aa aa ?_);refine rq 2 aa ?_;refine ay aa ?_ ?_<;>intro h5
   ·exact W
   refine rc 5 aa (aV (aH aa aa A ae U aa ?_));refine cJ aa aa (dy aa aa ?_);refine dh 2 aa (aH aa aa G ae Y aa ?_);refine cJ aa aa (dy aa aa ?_);exact W
  exact W
 exact W
end Go.Ev.Rp
namespace Go.Ev.Rp
open Go Go.Ev.Pp
attribute [local irreducible] VC VO VQ VI Sound bY
theorem MK{T:aM}(F:FT T){I L M:DC}(z:tJ.ok I)(A:tJ.ok L)(G:(Ty.s 1000).ok M):Sound T 229 [.agg [.d I,.d L,.d M]] fun r=>∃O,r= .d O∧(Ty.b).ok O:=by
 refine bm F.q229 aa ?_;rcases z,A,G with⟨⟨aJ,rfl,U,Y⟩,⟨aS,rfl,Z,ee⟩,⟨sa2,rfl,ajX⟩⟩
 exact W
theorem boolC{T:aM}(F:FT T){A:DC}(z:(Ty.b).ok A):Sound T 284 [.d A] fun r=>∃G I L,r= .agg [.d G,.d I,.d L]∧tJ.ok G∧tJ.ok I∧(Ty.s 1000).ok L:=by
 refine bm F.q284 aa ?_;obtain⟨M,rfl⟩:=z;exact W
theorem fitsC{T:aM}(F:FT T){G I:DC}(z:tJ.ok G)(A:tJ.ok I):Sound T 271 [.d G,.d I] fun r=>∃L,r= .d L∧(Ty.b).ok L:=by
 refine bm F.q271 aa ?_;rcases z,A with⟨⟨aJ,rfl,M,O⟩,⟨aS,rfl,U,Y⟩⟩
 exact W
theorem aeP{T:aM}(F:FT T){I L M:DC}(z:tJ.ok I)(A:tJ.ok L)(G:(Ty.s 1000).ok M):Sound T 142 [.agg [.d I,.d L,.d M]] fun r=>∃O,r= .d O∧(Ty.b).ok O:=by
 refine bm F.q142 aa ?_;rcases z,A,G with⟨⟨aJ,rfl,U,Y⟩,⟨aS,rfl,Z,ee⟩,⟨sa2,rfl,ajX⟩⟩
 exact W
theorem ML{T:aM}(F:FT T){aJ:Int}(A:aJ≤aJ)(G:aJ≤aJ):Sound T 243 [.d (dJ aJ)] fun r=>∃z,r= .d (dJ z)∧((-1)≤z∧z≤2∧(((aJ=1∨aJ=2)→z=0)∧((aJ=10∨aJ=11)→z=1)∧((3≤aJ∧aJ≤9)→z=2)∧(¬(1≤aJ∧aJ≤11)→z= -1))):=by
 exact bm F.q243 aa (W)
theorem aeQ{T:aM}(F:FT T){U:DC}{z:ai}(G:au z U)(Y:z.length≤200)(Z:af ey z){aS:Int}(mA:0≤aS)(mB:aS≤(z.length:Int) -1){A L M zC:Int}{x4 x5 x6:DC}(I:z[aS.toNat]?=some [.i .i64 A,.i .i64 L,.i .i64 M,.i .i64 zC,x4,x5,x6]):Sound T 270 [.d U,.d (dJ aS)] fun r=>∃y0,r=dB y0∧(y0=true→((A=10∨A=11∨(3≤A∧A≤9))→0≤L∧L<aS)∧((3≤A∧A≤9)→0≤M∧M<aS)):=by
 refine bm F.q270 aa (ch 8 aa (aH aa aa G ae I aa ?_));refine aN 2 aa (aB aa (ML (aJ:=A) F ae ae) ?_);rintro _ _⟨dD,rfl,O⟩;exact W
theorem arithC{T:aM}(F:FT T){U Y Z a3 a4 a5 a6:DC}(z:tJ.ok U)(A:tJ.ok Y)(G:tJ.ok Z)(I:(Ty.s 1000).ok a3)(L:tJ.ok a4)(M:tJ.ok a5)(O:(Ty.s 1000).ok a6):Sound T 285 [.d U,.agg [.d Y,.d Z,.d a3],.agg [.d a4,.d a5,.d a6]] fun r=>∃y0 y1 y2,r= .agg [.d y0,.d y1,.d y2]∧tJ.ok y0∧tJ.ok y1∧(Ty.s 1000).ok y2:=by
 refine bm F.q285 aa ?_;rcases z,A,G,I,L,M,O with⟨⟨aJ,rfl,iv,iw⟩,⟨aS,rfl,eB,ee⟩,⟨bz,rfl,lF,lG⟩,⟨sa3,rfl,ajW⟩,⟨bA,rfl,mW,mX⟩,⟨cg,rfl,mY,mZ⟩,⟨E6,rfl,OD⟩⟩
 refine r0 13 aa ?_;refine br aa ?_ ?_<;>intro h1
 ·exact W
 refine ro 5 aa ?_;refine ay aa ?_ ?_<;>intro h2
 ·exact W
 refine aA 14 aa (qh aa aa (fun z3 Po=>?_));refine aN 9 aa (aa8 aa aa (fun b4=>?_));refine ro 13 aa ?_;refine ay aa ?_ ?_<;>intro g5
 ·refine aA 4 aa (ab3 aa aa (fun z6 hz6=>?_));refine aN 8 aa (aa8 aa aa (fun b7=>?_));refine ro 8 aa ?_;refine cE aa ?_ ?_<;>intro h8
  ·exact W
  exact W
 refine rc 5 aa ?_;refine ay aa ?_ ?_<;>intro g9
 ·refine aA 4 aa (vi_mulW aa aa (fun z10 hz10=>?_));refine ro 6 aa ?_;refine br aa ?_ ?_<;>intro ur
  ·exact W
  refine ro 4 aa ?_;refine br aa ?_ ?_<;>intro oc
  ·exact W
  refine ro 4 aa ?_;refine br aa ?_ ?_<;>intro J6
  ·exact W
  refine ro 4 aa ?_;refine br aa ?_ ?_<;>intro h14
  ·exact W
  refine ro 2 aa (bM aa aa (vi_quoW aa aa ae (fun z15 hz15=>?_)));refine ro 3 aa ?_;refine br aa ?_ ?_<;>intro Yd
  ·exact W
  exact W
 exact W
theorem aht{T:aM}(F:FT T){a0 a1 a2 a3:DC}(cP:(Ty.l 1000000000 cu).ok a0)(bV:(Ty.l 200 bn).ok a1)(cG:(Ty.l 1000000000 cu).ok a2)(cr:(Ty.l 200 bn).ok a3):Sound T 235 [.agg [.d a0,.d a1],.agg [.d a2,.d a3]] fun r=>∃y0,r= .d y0∧(Ty.b).ok y0:=by
 refine bm F.ajH aa ?_;rcases cP,bV,cG,cr with⟨⟨bW,z,cT,A⟩,⟨bJ,G,dn,I⟩,⟨bo,L,df,M⟩,⟨du,O,fI,U⟩⟩
 refine ch 12 aa (aB aa (x7 F (aL z ae A) (aL L ae M)) ?_);rintro _ _⟨_,rfl,ahu,rfl,Y,Z⟩;refine ro 4 aa (rp 3 aa ?_);refine br aa ?_ ?_<;>intro h2
 ·exact W
 refine ro 3 aa ?_;refine br aa ?_ ?_<;>intro g3
 ·refine ro 4 aa (bM aa aa (aB aa (ahs F G ae I O ae U) ?_));rintro _ _⟨gp,rfl,tH⟩;exact W
 exact W
end Go.Ev.Rp
