/- Part 28 of rules for walks through the code of a program, and of such walks; what each part proves is said by its theorems. -/
import Derived.Test.YtdaamclhcpjdpaaGreatDoorT21
import Derived.Test.YtdaamclhcpjdpaaGreatDoorT22
import Derived.Test.YtdaamclhcpjdpaaGreatDoorT23
import Derived.Test.YtdaamclhcpjdpaaGreatDoorT27
set_option linter.unusedVariables false
set_option linter.unusedSimpArgs false
noncomputable section
set_option maxRecDepth 100000
set_option maxHeartbeats 4000000
namespace Go.Ev.Rp
open Go Go.Ev.Pp
attribute [local irreducible] VC VO VQ VI Sound cF
theorem aaO{T:aO}(F:FT T){a0 a1 a2 a3 a4 a5 a6 a7:DC}(z:(Ty.i .u16 0 65535).ok a0)(A:(Ty.i .u16 0 65535).ok a1)(G:(Ty.i .u16 0 65535).ok a2)(I:(Ty.i .u16 0 65535).ok a3)(L:(Ty.i .u16 0 65535).ok a4)(M:(Ty.i .u16 0 65535).ok a5)(O:(Ty.i .u16 0 65535).ok a6)(U:(Ty.i .u16 0 65535).ok a7)(Y:zO T):Sound T 73 [.agg [.d a0,.d a1,.d a2,.d a3,.d a4,.d a5,.d a6,.d a7]] fun r=>∃y0 y1 y2 y3,r= .agg [.d y0,.d y1,.d y2,.d y3]∧tJ.ok y0∧tJ.ok y1∧tJ.ok y2∧(Ty.q (I7 T)).ok y3:=by
 refine bg F.q73 aa ?_;rcases z,A,G,I,L,M,O,U with⟨⟨aK,rfl,gZ,hD⟩,⟨aH,rfl,ey,dW⟩,⟨bA,rfl,lN,lO⟩,⟨bn,rfl,mB,mC⟩,⟨bT,rfl,oj,om⟩,⟨bO,rfl,oo,oq⟩,⟨bx,rfl,oe,og⟩,⟨dh,rfl,rS,rT⟩⟩
 refine r0 7 aa (aT (bI (j:=0) aa aa (aV aa) ?_));refine c7 1 aa (c6 aa aa aa ae ae ?_);refine aT (fR aa au ae ae ?_);refine aT (bB aa aa ae ae ?_);refine aT (bI (j:=1) aa aa (aV aa) ?_);refine c7 1 aa (c6 aa aa aa ae ae ?_);refine aT (fR aa au ae ae ?_);refine aT (bI (j:=2) aa aa (aV aa) ?_);refine c7 1 aa (c6 aa aa aa ae ae ?_);refine aT (fR aa au ae ae ?_);refine aT (bI (j:=4) aa aa (aV aa) ?_);refine c7 1 aa (bI (j:=5) aa aa (aV aa) ?_);refine c7 1 aa (bI (j:=6) aa aa (aV aa) ?_);refine c7 1 aa (bI (j:=7) aa aa (aV aa) ?_);refine rq 2 aa (aP aa (aA aa (TextX F ai ai ai ai Y) ?_));rintro _ _⟨eo,rfl,Z⟩;refine rq 7 aa (aw (bI (j:=3) aa aa (aV aa) ?_));refine aJ 1 aa (c6 aa aa aa ae ae ?_);refine ro 2 aa ?_;refine cO aa ?_ ?_<;>intro h2
 ·exact W
 exact W
theorem CommandX{T:aO}(F:FT T){aK:Int}(ld:0≤aK)(kR:aK≤65535){aH:Int}(jE:0≤aH)(jF:aH≤65535){bA:Int}(pF:0≤bA)(nw:bA≤65535){bn:Int}(jG:0≤bn)(jH:bn≤65535){bT:Int}(oE:0≤bT)(oF:bT≤65535){bO:Int}(nx:0≤bO)(ny:bO≤65535){bx:Int}(lX:0≤bx)(lY:bx≤65535){dh:Int}(CE:0≤dh)(CF:dh≤65535){hY:Int}(la8:0≤hY)(ua8:hY≤65535)(uv:zO T):Sound T 35 [.agg [dU aK,dU aH,dU bA,dU bn,dU bT,dU bO,dU bx,dU dh,dU hY]] fun r=>∃y0 y1 y2 y3 y4 y5 y6 y7 y8 y9,r= .agg [.d y0,.d y1,.d y2,.d y3,.d y4,.d y5,.d y6,.d y7,.d y8,.d y9]∧(Ty.i .i64 1 5).ok y0∧tJ.ok y1∧(Ty.l 2 [tJ,.s 1000,.l 1000000000 cn,tJ,tJ,.l 100 eB,tJ,.l 10 ze,.s 1000,.l 100 dk,.l 200 bc,.l 4 dy,.l 4 dj,tJ,.s 1000,tJ]).ok y2∧tJ.ok y3∧tJ.ok y4∧tJ.ok y5∧(Ty.q (I7 T)).ok y6∧(Ty.i .i64 0 4).ok y7∧tJ.ok y8∧tJ.ok y9:=by
 refine bg F.q35 aa (r0 7 aa ?_);have hT0:=uv.1;refine aw (bI (j:=1) aa aa (aV aa) ?_);refine aJ 1 aa (bI (j:=2) aa aa (aV aa) ?_);refine aJ 1 aa (bI (j:=3) aa aa (aV aa) ?_);refine aJ 1 aa (bI (j:=4) aa aa (aV aa) ?_);refine aJ 1 aa (bI (j:=5) aa aa (aV aa) ?_);refine aJ 1 aa (bI (j:=6) aa aa (aV aa) ?_);refine aJ 1 aa (bI (j:=7) aa aa (aV aa) ?_);refine aJ 1 aa (bI (j:=8) aa aa (aV aa) ?_);refine ro 5 aa (cK [3,2,1,0] [3,2,1] aa aa (aB 3 aa (bI (j:=0) aa aa (aV aa) ?_)));refine aJ 1 aa (c6 aa aa aa ae ae ?_);refine ro 8 aa ?_;refine ax aa ?_ ?_<;>intro g1
 ·refine rc 1 aa (eM aa aa (cK [27,26,3,2,1,0] [3,2,1] aa aa (aB 2 aa (bI (j:=2) aa aa (aV aa) ?_))));refine aJ 1 aa (bI (j:=3) aa aa (aV aa) ?_);refine aJ 1 aa (bI (j:=4) aa aa (aV aa) ?_);refine aJ 1 aa (bI (j:=5) aa aa (aV aa) ?_);refine aJ 1 aa (bI (j:=6) aa aa (aV aa) ?_);refine aJ 1 aa (bI (j:=7) aa aa (aV aa) ?_);refine aJ 1 aa (bI (j:=8) aa aa (aV aa) ?_);refine aJ 2 aa (aA aa (aaO F ai ai ai ai ai ai ai ai uv) ?_);rintro _ _⟨jV,V1,Ol,rU,rfl,D0,agr,ags,D1⟩;exact ro 3 aa (cK [27,26,4,3,2,1,0] [4,3,2,1] aa aa (W))
 refine rc 4 aa ?_;refine ax aa ?_ ?_<;>intro g3
 ·refine cK [27,26,3,2,1,0] [3,2,1] aa aa (aB 2 aa (bI (j:=2) aa aa (aV aa) ?_));refine aJ 1 aa (bI (j:=3) aa aa (aV aa) ?_);refine aJ 1 aa (bI (j:=4) aa aa (aV aa) ?_);refine aJ 1 aa (bI (j:=5) aa aa (aV aa) ?_);refine aJ 1 aa (bI (j:=6) aa aa (aV aa) ?_);refine aJ 1 aa (bI (j:=7) aa aa (aV aa) ?_);refine aJ 1 aa (bI (j:=8) aa aa (aV aa) ?_);refine aJ 2 aa (aA aa (aaO F ai ai ai ai ai ai ai ai uv) ?_);rintro _ _⟨gh,rR,ua,V6,rfl,qf,vB,Ux,hy4_3⟩;exact ro 3 aa (cK [27,26,4,3,2,1,0] [4,3,2,1] aa aa (W))
 refine rc 5 aa ?_;refine ax aa ?_ ?_<;>intro g5
 ·refine cK [48,27,26,3,2,1,0] [3,2,1] aa aa (aB 2 aa (bI (j:=2) aa aa (aV aa) ?_));refine aJ 1 aa (c6 aa aa aa ae ae ?_);refine aw (fR aa au ae ae ?_);refine aw (bI (j:=2) aa aa (aV aa) ?_);refine aJ 1 aa (c6 aa aa aa ae ae ?_);refine aw (fR aa au ae ae ?_);refine aw (bB aa aa ae ae ?_);refine aw (bI (j:=3) aa aa (aV aa) ?_);refine aJ 1 aa (c6 aa aa aa ae ae ?_);refine aw (fR aa au ae ae ?_);refine aw (bB aa aa ae ae ?_);refine ro 4 aa (cK [48,27,26,5,3,2,1,0] [5,3,2,1] aa aa (aB 3 aa (bI (j:=3) aa aa (aV aa) ?_)));refine aJ 1 aa (c6 aa aa aa ae ae ?_);refine ro 2 aa ?_;refine ax aa ?_ ?_<;>intro g6
  ·refine rc 4 aa (cK [68,48,27,26,5,3,2,1,0] [5,3,2,1] aa aa (aB 2 aa (bI (j:=1) aa aa (aV aa) ?_)));refine aJ 1 aa (c6 aa aa aa ae ae ?_);refine aw (fR aa au ae ae ?_);refine aw (bB aa aa ae ae ?_);exact dR 6 aa (bD aa aa fin)
  refine rc 1 aa (cK [68,48,27,26,5,3,2,1,0] [5,3,2,1] aa aa (aB 2 aa (bI (j:=1) aa aa (aV aa) ?_)));refine aJ 1 aa (c6 aa aa aa ae ae ?_);refine aw (fR aa au ae ae ?_);refine aw (bB aa aa ae ae ?_);exact dR 6 aa (bD aa aa fin)
 refine cK [48,27,26,3,2,1,0] [3,2,1] aa aa (rc 5 aa ?_);refine ax aa ?_ ?_<;>intro g7
 ·refine aB 2 aa (bI (j:=1) aa aa (aV aa) ?_);refine aJ 1 aa (c6 aa aa aa ae ae ?_);refine aw (fR aa au ae ae ?_);refine aw (bB aa aa ae ae ?_);exact dR 4 aa (bD aa aa fin)
 refine cK [78,48,27,26,3,2,1,0] [3,2,1] aa aa (rc 5 aa ?_);refine ax aa ?_ ?_<;>intro g8
 ·refine aB 2 aa (bI (j:=1) aa aa (aV aa) ?_);refine aJ 1 aa (c6 aa aa aa ae ae ?_);refine aw (fR aa au ae ae ?_);exact dR 4 aa (bD aa aa fin)
 refine rc 1 aa (cK [86,78,48,27,26,3,2,1,0] [3,2,1] aa aa (aB 3 aa (aA aa (ago (aK:=aH) (aH:=bA) (bA:=bn) (bn:=bT) (bT:=bO) (bO:=bx) (bx:=dh) (dh:=hY) F ae ae ae ae ae ae ae ae ae ae ae ae ae ae ae ae) ?_)));rintro _ _⟨_,_,V7,_,_,ajc,_,ajd,_,aje,agt,agu,agv,_,_,_,rfl,⟨Ie,rfl,Sw,Sx⟩,⟨agw,rfl,hsy9_1⟩,⟨wy9_2,SI,hny9_2,SJ⟩,⟨agx,rfl,hzy9_3,kzy9_3⟩,⟨agy,rfl,hzy9_4,kzy9_4⟩,⟨wy9_5,hdy9_5,hny9_5,hry9_5⟩,⟨agz,rfl,hzy9_6,kzy9_6⟩,⟨wy9_7,hdy9_7,hny9_7,hry9_7⟩,⟨agA,rfl,hsy9_8⟩,⟨wy9_9,hdy9_9,hny9_9,hry9_9⟩,⟨wy9_10,hdy9_10,hny9_10,hry9_10⟩,⟨wy9_11,hdy9_11,hny9_11,hry9_11⟩,⟨wy9_12,hdy9_12,hny9_12,hry9_12⟩,⟨I,rfl,hzy9_13,kzy9_13⟩,⟨L,rfl,hsy9_14⟩,M,rfl,hzy9_15,kzy9_15⟩;refine ro 5 aa (cK [86,78,48,27,26,6,3,2,1,0] [95,6,3,2,1] aa aa (aB 3 aa (bI (j:=0) aa aa (aV aa) ?_)));refine aJ 1 aa (c6 aa aa aa ae ae ?_);refine ro 2 aa ?_;refine ax aa ?_ ?_<;>intro uq
 ·refine rc 3 aa (aT (bI (j:=8) aa aa (aV aa) ?_));refine c7 1 aa (bI (j:=2) aa aa (aV aa) ?_);refine c7 1 aa (bI (j:=4) aa aa (aV aa) ?_);refine c7 1 aa (bI (j:=3) aa aa (aV aa) ?_);refine c7 1 aa (bI (j:=6) aa aa (aV aa) ?_);refine c7 1 aa (bI (j:=5) aa aa (aV aa) ?_);refine c7 1 aa (bI (j:=1) aa aa (aV aa) ?_);refine c7 1 aa (bI (j:=7) aa aa (aV aa) ?_);refine rq 2 aa (aP aa (aA aa (ago (aK:=hY) (aH:=bA) (bA:=bT) (bn:=bn) (bT:=bx) (bO:=bO) (bx:=aH) (dh:=dh) F ae ae ae ae ae ae ae ae ae ae ae ae ae ae ae ae) ?_));rintro _ _⟨_,_,Uy,_,_,agB,_,agC,_,agD,O,U,Y,_,_,_,rfl,⟨Z,rfl,hzy11_0,kzy11_0⟩,⟨aee,rfl,hsy11_1⟩,⟨wy11_2,hdy11_2,hny11_2,hry11_2⟩,⟨aef,rfl,hzy11_3,kzy11_3⟩,⟨aeg,rfl,hzy11_4,kzy11_4⟩,⟨wy11_5,hdy11_5,hny11_5,hry11_5⟩,⟨SK,rfl,hzy11_6,kzy11_6⟩,⟨wy11_7,hdy11_7,hny11_7,hry11_7⟩,⟨aeh,rfl,hsy11_8⟩,⟨wy11_9,hdy11_9,hny11_9,hry11_9⟩,⟨wy11_10,hdy11_10,hny11_10,hry11_10⟩,⟨wy11_11,hdy11_11,hny11_11,hry11_11⟩,⟨wy11_12,hdy11_12,hny11_12,hry11_12⟩,⟨z,rfl,hzy11_13,kzy11_13⟩,⟨A,rfl,hsy11_14⟩,G,rfl,hzy11_15,kzy11_15⟩;refine rq 1 aa (aP aa (Gm (rows:=[[(dJ Ie),(al agw),V7,(dJ agx),(dJ agy),ajc,(dJ agz),ajd,(al agA),aje,agt,agu,agv,(dJ I),(al L),(dJ M)]]) (ys:=[[(dJ Z),(al aee),Uy,(dJ aef),(dJ aeg),agB,(dJ SK),agC,(al aeh),agD,O,U,Y,(dJ z),(al A),(dJ G)]]) aa aa aa (.bs (rows:=[[(dJ Z),(al aee),Uy,(dJ aef),(dJ aeg),agB,(dJ SK),agC,(al aeh),agD,O,U,Y,(dJ z),(al A),(dJ G)]]) aa) au ae ?_));exact rq 3 aa (cK [100,86,78,48,27,26,6,3,2,1,0] [121,95,6,3,2,1] aa aa (rc 3 aa (eV 124 95 aa aa dx (W))))
 refine rc 4 aa ?_;have V4:af [tJ,.s 1000,.l 1000000000 cn,tJ,tJ,.l 100 eB,tJ,.l 10 ze,.s 1000,.l 100 dk,.l 200 bc,.l 4 dy,.l 4 dj,tJ,.s 1000,tJ] [[(dJ Ie),(al agw),V7,(dJ agx),(dJ agy),ajc,(dJ agz),ajd,(al agA),aje,agt,agu,agv,(dJ I),(al L),(dJ M)]]:=(cJ (ah ai (ah (bC aq) (ah (aL SI ae SJ) (ah ai (ah ai (ah (aL hdy9_5 ae hry9_5) (ah ai (ah (aL hdy9_7 ae hry9_7) (ah (bC aq) (ah (aL hdy9_9 ae hry9_9) (ah (aL hdy9_10 ae hry9_10) (ah (aL hdy9_11 ae hry9_11) (ah (aL hdy9_12 ae hry9_12) (ah ai (ah (bC aq) (ah ai bf)))))))))))))))) ca);exact eV 124 95 aa aa dx (W)
end Go.Ev.Rp
namespace Go.Ev.Rp
open Go Go.Ev.Pp
attribute [local irreducible] VC VO VQ VI Sound cF
theorem D2{T:aO}(F:FT T){I L:DC}{A:aj}(M:ao A I)(O:A.length≤1000000000)(U:af bc A)(G:tJ.ok L):Sound T 81 [.d I,.d L] fun r=>∃Y,r= .d Y∧(Ty.b).ok Y:=by
 refine bg F.q81 aa ?_;obtain⟨aH,rfl,Z,dW⟩:=G;refine r0 10 aa (bd [4,1,0] [] aa aa (fun e0 b0 k VE B=>∃z,an ((5,.d (dJ z))::e0) VE∧an b0 B∧dT k 0 z (A.length:Int)) ?_ fin);rintro _ VE B⟨z,hV,hB,rfl,bR⟩;exact aS _ _ hV hB (W)
theorem oQ{T:aO}(F:FT T){G I:DC}(z:tJ.ok G)(A:tJ.ok I):Sound T 39 [.agg [.d G,.d I]] fun r=>∃L,r= .d L∧(Ty.b).ok L:=by
 refine bg F.XD aa ?_;rcases z,A with⟨⟨aK,rfl,M,O⟩,⟨aH,rfl,U,Y⟩⟩
 exact W
theorem M9{T:aO}(F:FT T){L M O:DC}(z:tJ.ok L)(A:tJ.ok M)(G:tJ.ok O):Sound T 19 [.agg [.d L,.d M],.d O] fun r=>∃U,r= .d U∧(Ty.b).ok U:=by
 refine bg F.q19 aa ?_;rcases z,A,G with⟨⟨aK,rfl,Y,Z⟩,⟨aH,rfl,ey,dW⟩,⟨bA,rfl,lN,lO⟩⟩
 refine cf 8 aa (aA aa (oQ F ai ai) ?_);rintro _ _⟨eo,rfl,I⟩;exact W
theorem G3{T:aO}(F:FT T){I L:DC}(z:tJ.ok I)(A:tJ.ok L):Sound T 143 [.agg [.d I,.d L]] fun r=>∃M,r= .d M∧(Ty.b).ok M:=by
 refine bg F.aiP aa ?_;rcases z,A with⟨⟨aK,rfl,O,U⟩,⟨aH,rfl,Y,Z⟩⟩
 refine cf 8 aa (aA aa (oQ F ai ai) ?_);rintro _ _⟨eo,rfl,G⟩;exact W
theorem DD{T:aO}(F:FT T){O U Y Z:DC}(z:tJ.ok O)(A:tJ.ok U)(G:tJ.ok Y)(I:tJ.ok Z):Sound T 119 [.agg [.d O,.d U],.agg [.d Y,.d Z]] fun r=>∃y0 y1 y2,r= .tuple [.agg [.d y0,.d y1],.d y2]∧tJ.ok y0∧tJ.ok y1∧(Ty.b).ok y2:=by
 refine bg F.aiJ aa ?_;rcases z,A,G,I with⟨⟨aK,rfl,gZ,hD⟩,⟨aH,rfl,ey,dW⟩,⟨bA,rfl,lN,lO⟩,⟨bn,rfl,mB,mC⟩⟩
 refine cf 13 aa (sO aa aa (fun z1 J3=>?_));refine aJ 4 aa (C6 aa aa (fun z2 pE=>?_));refine aJ 8 aa (aA aa (oQ F ai ai) ?_);rintro _ _⟨_,rfl,L,rfl⟩;refine ro 2 aa ?_;refine bk aa ?_ ?_<;>intro h4
 ·exact W
 refine ro 1 aa (bw aa aa (aA aa (oQ F ai ai) ?_));rintro _ _⟨gM,rfl,M⟩;exact W
theorem widthC{T:aO}(F:FT T){a0 a1 a2 a3 a4:DC}(cC:(Ty.s 1000).ok a0)(bX:(Ty.l 100 dk).ok a1)(cN:(Ty.l 200 bc).ok a2)(ch:(Ty.l 4 dy).ok a3)(bY:(Ty.l 4 dj).ok a4):Sound T 139 [.agg [.d a0,.d a1,.d a2,.d a3,.d a4]] fun r=>∃y0,r= .d y0∧(Ty.i .i64 0 12).ok y0:=by
 refine bg F.aiO aa ?_;rcases cC,bX,cN,ch,bY with⟨⟨gN,rfl,jl⟩,⟨Y,M,dg,Z⟩,⟨bu,cu,cX,bS⟩,⟨da,ez,fe,dQ⟩,⟨ed,dY,fJ,dw⟩⟩
 refine r0 15 aa (bd [2,1,0] [1] aa aa (fun e0 b0 k VE B=>∃G z,an ((3,.d (dJ G))::(4,.d (dJ z))::e0) VE∧an b0 B∧k=((Y.length:Int) -z).toNat∧(0≤G∧G≤12)∧(0≤z∧(z≤(Y.length:Int)∨z=0))) ?_ fin);rintro _ VE B⟨G,z,hV,hB,rfl,bR,cM⟩;refine aS _ _ hV hB (aB 6 aa (aM aa M ?_));refine ro 2 aa ?_;refine ax aa ?_ ?_<;>intro g1
 ·refine rc 8 aa ?_;obtain⟨gm,gx,ff,iW,fg,⟨O,I,p5,U⟩,bM⟩:=qI z Z;refine bd [10,4,2,1,0] [1] aa aa (fun e0 b0 k VE B=>∃L A,an ((3,.d (dJ L))::(5,.d (dJ A))::e0) VE∧an b0 B∧k=((O.length:Int) -A).toNat∧(0≤L∧L≤12)∧(0≤A∧(A≤(O.length:Int)∨A=0))) ?_ fin;rintro _ VE B⟨L,A,hV,hB,rfl,fh,gn⟩;refine aS _ _ hV hB (aB 7 aa (aF aa aa M ae bM aa ?_));refine aJ 2 aa (aM aa I ?_);refine ro 2 aa ?_;refine ax aa ?_ ?_<;>intro g3
  ·refine aB 8 aa (aF aa aa M ae bM aa ?_);refine ro 3 aa ?_;obtain⟨_,⟨DZ,rfl,sX,sY⟩,fu,mo,qE,oW,cZ⟩:=qI A U;refine aw (aF aa aa I ae cZ aa ?_);refine aJ 2 aa (sO aa aa (fun z5 hz5=>?_));refine aJ 4 aa (bB aa aa ae ae ?_);exact cA 2 aa (⟨_,EH fin ae⟩)
  exact W
 exact W
theorem Ou{T:aO}(F:FT T){O U Y Z:DC}(G:tJ.ok O)(I:tJ.ok U){z:aj}(cu:ao z Y)(cX:z.length≤13)(bS:af gB z)(L:tJ.ok Z):Sound T 141 [.agg [.d O,.d U,.d Y],.d Z] fun r=>∃M,r= .d (dJ M)∧((-1)≤M∧M≤(z.length:Int) -1∧(True)):=by
 refine bg F.q141 aa ?_;rcases G,I,L with⟨⟨aK,rfl,gZ,hD⟩,⟨aH,rfl,ey,dW⟩,⟨bn,rfl,mB,mC⟩⟩
 refine r0 11 aa (bd [4,2,1,0] [2] aa aa (fun e0 b0 k VE B=>∃A,an ((5,.d (dJ A))::e0) VE∧an b0 B∧dT k 0 A (z.length:Int)) ?_ fin);rintro _ VE B⟨A,hV,hB,rfl,bR⟩;exact aS _ _ hV hB (W)
theorem SL{T:aO}(F:FT T){O U Y Z:DC}(G:tJ.ok O)(I:tJ.ok U){z:aj}(cu:ao z Y)(cX:z.length≤13)(bS:af gB z)(L:(Ty.s 1000).ok Z):Sound T 138 [.agg [.d O,.d U,.d Y],.d Z] fun r=>∃M,r= .d (dJ M)∧((-1)≤M∧M≤(z.length:Int) -1∧(True)):=by
 refine bg F.q138 aa ?_;rcases G,I,L with⟨⟨aK,rfl,gZ,hD⟩,⟨aH,rfl,ey,dW⟩,⟨sa3,rfl,ajf⟩⟩
 refine r0 11 aa (bd [4,2,1,0] [2] aa aa (fun e0 b0 k VE B=>∃A,an ((5,.d (dJ A))::e0) VE∧an b0 B∧dT k 0 A (z.length:Int)) ?_ fin);rintro _ VE B⟨A,hV,hB,rfl,bR⟩;exact aS _ _ hV hB (W)
theorem agE{T:aO}(F:FT T){a0 a1:DC}{G:aj}(A:ao G a0)(cI:G.length≤1000000000)(M:af bc G){L:aj}(I:ao L a1)(dg:L.length≤1000000000)(O:af bc L):Sound T 27 [.d a0,.d a1] fun r=>∃y0,r= .d y0∧(Ty.b).ok y0:=by
 refine bg F.q27 aa (cf 8 aa (aM aa A ?_));refine aJ 1 aa (aM aa I ?_);refine ro 2 aa ?_;refine ax aa ?_ ?_<;>intro h1
 ·exact W
 refine rc 7 aa (bd [10,4,1,0] [] aa aa (fun e0 b0 k VE B=>∃z,an ((5,.d (dJ z))::e0) VE∧an b0 B∧dT k 0 z (G.length:Int)) ?_ fin);rintro _ VE B⟨z,hV,hB,rfl,bR⟩;refine aS _ _ hV hB (aB 5 aa (aM aa A ?_));refine ro 2 aa ?_;refine ax aa ?_ ?_<;>intro g2
 ·refine rc 7 aa ?_;obtain⟨ng,U,Y⟩:=qI z M;refine aT (aF aa aa A ae Y aa ?_);refine cr aa aa (c4 aa aa ?_);refine rq 2 aa ?_;obtain⟨po,Z,cZ⟩:=qI z O;refine aT (aF aa aa I ae cZ aa ?_);refine cr aa aa (c4 aa aa ?_);exact W
 exact W
theorem Ig{T:aO}(F:FT T){Y Z a2 a3 a4 a5:DC}(G:tJ.ok Y)(I:tJ.ok Z)(L:(Ty.s 1000).ok a2)(M:tJ.ok a3)(O:tJ.ok a4)(U:(Ty.s 1000).ok a5):Sound T 209 [.agg [.d Y,.d Z,.d a2],.agg [.d a3,.d a4,.d a5]] fun r=>∃y0,r= .d y0∧(Ty.i .i64 (-1) 1).ok y0:=by
 refine bg F.aiR aa ?_;rcases G,I,L,M,O,U with⟨⟨aK,rfl,gZ,hD⟩,⟨aH,rfl,ey,dW⟩,⟨z,rfl,VX⟩,⟨bn,rfl,mB,mC⟩,⟨bT,rfl,oj,om⟩,⟨A,rfl,hsa5⟩⟩
 refine r0 16 aa ?_;refine bk aa ?_ ?_<;>intro h1
 ·exact W
 refine ro 6 aa ?_;refine bk aa ?_ ?_<;>intro g2
 ·refine ro 8 aa ?_;refine bk aa ?_ ?_<;>intro h3
  ·exact W
  refine ro 6 aa ?_;refine bk aa ?_ ?_<;>intro g4
  ·refine ro 7 aa ?_;refine bk aa ?_ ?_<;>intro g5
   ·refine ro 4 aa (bw aa aa (Lf aa aa au (fun b6=>?_)));refine ro 4 aa ?_;refine cO aa ?_ ?_<;>intro h7
    ·exact W
    refine aB 4 aa (xk (r:=[(dJ aK),(dJ aH),(al z)]) (r':=[(dJ bn),(dJ bT),(al A)]) aa aa aa aa (fun b8=>?_));exact W
   refine ro 9 aa (dc aa aa (aB 4 aa (xk (r:=[(dJ aK),(dJ aH),(al z)]) (r':=[(dJ bn),(dJ bT),(al A)]) aa aa aa aa (fun b10=>?_))));exact W
  refine ro 16 aa (dc aa aa (aB 4 aa (xk (r:=[(dJ aK),(dJ aH),(al z)]) (r':=[(dJ bn),(dJ bT),(al A)]) aa aa aa aa (fun b12=>?_))));exact W
 refine ro 14 aa ?_;refine bk aa ?_ ?_<;>intro CD
 ·refine ro 7 aa ?_;refine bk aa ?_ ?_<;>intro uu
  ·refine ro 4 aa (bw aa aa (Lf aa aa au (fun b16=>?_)));refine ro 4 aa ?_;refine cO aa ?_ ?_<;>intro qU
   ·exact W
   refine aB 4 aa (xk (r:=[(dJ aK),(dJ aH),(al z)]) (r':=[(dJ bn),(dJ bT),(al A)]) aa aa aa aa (fun b18=>?_));exact W
  refine ro 9 aa (dc aa aa (aB 4 aa (xk (r:=[(dJ aK),(dJ aH),(al z)]) (r':=[(dJ bn),(dJ bT),(al A)]) aa aa aa aa (fun b20=>?_))));exact W
 refine ro 16 aa (dc aa aa (aB 4 aa (xk (r:=[(dJ aK),(dJ aH),(al z)]) (r':=[(dJ bn),(dJ bT),(al A)]) aa aa aa aa (fun b22=>?_))));exact W
theorem yl{T:aO}(F:FT T){a0 a1:DC}(cC:(Ty.l 1000000000 cn).ok a0)(bX:(Ty.l 1000000000 cn).ok a1):Sound T 120 [.d a0,.d a1] fun r=>∃y0,r= .d y0∧(Ty.i .i64 (-1) 1).ok y0:=by
 refine bg F.aiK aa ?_;rcases cC,bX with⟨⟨bV,A,cI,Z⟩,⟨bN,G,dg,cq⟩⟩
 refine r0 10 aa (bd [4,1,0] [] aa aa (fun e0 b0 k VE B=>∃z,an ((5,.d (dJ z))::e0) VE∧an b0 B∧dT k 0 z (bV.length:Int)) ?_ fin);rintro _ VE B⟨z,hV,hB,rfl,bR⟩;refine aS _ _ hV hB (aB 5 aa (aM aa A ?_));refine ro 2 aa ?_;refine bk aa ?_ ?_<;>intro g1
 ·refine ro 2 aa (bw aa aa (aM aa G ?_));refine ro 3 aa ?_;refine ax aa ?_ ?_<;>intro g2
  ·refine rc 7 aa ?_;obtain⟨ng,I,qF,L,vX,M,eS⟩:=qI z Z;refine aT (aF aa aa A ae eS aa ?_);refine cr aa aa (gr aa (aV aa) (aV aa) ?_);refine rq 2 aa ?_;obtain⟨po,O,fu,U,qE,Y,cZ⟩:=qI z cq;refine aT (aF aa aa G ae cZ aa ?_);refine cr aa aa (gr aa (aV aa) (aV aa) ?_);refine aP aa (aA aa (Ig F I L M O U Y) ?_);rintro _ _⟨gM,rfl,kS⟩;exact W
  exact W
 exact W
theorem agF{T:aO}(F:FT T){a0 a1:DC}{I:aj}(A:ao I a0)(cI:I.length≤1000000000)(M:af bc I){L:aj}(G:ao L a1)(dg:L.length≤1000000000)(O:af bc L):Sound T 121 [.d a0,.d a1] fun r=>∃y0,r= .d y0∧(Ty.i .i64 (-1) 1).ok y0:=by
 refine bg F.aiL aa (r0 10 aa (bd [4,1,0] [] aa aa (fun e0 b0 k VE B=>∃z,an ((5,.d (dJ z))::e0) VE∧an b0 B∧dT k 0 z (I.length:Int)) ?_ fin));rintro _ VE B⟨z,hV,hB,rfl,bR⟩;refine aS _ _ hV hB (aB 5 aa (aM aa A ?_));refine ro 2 aa ?_;refine bk aa ?_ ?_<;>intro g1
 ·refine ro 2 aa (bw aa aa (aM aa G ?_));refine ro 3 aa ?_;refine ax aa ?_ ?_<;>intro g2
  ·refine rc 8 aa ?_;obtain⟨_,⟨M4,rfl,Z,GY⟩,U⟩:=qI z M;refine aT (aF aa aa A ae U aa ?_);refine cr aa aa (c4 aa aa ?_);refine rq 2 aa ?_;obtain⟨_,⟨DZ,rfl,sX,sY⟩,Y⟩:=qI z O;refine aT (aF aa aa G ae Y aa ?_);refine cr aa aa (c4 aa aa ?_);refine rq 2 aa ?_;refine ax aa ?_ ?_<;>intro h5
   ·exact W
   refine rc 5 aa (aT (aF aa aa A ae U aa ?_));refine cr aa aa (c4 aa aa ?_);refine c7 2 aa (aF aa aa G ae Y aa ?_);refine cr aa aa (c4 aa aa ?_);exact W
  exact W
 exact W
end Go.Ev.Rp
namespace Go.Ev.Rp
open Go Go.Ev.Pp
attribute [local irreducible] VC VO VQ VI Sound cF
theorem ym{T:aO}(F:FT T){I L M:DC}(z:tJ.ok I)(A:tJ.ok L)(G:(Ty.s 1000).ok M):Sound T 423 [.agg [.d I,.d L,.d M]] fun r=>∃O,r= .d O∧(Ty.b).ok O:=by
 refine bg F.q423 aa ?_;rcases z,A,G with⟨⟨aK,rfl,U,Y⟩,⟨aH,rfl,Z,dW⟩,⟨sa2,rfl,VX⟩⟩
 exact W
theorem qg{T:aO}(F:FT T){A:DC}(z:(Ty.b).ok A):Sound T 577 [.d A] fun r=>∃G I L,r= .agg [.d G,.d I,.d L]∧tJ.ok G∧tJ.ok I∧(Ty.s 1000).ok L:=by
 refine bg F.q577 aa ?_;obtain⟨M,rfl⟩:=z;exact W
theorem rH{T:aO}(F:FT T){G I:DC}(z:tJ.ok G)(A:tJ.ok I):Sound T 525 [.d G,.d I] fun r=>∃L,r= .d L∧(Ty.b).ok L:=by
 refine bg F.q525 aa ?_;rcases z,A with⟨⟨aK,rfl,M,O⟩,⟨aH,rfl,U,Y⟩⟩
 exact W
theorem aei{T:aO}(F:FT T){I L M:DC}(z:tJ.ok I)(A:tJ.ok L)(G:(Ty.s 1000).ok M):Sound T 227 [.agg [.d I,.d L,.d M]] fun r=>∃O,r= .d O∧(Ty.b).ok O:=by
 refine bg F.q227 aa ?_;rcases z,A,G with⟨⟨aK,rfl,U,Y⟩,⟨aH,rfl,Z,dW⟩,⟨sa2,rfl,VX⟩⟩
 exact W
theorem M'{T:aO}(F:FT T){aK:Int}(A:aK≤aK)(G:aK≤aK):Sound T 435 [.d (dJ aK)] fun r=>∃z,r= .d (dJ z)∧((-1)≤z∧z≤2∧(((aK=1∨aK=2)→z=0)∧((aK=10∨aK=11)→z=1)∧((3≤aK∧aK≤9)→z=2)∧(¬(1≤aK∧aK≤11)→z= -1))):=by
 exact bg F.q435 aa (W)
theorem aej{T:aO}(F:FT T){U:DC}{z:aj}(G:ao z U)(Y:z.length≤200)(Z:af eB z){aH:Int}(jE:0≤aH)(jF:aH≤(z.length:Int) -1){A L M zC:Int}{x4 x5 x6:DC}(I:z[aH.toNat]?=some [.i .i64 A,.i .i64 L,.i .i64 M,.i .i64 zC,x4,x5,x6]):Sound T 524 [.d U,.d (dJ aH)] fun r=>∃y0,r=dB y0∧(y0=true→((A=10∨A=11∨(3≤A∧A≤9))→0≤L∧L<aH)∧((3≤A∧A≤9)→0≤M∧M<aH)):=by
 refine bg F.q524 aa (cf 8 aa (aF aa aa G ae I aa ?_));refine aJ 2 aa (aA aa (M' (aK:=A) F ae ae) ?_);rintro _ _⟨eo,rfl,O⟩;exact W
theorem arithC{T:aO}(F:FT T){U Y Z a3 a4 a5 a6:DC}(z:tJ.ok U)(A:tJ.ok Y)(G:tJ.ok Z)(I:(Ty.s 1000).ok a3)(L:tJ.ok a4)(M:tJ.ok a5)(O:(Ty.s 1000).ok a6):Sound T 578 [.d U,.agg [.d Y,.d Z,.d a3],.agg [.d a4,.d a5,.d a6]] fun r=>∃y0 y1 y2,r= .agg [.d y0,.d y1,.d y2]∧tJ.ok y0∧tJ.ok y1∧(Ty.s 1000).ok y2:=by
 refine bg F.q578 aa ?_;rcases z,A,G,I,L,M,O with⟨⟨aK,rfl,gZ,hD⟩,⟨aH,rfl,ey,dW⟩,⟨bA,rfl,lN,lO⟩,⟨sa3,rfl,ajf⟩,⟨bT,rfl,oj,om⟩,⟨bO,rfl,oo,oq⟩,⟨Fs,rfl,Ov⟩⟩
 refine r0 13 aa ?_;refine bk aa ?_ ?_<;>intro h1
 ·exact W
 refine ro 5 aa ?_;refine ax aa ?_ ?_<;>intro h2
 ·exact W
 refine aB 14 aa (uM aa aa (fun z3 hz3=>?_));refine aJ 9 aa (aaD aa aa (fun b4=>?_));refine ro 13 aa ?_;refine ax aa ?_ ?_<;>intro g5
 ·refine aB 4 aa (aby aa aa (fun z6 hz6=>?_));refine aJ 8 aa (aaD aa aa (fun b7=>?_));refine ro 8 aa ?_;refine cO aa ?_ ?_<;>intro h8
  ·exact W
  exact W
 refine rc 5 aa ?_;refine ax aa ?_ ?_<;>intro g9
 ·refine aB 4 aa (vi_mulW aa aa (fun z10 hz10=>?_));refine ro 6 aa ?_;refine bk aa ?_ ?_<;>intro sk
  ·exact W
  refine ro 4 aa ?_;refine bk aa ?_ ?_<;>intro nA
  ·exact W
  refine ro 4 aa ?_;refine bk aa ?_ ?_<;>intro Kj
  ·exact W
  refine ro 4 aa ?_;refine bk aa ?_ ?_<;>intro J'
  ·exact W
  refine ro 2 aa (bw aa aa (vi_quoW aa aa ae (fun z15 hz15=>?_)));refine ro 3 aa ?_;refine bk aa ?_ ?_<;>intro XM
  ·exact W
  exact W
 exact W
theorem agG{T:aO}(F:FT T){a0 a1 a2 a3:DC}(cC:(Ty.l 1000000000 cn).ok a0)(bX:(Ty.l 200 bc).ok a1)(cN:(Ty.l 1000000000 cn).ok a2)(ch:(Ty.l 200 bc).ok a3):Sound T 429 [.agg [.d a0,.d a1],.agg [.d a2,.d a3]] fun r=>∃y0,r= .d y0∧(Ty.b).ok y0:=by
 refine bg F.ai0 aa ?_;rcases cC,bX,cN,ch with⟨⟨bV,z,cI,A⟩,⟨bN,G,dg,I⟩,⟨bu,L,cX,M⟩,⟨da,O,fe,U⟩⟩
 refine cf 12 aa (aA aa (yl F (aL z ae A) (aL L ae M)) ?_);rintro _ _⟨_,rfl,agH,rfl,Y,Z⟩;refine ro 4 aa (rp 3 aa ?_);refine bk aa ?_ ?_<;>intro h2
 ·exact W
 refine ro 3 aa ?_;refine bk aa ?_ ?_<;>intro g3
 ·refine ro 4 aa (bw aa aa (aA aa (agF F G ae I O ae U) ?_));rintro _ _⟨gh,rfl,qf⟩;exact W
 exact W
end Go.Ev.Rp
namespace Go.Ev.Rp
open Go Go.Ev.Pp
attribute [local irreducible] VC VO VQ VI Sound cF
theorem xG{T:aO}(F:FT T){a0 a1:DC}{bV:aj}(cg:ao bV a0)(cI:bV.length≤4000000000)(bJ:af bc bV){bN:aj}(cW:ao bN a1)(dg:bN.length≤4000000000)(cq:af bc bN):Sound T 234 [.d a0,.d a1] fun r=>∃y0 br,r= .d y0∧ao br y0∧(br.length:Int)≤bV.length+bN.length∧af bc br∧0≤(br.length:Int)∧(br=[]→y0= .nil):=by
 refine bg F.aiU aa (r0 17 aa (bd [13,4,1,0] [] aa aa (fun e0 b0 k VE B=>∃vZ mY Y,an ((5,.d vZ)::(14,.d (dJ Y))::e0) VE∧an b0 B∧k=((2:Int) -Y).toNat∧(ao mY vZ)∧((mY.length:Int)≤8000000000)∧(af bc mY)∧(mY=[]→vZ= .nil)∧(0≤Y∧(Y≤2∨Y=0))∧((Y=0→(mY.length:Int)≤0)∧(Y=1→mY.length≤bV.length)∧(Y=2→mY.length≤bV.length+bN.length))) ?_ fin));rintro _ VE B⟨vZ,mY,Y,hV,hB,rfl,hdv5_0,cM,SM,aek,tZ,BX⟩;refine aS _ _ hV hB (rc 5 aa ?_);refine ax aa ?_ ?_<;>intro g1
 ·refine rc 5 aa ?_;rcases(by omega:Y=0∨Y=1) with pE|pE
  ·refine aw (KK (j:=0) rfl (by rw[pE];rfl) au rfl ?_);refine aJ 5 aa (aM aa cg ?_);refine ro 3 aa (bd [18,17,15,14,13,7,4,1,0] [] aa aa (fun e0 b0 k VE B=>∃iL A O,an ((5,.d iL)::(19,.d (dJ O))::e0) VE∧an b0 B∧k=((bV.length:Int) -O).toNat∧(ao A iL)∧((A.length:Int)≤8000000000)∧(af bc A)∧(A=[]→iL= .nil)∧(0≤O∧(O≤(bV.length:Int)∨O=0))∧((Y=0→(A.length:Int)≤O)∧(Y=1→(A.length:Int)≤bV.length+O))) ?_ fin);rintro _ VE B⟨iL,A,O,hV,hB,rfl,G,gn,L,M,I',Ow⟩;refine aS _ _ hV hB (rc 5 aa ?_);refine ax aa ?_ ?_<;>intro g3
   ·refine rc 5 aa ?_;obtain⟨_,⟨Z,rfl,sX,sY⟩,cZ⟩:=qI O bJ;refine aw (aF aa aa cg ae cZ aa ?_);refine ro 9 aa (bd [20,19,18,17,15,14,13,9,7,5,4,1,0] [] aa aa (fun e0 b0 k VE B=>∃I,an ((10,.d (dJ I))::e0) VE∧an b0 B∧dT k 0 I (A.length:Int)) ?_ fin);rintro _ VE B⟨I,hV,hB,rfl,ot⟩;refine aS _ _ hV hB (aB 5 aa (aM aa G ?_));refine ro 2 aa ?_;refine bk aa ?_ ?_<;>intro g5
    ·refine ro 2 aa ?_;obtain⟨_,⟨D3,rfl,Mf,Mg⟩,e6⟩:=qI I L;refine bw aa aa (aF aa aa G ae e6 aa ?_);refine ro 2 aa (rp 3 aa ?_);refine ax aa ?_ ?_<;>intro h7
     ·exact W
     refine aB 5 aa (aM aa G ?_);refine ro 2 aa ?_;refine bk aa ?_ ?_<;>intro g8
     ·refine ro 8 aa (eM aa aa (rc 3 aa ?_));obtain⟨j9,wM,uw⟩:=bF (z:=I) (n:=A.length+1) ae ae;refine aT (eO (l:=0) (h:=j9) rfl G L rfl M ⟨_,(by rw[←wM];rfl)⟩ rfl ae ae (fun d10 Kk Ja hl10 V8=>?_));refine aP aa (VI.fresh aa (dZ (ys:=Kk) 52 aa aa aa aa aa (.sD Ja (cP V8 aa)) au ae ?_));refine rq 2 aa (aP aa (aW (rows:=Kk) (ys:=[[(dJ Z)]]) aa aa aa (.bs (rows:=[[(dJ Z)]]) aa) au ae bW bW ?_));refine rq 2 aa ?_;obtain⟨pJ,v3,Ox⟩:=bF (z:=I) (n:=A.length+1) ae ae;refine aT (eO (l:=pJ) (h:=A.length) rfl G L rfl M rfl ⟨_,(by rw[←v3];rfl)⟩ ae ae (fun d12 Pf Jb hl12 V9=>?_));refine aP aa (aW (rows:=(Kk++[[(dJ Z)]])) (ys:=Pf) aa aa aa (.sD Jb (cP V9 aa)) au ae (fun h=>absurd h bh) (fun h=>absurd h bh) ?_);exact rq 2 aa (cl 5 52 aa aa (fun _=>⟨aa,aa⟩) (W))
     refine ro 2 aa (bw aa aa (aF aa aa G ae e6 aa ?_));refine ro 5 aa ?_;refine ax aa ?_ ?_<;>intro ur
     ·refine rc 3 aa ?_;obtain⟨qV,v7,uc⟩:=bF (z:=I) (n:=A.length+1) ae ae;refine aT (eO (l:=0) (h:=qV) rfl G L rfl M ⟨_,(by rw[←v7];rfl)⟩ rfl ae ae (fun d15 Ft V' ajg hr15=>?_));refine aP aa (VI.fresh aa (dZ (ys:=Ft) 52 aa aa aa aa aa (.sD V' (cP hr15 aa)) au ae ?_));refine rq 2 aa (aP aa (aW (rows:=Ft) (ys:=[[(dJ Z)]]) aa aa aa (.bs (rows:=[[(dJ Z)]]) aa) au ae bW bW ?_));refine rq 2 aa ?_;obtain⟨l5,rV,ud⟩:=bF (z:=I) (n:=A.length+1) ae ae;refine aT (eO (l:=l5) (h:=A.length) rfl G L rfl M rfl ⟨_,(by rw[←rV];rfl)⟩ ae ae (fun d17 zV BY Oy EO=>?_));refine aP aa (aW (rows:=(Ft++[[(dJ Z)]])) (ys:=zV) aa aa aa (.sD BY (cP EO aa)) au ae (fun h=>absurd h bh) (fun h=>absurd h bh) ?_);exact rq 2 aa (cl 5 52 aa aa (fun _=>⟨aa,aa⟩) (W))
     exact W
    refine ro 8 aa (dc aa aa (aB 5 aa (aM aa G ?_)));refine ro 2 aa ?_;refine bk aa ?_ ?_<;>intro sv
    ·refine ro 8 aa (eM aa aa (rc 3 aa ?_));obtain⟨sA,BZ,B0⟩:=bF (z:=I) (n:=A.length+1) ae ae;refine aT (eO (l:=0) (h:=sA) rfl G L rfl M ⟨_,(by rw[←BZ];rfl)⟩ rfl ae ae (fun d20 l6 Wa zm Jc=>?_));refine aP aa (VI.fresh aa (dZ (ys:=l6) 52 aa aa aa aa aa (.sD Wa (cP Jc aa)) au ae ?_));refine rq 2 aa (aP aa (aW (rows:=l6) (ys:=[[(dJ Z)]]) aa aa aa (.bs (rows:=[[(dJ Z)]]) aa) au ae bW bW ?_));refine rq 2 aa ?_;obtain⟨mL,pr,lP⟩:=bF (z:=I) (n:=A.length+1) ae ae;refine aT (eO (l:=mL) (h:=A.length) rfl G L rfl M rfl ⟨_,(by rw[←pr];rfl)⟩ ae ae (fun d22 w22 Wb hl22 hr22=>?_));refine aP aa (aW (rows:=(l6++[[(dJ Z)]])) (ys:=w22) aa aa aa (.sD Wb (cP hr22 aa)) au ae (fun h=>absurd h bh) (fun h=>absurd h bh) ?_);exact rq 2 aa (cl 5 52 aa aa (fun _=>⟨aa,aa⟩) (W))
    refine ro 2 aa ?_;obtain⟨_,⟨zx23_0,rfl,hzx23_0,kzx23_0⟩,v8⟩:=qI I L;refine bw aa aa (aF aa aa G ae v8 aa ?_);refine ro 2 aa (rp 3 aa ?_);refine ax aa ?_ ?_<;>intro Pc
    ·refine rc 3 aa ?_;obtain⟨pK,B1,Jd⟩:=bF (z:=I) (n:=A.length+1) ae ae;refine aT (eO (l:=0) (h:=pK) rfl G L rfl M ⟨_,(by rw[←B1];rfl)⟩ rfl ae ae (fun d26 XN Wc hl26 hr26=>?_));refine aP aa (VI.fresh aa (dZ (ys:=XN) 52 aa aa aa aa aa (.sD Wc (cP hr26 aa)) au ae ?_));refine rq 2 aa (aP aa (aW (rows:=XN) (ys:=[[(dJ Z)]]) aa aa aa (.bs (rows:=[[(dJ Z)]]) aa) au ae bW bW ?_));refine rq 2 aa ?_;obtain⟨ux,Je,Wd⟩:=bF (z:=I) (n:=A.length+1) ae ae;refine aT (eO (l:=ux) (h:=A.length) rfl G L rfl M rfl ⟨_,(by rw[←Je];rfl)⟩ ae ae (fun d28 nB We Oz Wf=>?_));refine aP aa (aW (rows:=(XN++[[(dJ Z)]])) (ys:=nB) aa aa aa (.sD We (cP Wf aa)) au ae (fun h=>absurd h bh) (fun h=>absurd h bh) ?_);exact rq 2 aa (cl 5 52 aa aa (fun _=>⟨aa,aa⟩) (W))
    exact W
   exact W
  refine aw (KK (j:=1) rfl (by rw[pE];rfl) au rfl ?_);refine aJ 5 aa (aM aa cW ?_);refine ro 3 aa (bd [18,17,15,14,13,7,4,1,0] [] aa aa (fun e0 b0 k VE B=>∃iL A O,an ((5,.d iL)::(19,.d (dJ O))::e0) VE∧an b0 B∧k=((bN.length:Int) -O).toNat∧(ao A iL)∧((A.length:Int)≤8000000000)∧(af bc A)∧(A=[]→iL= .nil)∧(0≤O∧(O≤(bN.length:Int)∨O=0))∧((Y=0→(A.length:Int)≤O)∧(Y=1→(A.length:Int)≤bV.length+O))) ?_ fin);rintro _ VE B⟨iL,A,O,hV,hB,rfl,G,gn,L,M,I',Ow⟩;refine aS _ _ hV hB (rc 5 aa ?_);refine ax aa ?_ ?_<;>intro Pe
  ·refine rc 5 aa ?_;obtain⟨_,⟨U,rfl,abP,abQ⟩,v9⟩:=qI O cq;refine aw (aF aa aa cW ae v9 aa ?_);refine ro 9 aa (bd [20,19,18,17,15,14,13,9,7,5,4,1,0] [] aa aa (fun e0 b0 k VE B=>∃I,an ((10,.d (dJ I))::e0) VE∧an b0 B∧dT k 0 I (A.length:Int)) ?_ fin);rintro _ VE B⟨I,hV,hB,rfl,ot⟩;refine aS _ _ hV hB (aB 5 aa (aM aa G ?_));refine ro 2 aa ?_;refine bk aa ?_ ?_<;>intro g31
   ·refine ro 2 aa ?_;obtain⟨_,⟨zx32_0,rfl,hzx32_0,kzx32_0⟩,Jf⟩:=qI I L;refine bw aa aa (aF aa aa G ae Jf aa ?_);refine ro 2 aa (rp 3 aa ?_);refine ax aa ?_ ?_<;>intro h33
    ·exact W
    refine aB 5 aa (aM aa G ?_);refine ro 2 aa ?_;refine bk aa ?_ ?_<;>intro Kg
    ·refine ro 8 aa (eM aa aa (rc 3 aa ?_));obtain⟨uy,Jg,Wg⟩:=bF (z:=I) (n:=A.length+1) ae ae;refine aT (eO (l:=0) (h:=uy) rfl G L rfl M ⟨_,(by rw[←Jg];rfl)⟩ rfl ae ae (fun d36 XO Wh hl36 hr36=>?_));refine aP aa (VI.fresh aa (dZ (ys:=XO) 52 aa aa aa aa aa (.sD Wh (cP hr36 aa)) au ae ?_));refine rq 2 aa (aP aa (aW (rows:=XO) (ys:=[[(dJ U)]]) aa aa aa (.bs (rows:=[[(dJ U)]]) aa) au ae bW bW ?_));refine rq 2 aa ?_;obtain⟨uz,Jh,Wi⟩:=bF (z:=I) (n:=A.length+1) ae ae;refine aT (eO (l:=uz) (h:=A.length) rfl G L rfl M rfl ⟨_,(by rw[←Jh];rfl)⟩ ae ae (fun d38 Pg Wj ajh hr38=>?_));refine aP aa (aW (rows:=(XO++[[(dJ U)]])) (ys:=Pg) aa aa aa (.sD Wj (cP hr38 aa)) au ae (fun h=>absurd h bh) (fun h=>absurd h bh) ?_);exact rq 2 aa (cl 5 52 aa aa (fun _=>⟨aa,aa⟩) (W))
    refine ro 2 aa (bw aa aa (aF aa aa G ae Jf aa ?_));refine ro 5 aa ?_;refine ax aa ?_ ?_<;>intro Ph
    ·refine rc 3 aa ?_;obtain⟨wN,Wk,kj40⟩:=bF (z:=I) (n:=A.length+1) ae ae;refine aT (eO (l:=0) (h:=wN) rfl G L rfl M ⟨_,(by rw[←Wk];rfl)⟩ rfl ae ae (fun d41 XP Wl hl41 hr41=>?_));refine aP aa (VI.fresh aa (dZ (ys:=XP) 52 aa aa aa aa aa (.sD Wl (cP hr41 aa)) au ae ?_));refine rq 2 aa (aP aa (aW (rows:=XP) (ys:=[[(dJ U)]]) aa aa aa (.bs (rows:=[[(dJ U)]]) aa) au ae bW bW ?_));refine rq 2 aa ?_;obtain⟨pL,B2,B3⟩:=bF (z:=I) (n:=A.length+1) ae ae;refine aT (eO (l:=pL) (h:=A.length) rfl G L rfl M rfl ⟨_,(by rw[←B2];rfl)⟩ ae ae (fun d43 w43 Wm hl43 hr43=>?_));refine aP aa (aW (rows:=(XP++[[(dJ U)]])) (ys:=w43) aa aa aa (.sD Wm (cP hr43 aa)) au ae (fun h=>absurd h bh) (fun h=>absurd h bh) ?_);exact rq 2 aa (cl 5 52 aa aa (fun _=>⟨aa,aa⟩) (W))
    exact W
   refine ro 8 aa (dc aa aa (aB 5 aa (aM aa G ?_)));refine ro 2 aa ?_;refine bk aa ?_ ?_<;>intro Pj
   ·refine ro 8 aa (eM aa aa (rc 3 aa ?_));obtain⟨qW,Ji,Wo⟩:=bF (z:=I) (n:=A.length+1) ae ae;refine aT (eO (l:=0) (h:=qW) rfl G L rfl M ⟨_,(by rw[←Ji];rfl)⟩ rfl ae ae (fun d46 Fu Wp aji hr46=>?_));refine aP aa (VI.fresh aa (dZ (ys:=Fu) 52 aa aa aa aa aa (.sD Wp (cP hr46 aa)) au ae ?_));refine rq 2 aa (aP aa (aW (rows:=Fu) (ys:=[[(dJ U)]]) aa aa aa (.bs (rows:=[[(dJ U)]]) aa) au ae bW bW ?_));refine rq 2 aa ?_;obtain⟨sB,Wq,kj47⟩:=bF (z:=I) (n:=A.length+1) ae ae;refine aT (eO (l:=sB) (h:=A.length) rfl G L rfl M rfl ⟨_,(by rw[←Wq];rfl)⟩ ae ae (fun d48 w48 Ws hl48 hr48=>?_));refine aP aa (aW (rows:=(Fu++[[(dJ U)]])) (ys:=w48) aa aa aa (.sD Ws (cP hr48 aa)) au ae (fun h=>absurd h bh) (fun h=>absurd h bh) ?_);exact rq 2 aa (cl 5 52 aa aa (fun _=>⟨aa,aa⟩) (W))
   refine ro 2 aa ?_;obtain⟨_,⟨zx49_0,rfl,hzx49_0,kzx49_0⟩,Wt⟩:=qI I L;refine bw aa aa (aF aa aa G ae Wt aa ?_);refine ro 2 aa (rp 3 aa ?_);refine ax aa ?_ ?_<;>intro XK
   ·refine rc 3 aa ?_;obtain⟨wO,Jj,ajj⟩:=bF (z:=I) (n:=A.length+1) ae ae;refine aT (eO (l:=0) (h:=wO) rfl G L rfl M ⟨_,(by rw[←Jj];rfl)⟩ rfl ae ae (fun d52 Kl Jk hl52 Wu=>?_));refine aP aa (VI.fresh aa (dZ (ys:=Kl) 52 aa aa aa aa aa (.sD Jk (cP Wu aa)) au ae ?_));refine rq 2 aa (aP aa (aW (rows:=Kl) (ys:=[[(dJ U)]]) aa aa aa (.bs (rows:=[[(dJ U)]]) aa) au ae bW bW ?_));refine rq 2 aa ?_;obtain⟨CI,Wv,kj53⟩:=bF (z:=I) (n:=A.length+1) ae ae;refine aT (eO (l:=CI) (h:=A.length) rfl G L rfl M rfl ⟨_,(by rw[←Wv];rfl)⟩ ae ae (fun d54 w54 Ww hl54 hr54=>?_));refine aP aa (aW (rows:=(Kl++[[(dJ U)]])) (ys:=w54) aa aa aa (.sD Ww (cP hr54 aa)) au ae (fun h=>absurd h bh) (fun h=>absurd h bh) ?_);exact rq 2 aa (cl 5 52 aa aa (fun _=>⟨aa,aa⟩) (W))
   exact W
  exact W
 exact W
theorem sortC_{T:aO}(F:FT T)(N:Nat):∀{a0:DC}{O:aj}(Z:ao O a0)(cI:O.length≤1000000000)(bJ:af qc O)(hN:O.length≤N),Sound T 334 [.d a0] fun r=>∃(y0:DC)(br:aj),r= .d y0∧ao br y0∧(br.length:Int)≤O.length∧af qc br∧0≤(br.length:Int)∧(br=[]→y0= .nil):=by
 induction N using Nat.strongRecOn with
 |_ N ih=>
 intro a0 O Z cI bJ hN;refine bg F.aiW aa (cf 8 aa (aM aa Z ?_));refine ro 2 aa ?_;refine ax aa ?_ ?_<;>intro g1
 ·refine aB 3 aa (dZ (ys:=O) 12 aa aa aa aa aa (.sD Z (cP bJ aa)) au ae ?_);exact ro 2 aa (cl 2 12 aa aa (fun _=>⟨aa,aa⟩) (W))
 refine rc 5 aa (aT (aM aa Z ?_));refine aT (xl aa aa aa aa ae ae ae au ?_);obtain⟨j2,sw,pI⟩:=bF (z:=((O.length:Int)/2)) (n:=O.length+1) ae ae;refine aT (eO (l:=0) (h:=j2) rfl Z bJ rfl (ta ae) ⟨_,(by rw[←sw];rfl)⟩ rfl ae ae (fun d3 w3 XQ J9 XR=>?_));refine aP aa (aA aa (ih (w3).length ae XQ ae XR (bt _)) ?_);rintro _ _⟨gh,lE,rfl,A,va,U,AV,AW⟩;refine c7 2 aa (aM aa Z ?_);refine aT (xl aa aa aa aa ae ae ae au ?_);obtain⟨j5,CG,CH⟩:=bF (z:=((O.length:Int)/2)) (n:=O.length+1) ae ae;refine aT (eO (l:=j5) (h:=O.length) rfl Z bJ rfl (ta ae) rfl ⟨_,(by rw[←CG];rfl)⟩ ae ae (fun d6 w6 XS XT XU=>?_));refine aP aa (aA aa (ih (w6).length ae XS ae XU (bt _)) ?_);rintro _ _⟨nf,yj,rfl,G,L9,Y,Sp,ael⟩;refine rq 14 aa (de 5 90 82 48 2 aa aa (bd [10,4,3,2,0] [] aa aa (fun e0 b0 k VE B=>∃L M I,an ((5,.ac 90 I.length 2)::(6,.d (dJ L))::(7,.d (dJ M))::e0) VE∧an ((90,.acc 82 48 2 I)::b0) B∧k=((lE.length:Int)+yj.length-L-M).toNat∧(0≤L∧L≤(lE.length:Int))∧(0≤M∧M≤(yj.length:Int))∧((I.length:Int)≤L+M)∧(af qc I)) ?_ fin));rintro _ VE B⟨L,M,I,hV,hB,rfl,bR,cM,rQ,p9⟩;refine aS _ _ hV hB (aB 5 aa (aM aa A ?_));refine ro 2 aa ?_;refine bk aa ?_ ?_<;>intro g8
 ·refine ro 6 aa (eM aa aa (rc 6 aa (aT (aM aa G ?_))));refine rq 2 aa ?_;refine dK aa ?_ ?_<;>intro g9
  ·refine rq 5 aa (bL aa (bL aa (bL aa (dA aa (bL aa (bL aa (bL aa (dA aa (dA aa ?_)))))))));refine bL aa (rq 3 aa (eM aa aa (rc 5 aa ?_)));obtain⟨nY,⟨aem,abR,abS,abT⟩,rI,⟨wx10_1,hdx10_1,hnx10_1,hrx10_1⟩,hJ⟩:=qI L U;refine aw (aF aa aa A ae hJ aa ?_);refine ro 2 aa ?_;refine aw (aW (rows:=I) (ys:=[[nY,rI]]) rfl rfl rfl (.bs (rows:=[[nY,rI]]) rfl) au ae (fun h=>by rw[h];rfl) (fun h=>by rw[h];rfl) ?_);exact W
  refine rq 2 aa (cb aa aa (aM aa A ?_));refine rq 2 aa ?_;refine dK aa ?_ ?_<;>intro l7
  ·refine rq 2 aa ?_;obtain⟨qh,nO,tm,⟨aen,abU,abV,abW⟩,iY⟩:=qI M Y;refine cb aa aa (aF aa aa G ae iY aa ?_);refine rq 3 aa ?_;obtain⟨ql,nP,Bs,⟨aeo,Ln,abX,Lo⟩,lQ⟩:=qI L U;refine cb aa aa (aF aa aa A ae lQ aa ?_);refine rq 1 aa (eD aa aa aa (aA aa (agG F nO (aL abU ae abW) nP (aL Ln ae Lo)) ?_));rintro _ _⟨_,rfl,by14_0,rfl⟩;refine rq 4 aa ?_;refine cO aa ?_ ?_<;>intro Km
   ·refine aB 5 aa (aF aa aa A ae lQ aa ?_);obtain⟨wx13_0,hdx13_0,hnx13_0,hrx13_0⟩:=Ty.aL nP;refine ro 2 aa ?_;refine aw (aW (rows:=I) (ys:=[[ql,Bs]]) rfl rfl rfl (.bs (rows:=[[ql,Bs]]) rfl) au ae (fun h=>by rw[h];rfl) (fun h=>by rw[h];rfl) ?_);exact W
   refine aB 5 aa (aF aa aa G ae iY aa ?_);obtain⟨aep,Rd,abY,abZ⟩:=Ty.aL nO;refine ro 2 aa ?_;refine aw (aW (rows:=I) (ys:=[[qh,tm]]) rfl rfl rfl (.bs (rows:=[[qh,tm]]) rfl) au ae (fun h=>by rw[h];rfl) (fun h=>by rw[h];rfl) ?_);exact W
  refine rq 13 aa (dc aa aa (rc 5 aa ?_));obtain⟨D4,⟨wx16_0,hdx16_0,hnx16_0,hrx16_0⟩,Bt,⟨wx16_1,hdx16_1,hnx16_1,hrx16_1⟩,B4⟩:=qI M Y;refine aw (aF aa aa G ae B4 aa ?_);refine ro 2 aa ?_;refine aw (aW (rows:=I) (ys:=[[D4,Bt]]) rfl rfl rfl (.bs (rows:=[[D4,Bt]]) rfl) au ae (fun h=>by rw[h];rfl) (fun h=>by rw[h];rfl) ?_);exact W
 refine ro 2 aa (bw aa aa (aM aa G ?_));refine ro 3 aa ?_;refine ax aa ?_ ?_<;>intro su
 ·refine rc 6 aa (aT (aM aa G ?_));refine rq 2 aa ?_;refine dK aa ?_ ?_<;>intro sv
  ·refine rq 5 aa (bL aa (bL aa (bL aa (dA aa (bL aa (bL aa (bL aa (dA aa (dA aa ?_)))))))));refine bL aa (rq 3 aa (eM aa aa (rc 5 aa ?_)));obtain⟨yn,⟨wx19_0,hdx19_0,hnx19_0,hrx19_0⟩,D5,⟨wx19_1,hdx19_1,hnx19_1,hrx19_1⟩,nh⟩:=qI L U;refine aw (aF aa aa A ae nh aa ?_);refine ro 2 aa ?_;refine aw (aW (rows:=I) (ys:=[[yn,D5]]) rfl rfl rfl (.bs (rows:=[[yn,D5]]) rfl) au ae (fun h=>by rw[h];rfl) (fun h=>by rw[h];rfl) ?_);exact W
  refine rq 2 aa (cb aa aa (aM aa A ?_));refine rq 2 aa ?_;refine dK aa ?_ ?_<;>intro XV
  ·refine rq 2 aa ?_;obtain⟨vC,vc,tn,⟨wx21_1,ab0,hnx21_1,ab1⟩,lR⟩:=qI M Y;refine cb aa aa (aF aa aa G ae lR aa ?_);refine rq 3 aa ?_;obtain⟨mq,p',mr,⟨Mh,Gs,Lp,Gt⟩,wa⟩:=qI L U;refine cb aa aa (aF aa aa A ae wa aa ?_);refine rq 1 aa (eD aa aa aa (aA aa (agG F vc (aL ab0 ae ab1) p' (aL Gs ae Gt)) ?_));rintro _ _⟨_,rfl,by23_0,rfl⟩;refine rq 4 aa ?_;refine cO aa ?_ ?_<;>intro sr
   ·refine aB 5 aa (aF aa aa A ae wa aa ?_);obtain⟨Mi,Lq,Re,Lr⟩:=Ty.aL p';refine ro 2 aa ?_;refine aw (aW (rows:=I) (ys:=[[mq,mr]]) rfl rfl rfl (.bs (rows:=[[mq,mr]]) rfl) au ae (fun h=>by rw[h];rfl) (fun h=>by rw[h];rfl) ?_);exact W
   refine aB 5 aa (aF aa aa G ae lR aa ?_);obtain⟨wx21_0,hdx21_0,hnx21_0,hrx21_0⟩:=Ty.aL vc;refine ro 2 aa ?_;refine aw (aW (rows:=I) (ys:=[[vC,tn]]) rfl rfl rfl (.bs (rows:=[[vC,tn]]) rfl) au ae (fun h=>by rw[h];rfl) (fun h=>by rw[h];rfl) ?_);exact W
  refine rq 13 aa (dc aa aa (rc 5 aa ?_));obtain⟨D7,⟨wx25_0,hdx25_0,hnx25_0,hrx25_0⟩,D8,⟨wx25_1,hdx25_1,hnx25_1,hrx25_1⟩,wb⟩:=qI M Y;refine aw (aF aa aa G ae wb aa ?_);refine ro 2 aa ?_;refine aw (aW (rows:=I) (ys:=[[D7,D8]]) rfl rfl rfl (.bs (rows:=[[D7,D8]]) rfl) au ae (fun h=>by rw[h];rfl) (fun h=>by rw[h];rfl) ?_);exact W
 exact rc 6 aa (cl 2 90 aa aa (fun _=>⟨aa,aa⟩) (W))
theorem sortC{T:aO}(F:FT T){O:DC}{A:aj}(G:ao A O)(I:A.length≤1000000000)(L:af qc A):Sound T 334 [.d O] fun r=>∃M z,r= .d M∧ao z M∧(z.length:Int)≤A.length∧af qc z∧0≤(z.length:Int)∧(z=[]→M= .nil):=sortC_ F _ G I L (bt _)
end Go.Ev.Rp
