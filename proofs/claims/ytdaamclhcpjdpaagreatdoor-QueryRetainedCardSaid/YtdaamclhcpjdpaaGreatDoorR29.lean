/- Part 29 of rules for walks through the code of a program, and of such walks; what each part proves is said by its theorems. -/
import Derived.Test.YtdaamclhcpjdpaaGreatDoorR21
import Derived.Test.YtdaamclhcpjdpaaGreatDoorR22
import Derived.Test.YtdaamclhcpjdpaaGreatDoorR23
import Derived.Test.YtdaamclhcpjdpaaGreatDoorR25
import Derived.Test.YtdaamclhcpjdpaaGreatDoorR28
set_option linter.unusedVariables false
set_option linter.unusedSimpArgs false
noncomputable section
set_option maxRecDepth 100000
set_option maxHeartbeats 4000000
namespace Go.Ev.Rp
open Go Go.Ev.Pp
attribute [local irreducible] VC VO VQ VI Sound cm
theorem aat{T:aN}(F:FT T){a0 a1 a2 a3 a4 a5 a6 a7:DC}(z:(Ty.i .u16 0 65535).ok a0)(A:(Ty.i .u16 0 65535).ok a1)(G:(Ty.i .u16 0 65535).ok a2)(I:(Ty.i .u16 0 65535).ok a3)(L:(Ty.i .u16 0 65535).ok a4)(M:(Ty.i .u16 0 65535).ok a5)(O:(Ty.i .u16 0 65535).ok a6)(U:(Ty.i .u16 0 65535).ok a7)(Y:zc T):Sound T 73 [.agg [.d a0,.d a1,.d a2,.d a3,.d a4,.d a5,.d a6,.d a7]] fun r=>∃y0 y1 y2 y3,r= .agg [.d y0,.d y1,.d y2,.d y3]∧tJ.ok y0∧tJ.ok y1∧tJ.ok y2∧(Ty.q (I0 T)).ok y3:=by
 refine bj F.q73 aa ?_;rcases z,A,G,I,L,M,O,U with⟨⟨aE,rfl,iU,iV⟩,⟨aJ,rfl,eC,eg⟩,⟨bf,rfl,lJ,lK⟩,⟨aW,rfl,mA,mB⟩,⟨bR,rfl,oq,ot⟩,⟨cQ,rfl,ov,ow⟩,⟨bx,rfl,oj,om⟩,⟨db,rfl,sn,sq⟩⟩
 refine r0 7 aa (aR (bG (j:=0) aa aa (aS aa) ?_));refine cZ 1 aa (c6 aa aa aa ae ae ?_);refine aR (fr aa ao ae ae ?_);refine aR (bC aa aa ae ae ?_);refine aR (bG (j:=1) aa aa (aS aa) ?_);refine cZ 1 aa (c6 aa aa aa ae ae ?_);refine aR (fr aa ao ae ae ?_);refine aR (bG (j:=2) aa aa (aS aa) ?_);refine cZ 1 aa (c6 aa aa aa ae ae ?_);refine aR (fr aa ao ae ae ?_);refine aR (bG (j:=4) aa aa (aS aa) ?_);refine cZ 1 aa (bG (j:=5) aa aa (aS aa) ?_);refine cZ 1 aa (bG (j:=6) aa aa (aS aa) ?_);refine cZ 1 aa (bG (j:=7) aa aa (aS aa) ?_);refine rq 2 aa (aP aa (ay aa (TextX F ai ai ai ai Y) ?_));rintro _ _⟨ez,rfl,Z⟩;refine rq 7 aa (ax (bG (j:=3) aa aa (aS aa) ?_));refine aK 1 aa (c6 aa aa aa ae ae ?_);refine ro 2 aa ?_;refine cH aa ?_ ?_<;>intro h2
 ·exact W
 exact W
theorem CommandX{T:aN}(F:FT T){aE:Int}(jw:0≤aE)(iX:aE≤65535){aJ:Int}(kJ:0≤aJ)(kK:aJ≤65535){bf:Int}(nz:0≤bf)(kL:bf≤65535){aW:Int}(gi:0≤aW)(gj:aW≤65535){bR:Int}(pO:0≤bR)(pP:bR≤65535){cQ:Int}(uv:0≤cQ)(uw:cQ≤65535){bx:Int}(mH:0≤bx)(mI:bx≤65535){db:Int}(Ca:0≤db)(Cb:db≤65535){hJ:Int}(la8:0≤hJ)(ua8:hJ≤65535)(ux:zc T):Sound T 35 [.agg [dU aE,dU aJ,dU bf,dU aW,dU bR,dU cQ,dU bx,dU db,dU hJ]] fun r=>∃y0 y1 y2 y3 y4 y5 y6 y7 y8 y9,r= .agg [.d y0,.d y1,.d y2,.d y3,.d y4,.d y5,.d y6,.d y7,.d y8,.d y9]∧(Ty.i .i64 1 5).ok y0∧tJ.ok y1∧(Ty.l 2 [tJ,.s 1000,.l 1000000000 cC,tJ,tJ,.l 100 ew,tJ,.l 10 ep,.s 1000,.l 100 en,.l 200 br,.l 4 eD,.l 4 ee,tJ,.s 1000,tJ]).ok y2∧tJ.ok y3∧tJ.ok y4∧tJ.ok y5∧(Ty.q (I0 T)).ok y6∧(Ty.i .i64 0 4).ok y7∧tJ.ok y8∧tJ.ok y9:=by
 refine bj F.q35 aa (r0 7 aa ?_);have hT0:=ux.1;refine ax (bG (j:=1) aa aa (aS aa) ?_);refine aK 1 aa (bG (j:=2) aa aa (aS aa) ?_);refine aK 1 aa (bG (j:=3) aa aa (aS aa) ?_);refine aK 1 aa (bG (j:=4) aa aa (aS aa) ?_);refine aK 1 aa (bG (j:=5) aa aa (aS aa) ?_);refine aK 1 aa (bG (j:=6) aa aa (aS aa) ?_);refine aK 1 aa (bG (j:=7) aa aa (aS aa) ?_);refine aK 1 aa (bG (j:=8) aa aa (aS aa) ?_);refine ro 5 aa (cB [3,2,1,0] [3,2,1] aa aa (aB 3 aa (bG (j:=0) aa aa (aS aa) ?_)));refine aK 1 aa (c6 aa aa aa ae ae ?_);refine ro 8 aa ?_;refine au aa ?_ ?_<;>intro g1
 ·refine rc 1 aa (eG aa aa (cB [27,26,3,2,1,0] [3,2,1] aa aa (aB 2 aa (bG (j:=2) aa aa (aS aa) ?_))));refine aK 1 aa (bG (j:=3) aa aa (aS aa) ?_);refine aK 1 aa (bG (j:=4) aa aa (aS aa) ?_);refine aK 1 aa (bG (j:=5) aa aa (aS aa) ?_);refine aK 1 aa (bG (j:=6) aa aa (aS aa) ?_);refine aK 1 aa (bG (j:=7) aa aa (aS aa) ?_);refine aK 1 aa (bG (j:=8) aa aa (aS aa) ?_);refine aK 2 aa (ay aa (aat F ai ai ai ai ai ai ai ai ux) ?_);rintro _ _⟨mz,Vq,Oe,sr,rfl,Dv,af9,aga,Dw⟩;exact ro 3 aa (cB [27,26,4,3,2,1,0] [4,3,2,1] aa aa (W))
 refine rc 4 aa ?_;refine au aa ?_ ?_<;>intro g3
 ·refine cB [27,26,3,2,1,0] [3,2,1] aa aa (aB 2 aa (bG (j:=2) aa aa (aS aa) ?_));refine aK 1 aa (bG (j:=3) aa aa (aS aa) ?_);refine aK 1 aa (bG (j:=4) aa aa (aS aa) ?_);refine aK 1 aa (bG (j:=5) aa aa (aS aa) ?_);refine aK 1 aa (bG (j:=6) aa aa (aS aa) ?_);refine aK 1 aa (bG (j:=7) aa aa (aS aa) ?_);refine aK 1 aa (bG (j:=8) aa aa (aS aa) ?_);refine aK 2 aa (ay aa (aat F ai ai ai ai ai ai ai ai ux) ?_);rintro _ _⟨fJ,sm,ue,Vw,rfl,o5,vo,TX,hy4_3⟩;exact ro 3 aa (cB [27,26,4,3,2,1,0] [4,3,2,1] aa aa (W))
 refine rc 5 aa ?_;refine au aa ?_ ?_<;>intro g5
 ·refine cB [48,27,26,3,2,1,0] [3,2,1] aa aa (aB 2 aa (bG (j:=2) aa aa (aS aa) ?_));refine aK 1 aa (c6 aa aa aa ae ae ?_);refine ax (fr aa ao ae ae ?_);refine ax (bG (j:=2) aa aa (aS aa) ?_);refine aK 1 aa (c6 aa aa aa ae ae ?_);refine ax (fr aa ao ae ae ?_);refine ax (bC aa aa ae ae ?_);refine ax (bG (j:=3) aa aa (aS aa) ?_);refine aK 1 aa (c6 aa aa aa ae ae ?_);refine ax (fr aa ao ae ae ?_);refine ax (bC aa aa ae ae ?_);refine ro 4 aa (cB [48,27,26,5,3,2,1,0] [5,3,2,1] aa aa (aB 3 aa (bG (j:=3) aa aa (aS aa) ?_)));refine aK 1 aa (c6 aa aa aa ae ae ?_);refine ro 2 aa ?_;refine au aa ?_ ?_<;>intro g6
  ·refine rc 4 aa (cB [68,48,27,26,5,3,2,1,0] [5,3,2,1] aa aa (aB 2 aa (bG (j:=1) aa aa (aS aa) ?_)));refine aK 1 aa (c6 aa aa aa ae ae ?_);refine ax (fr aa ao ae ae ?_);refine ax (bC aa aa ae ae ?_);exact et 6 aa (bI aa aa fin)
  refine rc 1 aa (cB [68,48,27,26,5,3,2,1,0] [5,3,2,1] aa aa (aB 2 aa (bG (j:=1) aa aa (aS aa) ?_)));refine aK 1 aa (c6 aa aa aa ae ae ?_);refine ax (fr aa ao ae ae ?_);refine ax (bC aa aa ae ae ?_);exact et 6 aa (bI aa aa fin)
 refine cB [48,27,26,3,2,1,0] [3,2,1] aa aa (rc 5 aa ?_);refine au aa ?_ ?_<;>intro g7
 ·refine aB 2 aa (bG (j:=1) aa aa (aS aa) ?_);refine aK 1 aa (c6 aa aa aa ae ae ?_);refine ax (fr aa ao ae ae ?_);refine ax (bC aa aa ae ae ?_);exact et 4 aa (bI aa aa fin)
 refine cB [78,48,27,26,3,2,1,0] [3,2,1] aa aa (rc 5 aa ?_);refine au aa ?_ ?_<;>intro g8
 ·refine aB 2 aa (bG (j:=1) aa aa (aS aa) ?_);refine aK 1 aa (c6 aa aa aa ae ae ?_);refine ax (fr aa ao ae ae ?_);exact et 4 aa (bI aa aa fin)
 refine rc 1 aa (cB [86,78,48,27,26,3,2,1,0] [3,2,1] aa aa (aB 3 aa (ay aa (af6 (aE:=aJ) (aJ:=bf) (bf:=aW) (aW:=bR) (bR:=cQ) (cQ:=bx) (bx:=db) (db:=hJ) F ae ae ae ae ae ae ae ae ae ae ae ae ae ae ae ae) ?_)));rintro _ _⟨_,_,Vx,_,_,aiY,_,aiZ,_,ai0,agb,agc,agd,_,_,_,rfl,⟨H3,rfl,R7,R8⟩,⟨age,rfl,hsy9_1⟩,⟨wy9_2,Si,hny9_2,Sj⟩,⟨agf,rfl,hzy9_3,kzy9_3⟩,⟨agh,rfl,hzy9_4,kzy9_4⟩,⟨wy9_5,hdy9_5,hny9_5,hry9_5⟩,⟨agi,rfl,hzy9_6,kzy9_6⟩,⟨wy9_7,hdy9_7,hny9_7,hry9_7⟩,⟨agj,rfl,hsy9_8⟩,⟨wy9_9,hdy9_9,hny9_9,hry9_9⟩,⟨wy9_10,hdy9_10,hny9_10,hry9_10⟩,⟨wy9_11,hdy9_11,hny9_11,hry9_11⟩,⟨wy9_12,hdy9_12,hny9_12,hry9_12⟩,⟨I,rfl,hzy9_13,kzy9_13⟩,⟨L,rfl,hsy9_14⟩,M,rfl,hzy9_15,kzy9_15⟩;refine ro 5 aa (cB [86,78,48,27,26,6,3,2,1,0] [95,6,3,2,1] aa aa (aB 3 aa (bG (j:=0) aa aa (aS aa) ?_)));refine aK 1 aa (c6 aa aa aa ae ae ?_);refine ro 2 aa ?_;refine au aa ?_ ?_<;>intro sM
 ·refine rc 3 aa (aR (bG (j:=8) aa aa (aS aa) ?_));refine cZ 1 aa (bG (j:=2) aa aa (aS aa) ?_);refine cZ 1 aa (bG (j:=4) aa aa (aS aa) ?_);refine cZ 1 aa (bG (j:=3) aa aa (aS aa) ?_);refine cZ 1 aa (bG (j:=6) aa aa (aS aa) ?_);refine cZ 1 aa (bG (j:=5) aa aa (aS aa) ?_);refine cZ 1 aa (bG (j:=1) aa aa (aS aa) ?_);refine cZ 1 aa (bG (j:=7) aa aa (aS aa) ?_);refine rq 2 aa (aP aa (ay aa (af6 (aE:=hJ) (aJ:=bf) (bf:=bR) (aW:=aW) (bR:=bx) (cQ:=cQ) (bx:=aJ) (db:=db) F ae ae ae ae ae ae ae ae ae ae ae ae ae ae ae ae) ?_));rintro _ _⟨_,_,TY,_,_,agk,_,agl,_,agm,O,U,Y,_,_,_,rfl,⟨Z,rfl,hzy11_0,kzy11_0⟩,⟨adO,rfl,hsy11_1⟩,⟨wy11_2,hdy11_2,hny11_2,hry11_2⟩,⟨adP,rfl,hzy11_3,kzy11_3⟩,⟨adQ,rfl,hzy11_4,kzy11_4⟩,⟨wy11_5,hdy11_5,hny11_5,hry11_5⟩,⟨Sk,rfl,hzy11_6,kzy11_6⟩,⟨wy11_7,hdy11_7,hny11_7,hry11_7⟩,⟨adR,rfl,hsy11_8⟩,⟨wy11_9,hdy11_9,hny11_9,hry11_9⟩,⟨wy11_10,hdy11_10,hny11_10,hry11_10⟩,⟨wy11_11,hdy11_11,hny11_11,hry11_11⟩,⟨wy11_12,hdy11_12,hny11_12,hry11_12⟩,⟨z,rfl,hzy11_13,kzy11_13⟩,⟨A,rfl,hsy11_14⟩,G,rfl,hzy11_15,kzy11_15⟩;refine rq 1 aa (aP aa (QM (rows:=[[(dJ H3),(aq age),Vx,(dJ agf),(dJ agh),aiY,(dJ agi),aiZ,(aq agj),ai0,agb,agc,agd,(dJ I),(aq L),(dJ M)]]) (ys:=[[(dJ Z),(aq adO),TY,(dJ adP),(dJ adQ),agk,(dJ Sk),agl,(aq adR),agm,O,U,Y,(dJ z),(aq A),(dJ G)]]) aa aa aa (.bs (rows:=[[(dJ Z),(aq adO),TY,(dJ adP),(dJ adQ),agk,(dJ Sk),agl,(aq adR),agm,O,U,Y,(dJ z),(aq A),(dJ G)]]) aa) ao ae ?_));exact rq 3 aa (cB [100,86,78,48,27,26,6,3,2,1,0] [121,95,6,3,2,1] aa aa (rc 3 aa (eT 124 95 aa aa dz (W))))
 refine rc 4 aa ?_;have I3:af [tJ,.s 1000,.l 1000000000 cC,tJ,tJ,.l 100 ew,tJ,.l 10 ep,.s 1000,.l 100 en,.l 200 br,.l 4 eD,.l 4 ee,tJ,.s 1000,tJ] [[(dJ H3),(aq age),Vx,(dJ agf),(dJ agh),aiY,(dJ agi),aiZ,(aq agj),ai0,agb,agc,agd,(dJ I),(aq L),(dJ M)]]:=(cA (aj ai (aj (bE ah) (aj (aM Si ae Sj) (aj ai (aj ai (aj (aM hdy9_5 ae hry9_5) (aj ai (aj (aM hdy9_7 ae hry9_7) (aj (bE ah) (aj (aM hdy9_9 ae hry9_9) (aj (aM hdy9_10 ae hry9_10) (aj (aM hdy9_11 ae hry9_11) (aj (aM hdy9_12 ae hry9_12) (aj ai (aj (bE ah) (aj ai bg)))))))))))))))) bT);exact eT 124 95 aa aa dz (W)
end Go.Ev.Rp
namespace Go.Ev.Rp
open Go Go.Ev.Pp
attribute [local irreducible] VC VO VQ VI Sound cm
theorem xT{T:aN}(F:FT T){I L M:DC}(z:tJ.ok I)(A:tJ.ok L)(G:(Ty.s 1000).ok M):Sound T 423 [.agg [.d I,.d L,.d M]] fun r=>∃O,r= .d O∧(Ty.b).ok O:=by
 refine bj F.q423 aa ?_;rcases z,A,G with⟨⟨aE,rfl,U,Y⟩,⟨aJ,rfl,Z,eg⟩,⟨sa2,rfl,aiQ⟩⟩
 exact W
theorem qs{T:aN}(F:FT T){A:DC}(z:(Ty.b).ok A):Sound T 577 [.d A] fun r=>∃G I L,r= .agg [.d G,.d I,.d L]∧tJ.ok G∧tJ.ok I∧(Ty.s 1000).ok L:=by
 refine bj F.q577 aa ?_;obtain⟨M,rfl⟩:=z;exact W
theorem rP{T:aN}(F:FT T){G I:DC}(z:tJ.ok G)(A:tJ.ok I):Sound T 525 [.d G,.d I] fun r=>∃L,r= .d L∧(Ty.b).ok L:=by
 refine bj F.q525 aa ?_;rcases z,A with⟨⟨aE,rfl,M,O⟩,⟨aJ,rfl,U,Y⟩⟩
 exact W
theorem adS{T:aN}(F:FT T){I L M:DC}(z:tJ.ok I)(A:tJ.ok L)(G:(Ty.s 1000).ok M):Sound T 227 [.agg [.d I,.d L,.d M]] fun r=>∃O,r= .d O∧(Ty.b).ok O:=by
 refine bj F.q227 aa ?_;rcases z,A,G with⟨⟨aE,rfl,U,Y⟩,⟨aJ,rfl,Z,eg⟩,⟨sa2,rfl,aiQ⟩⟩
 exact W
theorem MV{T:aN}(F:FT T){aE:Int}(A:aE≤aE)(G:aE≤aE):Sound T 435 [.d (dJ aE)] fun r=>∃z,r= .d (dJ z)∧((-1)≤z∧z≤2∧(((aE=1∨aE=2)→z=0)∧((aE=10∨aE=11)→z=1)∧((3≤aE∧aE≤9)→z=2)∧(¬(1≤aE∧aE≤11)→z= -1))):=by
 exact bj F.q435 aa (W)
theorem adT{T:aN}(F:FT T){U:DC}{z:ak}(G:aA z U)(Y:z.length≤200)(Z:af ew z){aJ:Int}(kJ:0≤aJ)(kK:aJ≤(z.length:Int) -1){A L M zC:Int}{x4 x5 x6:DC}(I:z[aJ.toNat]?=some [.i .i64 A,.i .i64 L,.i .i64 M,.i .i64 zC,x4,x5,x6]):Sound T 524 [.d U,.d (dJ aJ)] fun r=>∃y0,r=dB y0∧(y0=true→((A=10∨A=11∨(3≤A∧A≤9))→0≤L∧L<aJ)∧((3≤A∧A≤9)→0≤M∧M<aJ)):=by
 refine bj F.q524 aa (bY 8 aa (aI aa aa G ae I aa ?_));refine aK 2 aa (ay aa (MV (aE:=A) F ae ae) ?_);rintro _ _⟨ez,rfl,O⟩;exact W
theorem arithC{T:aN}(F:FT T){U Y Z a3 a4 a5 a6:DC}(z:tJ.ok U)(A:tJ.ok Y)(G:tJ.ok Z)(I:(Ty.s 1000).ok a3)(L:tJ.ok a4)(M:tJ.ok a5)(O:(Ty.s 1000).ok a6):Sound T 578 [.d U,.agg [.d Y,.d Z,.d a3],.agg [.d a4,.d a5,.d a6]] fun r=>∃y0 y1 y2,r= .agg [.d y0,.d y1,.d y2]∧tJ.ok y0∧tJ.ok y1∧(Ty.s 1000).ok y2:=by
 refine bj F.q578 aa ?_;rcases z,A,G,I,L,M,O with⟨⟨aE,rfl,iU,iV⟩,⟨aJ,rfl,eC,eg⟩,⟨bf,rfl,lJ,lK⟩,⟨sa3,rfl,aiP⟩,⟨bR,rfl,oq,ot⟩,⟨cQ,rfl,ov,ow⟩,⟨E7,rfl,Oj⟩⟩
 refine r0 13 aa ?_;refine bm aa ?_ ?_<;>intro h1
 ·exact W
 refine ro 5 aa ?_;refine au aa ?_ ?_<;>intro h2
 ·exact W
 refine aB 14 aa (ta aa aa (fun z3 hz3=>?_));refine aK 9 aa (aah aa aa (fun b4=>?_));refine ro 13 aa ?_;refine au aa ?_ ?_<;>intro g5
 ·refine aB 4 aa (abc aa aa (fun z6 hz6=>?_));refine aK 8 aa (aah aa aa (fun b7=>?_));refine ro 8 aa ?_;refine cH aa ?_ ?_<;>intro h8
  ·exact W
  exact W
 refine rc 5 aa ?_;refine au aa ?_ ?_<;>intro g9
 ·refine aB 4 aa (vi_mulW aa aa (fun z10 hz10=>?_));refine ro 6 aa ?_;refine bm aa ?_ ?_<;>intro sJ
  ·exact W
  refine ro 4 aa ?_;refine bm aa ?_ ?_<;>intro nC
  ·exact W
  refine ro 4 aa ?_;refine bm aa ?_ ?_<;>intro Kd
  ·exact W
  refine ro 4 aa ?_;refine bm aa ?_ ?_<;>intro h14
  ·exact W
  refine ro 2 aa (bJ aa aa (vi_quoW aa aa ae (fun z15 aiT=>?_)));refine ro 3 aa ?_;refine bm aa ?_ ?_<;>intro Xl
  ·exact W
  exact W
 exact W
theorem agn{T:aN}(F:FT T){a0 a1 a2 a3:DC}(cU:(Ty.l 1000000000 cC).ok a0)(bW:(Ty.l 200 br).ok a1)(cG:(Ty.l 1000000000 cC).ok a2)(cn:(Ty.l 200 br).ok a3):Sound T 429 [.agg [.d a0,.d a1],.agg [.d a2,.d a3]] fun r=>∃y0,r= .d y0∧(Ty.b).ok y0:=by
 refine bj F.aiG aa ?_;rcases cU,bW,cG,cn with⟨⟨bP,z,cK,A⟩,⟨bL,G,df,I⟩,⟨bt,L,dc,M⟩,⟨de,O,fI,U⟩⟩
 refine bY 12 aa (ay aa (xQ F (aM z ae A) (aM L ae M)) ?_);rintro _ _⟨_,rfl,ago,rfl,Y,Z⟩;refine ro 4 aa (rp 3 aa ?_);refine bm aa ?_ ?_<;>intro h2
 ·exact W
 refine ro 3 aa ?_;refine bm aa ?_ ?_<;>intro g3
 ·refine ro 4 aa (bJ aa aa (ay aa (afR F G ae I O ae U) ?_));rintro _ _⟨fJ,rfl,o5⟩;exact W
 exact W
end Go.Ev.Rp
namespace Go.Ev.Rp
open Go Go.Ev.Pp
attribute [local irreducible] VC VO VQ VI Sound cm
theorem xp{T:aN}(F:FT T){a0 a1:DC}{bP:ak}(cr:aA bP a0)(cK:bP.length≤4000000000)(bM:af br bP){bL:ak}(cN:aA bL a1)(df:bL.length≤4000000000)(cb:af br bL):Sound T 234 [.d a0,.d a1] fun r=>∃y0 bu,r= .d y0∧aA bu y0∧(bu.length:Int)≤bP.length+bL.length∧af br bu∧0≤(bu.length:Int)∧(bu=[]→y0= .nil):=by
 refine bj F.aiz aa (r0 17 aa (bd [13,4,1,0] [] aa aa (fun e0 b0 k VE B=>∃vS mX Y,an ((5,.d vS)::(14,.d (dJ Y))::e0) VE∧an b0 B∧k=((2:Int) -Y).toNat∧(aA mX vS)∧((mX.length:Int)≤8000000000)∧(af br mX)∧(mX=[]→vS= .nil)∧(0≤Y∧(Y≤2∨Y=0))∧((Y=0→(mX.length:Int)≤0)∧(Y=1→mX.length≤bP.length)∧(Y=2→mX.length≤bP.length+bL.length))) ?_ fin));rintro _ VE B⟨vS,mX,Y,hV,hB,rfl,hdv5_0,cM,RW,RX,qM,uc⟩;refine aU _ _ hV hB (rc 5 aa ?_);refine au aa ?_ ?_<;>intro g1
 ·refine rc 5 aa ?_;rcases(by omega:Y=0∨Y=1) with oD|oD
  ·refine ax (KD (j:=0) rfl (by rw[oD];rfl) ao rfl ?_);refine aK 5 aa (aO aa cr ?_);refine ro 3 aa (bd [18,17,15,14,13,7,4,1,0] [] aa aa (fun e0 b0 k VE B=>∃iK A O,an ((5,.d iK)::(19,.d (dJ O))::e0) VE∧an b0 B∧k=((bP.length:Int) -O).toNat∧(aA A iK)∧((A.length:Int)≤8000000000)∧(af br A)∧(A=[]→iK= .nil)∧(0≤O∧(O≤(bP.length:Int)∨O=0))∧((Y=0→(A.length:Int)≤O)∧(Y=1→(A.length:Int)≤bP.length+O))) ?_ fin);rintro _ VE B⟨iK,A,O,hV,hB,rfl,G,fO,L,M,Eo,I2⟩;refine aU _ _ hV hB (rc 5 aa ?_);refine au aa ?_ ?_<;>intro g3
   ·refine rc 5 aa ?_;obtain⟨_,⟨Z,rfl,qc,qd⟩,cY⟩:=qI O bM;refine ax (aI aa aa cr ae cY aa ?_);refine ro 9 aa (bd [20,19,18,17,15,14,13,9,7,5,4,1,0] [] aa aa (fun e0 b0 k VE B=>∃I,an ((10,.d (dJ I))::e0) VE∧an b0 B∧dP k 0 I (A.length:Int)) ?_ fin);rintro _ VE B⟨I,hV,hB,rfl,ox⟩;refine aU _ _ hV hB (aB 5 aa (aO aa G ?_));refine ro 2 aa ?_;refine bm aa ?_ ?_<;>intro g5
    ·refine ro 2 aa ?_;obtain⟨_,⟨vn,rfl,GN,GO⟩,e7⟩:=qI I L;refine bJ aa aa (aI aa aa G ae e7 aa ?_);refine ro 2 aa (rp 3 aa ?_);refine au aa ?_ ?_<;>intro h7
     ·exact W
     refine aB 5 aa (aO aa G ?_);refine ro 2 aa ?_;refine bm aa ?_ ?_<;>intro g8
     ·refine ro 8 aa (eG aa aa (rc 3 aa ?_));obtain⟨j9,sI,pN⟩:=bz (z:=I) (n:=A.length+1) ae ae;refine aR (eI (l:=0) (h:=j9) rfl G L rfl M ⟨_,(by rw[←sI];rfl)⟩ rfl ae ae (fun d10 ze I6 Vf Vk=>?_));refine aP aa (VI.fresh aa (dQ (ys:=ze) 52 aa aa aa aa aa (.sD I6 (cO Vk aa)) ao ae ?_));refine rq 2 aa (aP aa (aX (rows:=ze) (ys:=[[(dJ Z)]]) aa aa aa (.bs (rows:=[[(dJ Z)]]) aa) ao ae bN bN ?_));refine rq 2 aa ?_;obtain⟨mG,sb,Bo⟩:=bz (z:=I) (n:=A.length+1) ae ae;refine aR (eI (l:=mG) (h:=A.length) rfl G L rfl M rfl ⟨_,(by rw[←sb];rfl)⟩ ae ae (fun d12 OX I7 Vg Vl=>?_));refine aP aa (aX (rows:=(ze++[[(dJ Z)]])) (ys:=OX) aa aa aa (.sD I7 (cO Vl aa)) ao ae (fun h=>absurd h bB) (fun h=>absurd h bB) ?_);exact rq 2 aa (cf 5 52 aa aa (fun _=>⟨aa,aa⟩) (W))
     refine ro 2 aa (bJ aa aa (aI aa aa G ae e7 aa ?_));refine ro 5 aa ?_;refine au aa ?_ ?_<;>intro sK
     ·refine rc 3 aa ?_;obtain⟨oG,sk,pA⟩:=bz (z:=I) (n:=A.length+1) ae ae;refine aR (eI (l:=0) (h:=oG) rfl G L rfl M ⟨_,(by rw[←sk];rfl)⟩ rfl ae ae (fun d15 E8 Vy ai1 hr15=>?_));refine aP aa (VI.fresh aa (dQ (ys:=E8) 52 aa aa aa aa aa (.sD Vy (cO hr15 aa)) ao ae ?_));refine rq 2 aa (aP aa (aX (rows:=E8) (ys:=[[(dJ Z)]]) aa aa aa (.bs (rows:=[[(dJ Z)]]) aa) ao ae bN bN ?_));refine rq 2 aa ?_;obtain⟨jQ,pB,pC⟩:=bz (z:=I) (n:=A.length+1) ae ae;refine aR (eI (l:=jQ) (h:=A.length) rfl G L rfl M rfl ⟨_,(by rw[←pB];rfl)⟩ ae ae (fun d17 sL Bw Ew Ez=>?_));refine aP aa (aX (rows:=(E8++[[(dJ Z)]])) (ys:=sL) aa aa aa (.sD Bw (cO Ez aa)) ao ae (fun h=>absurd h bB) (fun h=>absurd h bB) ?_);exact rq 2 aa (cf 5 52 aa aa (fun _=>⟨aa,aa⟩) (W))
     exact W
    refine ro 8 aa (eo aa aa (aB 5 aa (aO aa G ?_)));refine ro 2 aa ?_;refine bm aa ?_ ?_<;>intro sO
    ·refine ro 8 aa (eG aa aa (rc 3 aa ?_));obtain⟨sQ,Bx,By⟩:=bz (z:=I) (n:=A.length+1) ae ae;refine aR (eI (l:=0) (h:=sQ) rfl G L rfl M ⟨_,(by rw[←Bx];rfl)⟩ rfl ae ae (fun d20 lW Vz yI I8=>?_));refine aP aa (VI.fresh aa (dQ (ys:=lW) 52 aa aa aa aa aa (.sD Vz (cO I8 aa)) ao ae ?_));refine rq 2 aa (aP aa (aX (rows:=lW) (ys:=[[(dJ Z)]]) aa aa aa (.bs (rows:=[[(dJ Z)]]) aa) ao ae bN bN ?_));refine rq 2 aa ?_;obtain⟨mJ,pD,lO⟩:=bz (z:=I) (n:=A.length+1) ae ae;refine aR (eI (l:=mJ) (h:=A.length) rfl G L rfl M rfl ⟨_,(by rw[←pD];rfl)⟩ ae ae (fun d22 w22 VA hl22 hr22=>?_));refine aP aa (aX (rows:=(lW++[[(dJ Z)]])) (ys:=w22) aa aa aa (.sD VA (cO hr22 aa)) ao ae (fun h=>absurd h bB) (fun h=>absurd h bB) ?_);exact rq 2 aa (cf 5 52 aa aa (fun _=>⟨aa,aa⟩) (W))
    refine ro 2 aa ?_;obtain⟨_,⟨zx23_0,rfl,hzx23_0,kzx23_0⟩,vT⟩:=qI I L;refine bJ aa aa (aI aa aa G ae vT aa ?_);refine ro 2 aa (rp 3 aa ?_);refine au aa ?_ ?_<;>intro O2
    ·refine rc 3 aa ?_;obtain⟨pS,Bz,I9⟩:=bz (z:=I) (n:=A.length+1) ae ae;refine aR (eI (l:=0) (h:=pS) rfl G L rfl M ⟨_,(by rw[←Bz];rfl)⟩ rfl ae ae (fun d26 Xm VB hl26 hr26=>?_));refine aP aa (VI.fresh aa (dQ (ys:=Xm) 52 aa aa aa aa aa (.sD VB (cO hr26 aa)) ao ae ?_));refine rq 2 aa (aP aa (aX (rows:=Xm) (ys:=[[(dJ Z)]]) aa aa aa (.bs (rows:=[[(dJ Z)]]) aa) ao ae bN bN ?_));refine rq 2 aa ?_;obtain⟨uy,I',VD⟩:=bz (z:=I) (n:=A.length+1) ae ae;refine aR (eI (l:=uy) (h:=A.length) rfl G L rfl M rfl ⟨_,(by rw[←I'];rfl)⟩ ae ae (fun d28 nD VF Ok VG=>?_));refine aP aa (aX (rows:=(Xm++[[(dJ Z)]])) (ys:=nD) aa aa aa (.sD VF (cO VG aa)) ao ae (fun h=>absurd h bB) (fun h=>absurd h bB) ?_);exact rq 2 aa (cf 5 52 aa aa (fun _=>⟨aa,aa⟩) (W))
    exact W
   exact W
  refine ax (KD (j:=1) rfl (by rw[oD];rfl) ao rfl ?_);refine aK 5 aa (aO aa cN ?_);refine ro 3 aa (bd [18,17,15,14,13,7,4,1,0] [] aa aa (fun e0 b0 k VE B=>∃iK A O,an ((5,.d iK)::(19,.d (dJ O))::e0) VE∧an b0 B∧k=((bL.length:Int) -O).toNat∧(aA A iK)∧((A.length:Int)≤8000000000)∧(af br A)∧(A=[]→iK= .nil)∧(0≤O∧(O≤(bL.length:Int)∨O=0))∧((Y=0→(A.length:Int)≤O)∧(Y=1→(A.length:Int)≤bP.length+O))) ?_ fin);rintro _ VE B⟨iK,A,O,hV,hB,rfl,G,fO,L,M,Eo,I2⟩;refine aU _ _ hV hB (rc 5 aa ?_);refine au aa ?_ ?_<;>intro O4
  ·refine rc 5 aa ?_;obtain⟨_,⟨U,rfl,abt,abu⟩,vU⟩:=qI O cb;refine ax (aI aa aa cN ae vU aa ?_);refine ro 9 aa (bd [20,19,18,17,15,14,13,9,7,5,4,1,0] [] aa aa (fun e0 b0 k VE B=>∃I,an ((10,.d (dJ I))::e0) VE∧an b0 B∧dP k 0 I (A.length:Int)) ?_ fin);rintro _ VE B⟨I,hV,hB,rfl,ox⟩;refine aU _ _ hV hB (aB 5 aa (aO aa G ?_));refine ro 2 aa ?_;refine bm aa ?_ ?_<;>intro g31
   ·refine ro 2 aa ?_;obtain⟨_,⟨zx32_0,rfl,hzx32_0,kzx32_0⟩,Ja⟩:=qI I L;refine bJ aa aa (aI aa aa G ae Ja aa ?_);refine ro 2 aa (rp 3 aa ?_);refine au aa ?_ ?_<;>intro h33
    ·exact W
    refine aB 5 aa (aO aa G ?_);refine ro 2 aa ?_;refine bm aa ?_ ?_<;>intro Kb
    ·refine ro 8 aa (eG aa aa (rc 3 aa ?_));obtain⟨uz,Jb,VH⟩:=bz (z:=I) (n:=A.length+1) ae ae;refine aR (eI (l:=0) (h:=uz) rfl G L rfl M ⟨_,(by rw[←Jb];rfl)⟩ rfl ae ae (fun d36 Xn VJ hl36 hr36=>?_));refine aP aa (VI.fresh aa (dQ (ys:=Xn) 52 aa aa aa aa aa (.sD VJ (cO hr36 aa)) ao ae ?_));refine rq 2 aa (aP aa (aX (rows:=Xn) (ys:=[[(dJ U)]]) aa aa aa (.bs (rows:=[[(dJ U)]]) aa) ao ae bN bN ?_));refine rq 2 aa ?_;obtain⟨uA,Jc,VK⟩:=bz (z:=I) (n:=A.length+1) ae ae;refine aR (eI (l:=uA) (h:=A.length) rfl G L rfl M rfl ⟨_,(by rw[←Jc];rfl)⟩ ae ae (fun d38 O5 VL ai2 hr38=>?_));refine aP aa (aX (rows:=(Xn++[[(dJ U)]])) (ys:=O5) aa aa aa (.sD VL (cO hr38 aa)) ao ae (fun h=>absurd h bB) (fun h=>absurd h bB) ?_);exact rq 2 aa (cf 5 52 aa aa (fun _=>⟨aa,aa⟩) (W))
    refine ro 2 aa (bJ aa aa (aI aa aa G ae Ja aa ?_));refine ro 5 aa ?_;refine au aa ?_ ?_<;>intro O6
    ·refine rc 3 aa ?_;obtain⟨wC,VM,kj40⟩:=bz (z:=I) (n:=A.length+1) ae ae;refine aR (eI (l:=0) (h:=wC) rfl G L rfl M ⟨_,(by rw[←VM];rfl)⟩ rfl ae ae (fun d41 Xo VN hl41 hr41=>?_));refine aP aa (VI.fresh aa (dQ (ys:=Xo) 52 aa aa aa aa aa (.sD VN (cO hr41 aa)) ao ae ?_));refine rq 2 aa (aP aa (aX (rows:=Xo) (ys:=[[(dJ U)]]) aa aa aa (.bs (rows:=[[(dJ U)]]) aa) ao ae bN bN ?_));refine rq 2 aa ?_;obtain⟨pT,BA,BB⟩:=bz (z:=I) (n:=A.length+1) ae ae;refine aR (eI (l:=pT) (h:=A.length) rfl G L rfl M rfl ⟨_,(by rw[←BA];rfl)⟩ ae ae (fun d43 w43 VP hl43 hr43=>?_));refine aP aa (aX (rows:=(Xo++[[(dJ U)]])) (ys:=w43) aa aa aa (.sD VP (cO hr43 aa)) ao ae (fun h=>absurd h bB) (fun h=>absurd h bB) ?_);exact rq 2 aa (cf 5 52 aa aa (fun _=>⟨aa,aa⟩) (W))
    exact W
   refine ro 8 aa (eo aa aa (aB 5 aa (aO aa G ?_)));refine ro 2 aa ?_;refine bm aa ?_ ?_<;>intro O7
   ·refine ro 8 aa (eG aa aa (rc 3 aa ?_));obtain⟨re,Jd,VS⟩:=bz (z:=I) (n:=A.length+1) ae ae;refine aR (eI (l:=0) (h:=re) rfl G L rfl M ⟨_,(by rw[←Jd];rfl)⟩ rfl ae ae (fun d46 E9 VT ai3 hr46=>?_));refine aP aa (VI.fresh aa (dQ (ys:=E9) 52 aa aa aa aa aa (.sD VT (cO hr46 aa)) ao ae ?_));refine rq 2 aa (aP aa (aX (rows:=E9) (ys:=[[(dJ U)]]) aa aa aa (.bs (rows:=[[(dJ U)]]) aa) ao ae bN bN ?_));refine rq 2 aa ?_;obtain⟨sR,VU,kj47⟩:=bz (z:=I) (n:=A.length+1) ae ae;refine aR (eI (l:=sR) (h:=A.length) rfl G L rfl M rfl ⟨_,(by rw[←VU];rfl)⟩ ae ae (fun d48 w48 VW hl48 hr48=>?_));refine aP aa (aX (rows:=(E9++[[(dJ U)]])) (ys:=w48) aa aa aa (.sD VW (cO hr48 aa)) ao ae (fun h=>absurd h bB) (fun h=>absurd h bB) ?_);exact rq 2 aa (cf 5 52 aa aa (fun _=>⟨aa,aa⟩) (W))
   refine ro 2 aa ?_;obtain⟨_,⟨zx49_0,rfl,hzx49_0,kzx49_0⟩,VX⟩:=qI I L;refine bJ aa aa (aI aa aa G ae VX aa ?_);refine ro 2 aa (rp 3 aa ?_);refine au aa ?_ ?_<;>intro Xk
   ·refine rc 3 aa ?_;obtain⟨wD,Je,ai4⟩:=bz (z:=I) (n:=A.length+1) ae ae;refine aR (eI (l:=0) (h:=wD) rfl G L rfl M ⟨_,(by rw[←Je];rfl)⟩ rfl ae ae (fun d52 Ke Jf hl52 VY=>?_));refine aP aa (VI.fresh aa (dQ (ys:=Ke) 52 aa aa aa aa aa (.sD Jf (cO VY aa)) ao ae ?_));refine rq 2 aa (aP aa (aX (rows:=Ke) (ys:=[[(dJ U)]]) aa aa aa (.bs (rows:=[[(dJ U)]]) aa) ao ae bN bN ?_));refine rq 2 aa ?_;obtain⟨Ce,VZ,kj53⟩:=bz (z:=I) (n:=A.length+1) ae ae;refine aR (eI (l:=Ce) (h:=A.length) rfl G L rfl M rfl ⟨_,(by rw[←VZ];rfl)⟩ ae ae (fun d54 w54 V0 hl54 hr54=>?_));refine aP aa (aX (rows:=(Ke++[[(dJ U)]])) (ys:=w54) aa aa aa (.sD V0 (cO hr54 aa)) ao ae (fun h=>absurd h bB) (fun h=>absurd h bB) ?_);exact rq 2 aa (cf 5 52 aa aa (fun _=>⟨aa,aa⟩) (W))
   exact W
  exact W
 exact W
theorem sortC_{T:aN}(F:FT T)(N:Nat):∀{a0:DC}{O:ak}(Z:aA O a0)(cK:O.length≤1000000000)(bM:af qo O)(hN:O.length≤N),Sound T 334 [.d a0] fun r=>∃(y0:DC)(bu:ak),r= .d y0∧aA bu y0∧(bu.length:Int)≤O.length∧af qo bu∧0≤(bu.length:Int)∧(bu=[]→y0= .nil):=by
 induction N using Nat.strongRecOn with
 |_ N ih=>
 intro a0 O Z cK bM hN;refine bj F.aiC aa (bY 8 aa (aO aa Z ?_));refine ro 2 aa ?_;refine au aa ?_ ?_<;>intro g1
 ·refine aB 3 aa (dQ (ys:=O) 12 aa aa aa aa aa (.sD Z (cO bM aa)) ao ae ?_);exact ro 2 aa (cf 2 12 aa aa (fun _=>⟨aa,aa⟩) (W))
 refine rc 5 aa (aR (aO aa Z ?_));refine aR (wY aa aa aa aa ae ae ae ao ?_);obtain⟨j2,sP,pR⟩:=bz (z:=((O.length:Int)/2)) (n:=O.length+1) ae ae;refine aR (eI (l:=0) (h:=j2) rfl Z bM rfl (tq ae) ⟨_,(by rw[←sP];rfl)⟩ rfl ae ae (fun d3 w3 Xp O8 Xq=>?_));refine aP aa (ay aa (ih (w3).length ae Xp ae Xq (bq _)) ?_);rintro _ _⟨fJ,jH,rfl,A,th,U,xn,C6⟩;refine cZ 2 aa (aO aa Z ?_);refine aR (wY aa aa aa aa ae ae ae ao ?_);obtain⟨j5,Cc,Cd⟩:=bz (z:=((O.length:Int)/2)) (n:=O.length+1) ae ae;refine aR (eI (l:=j5) (h:=O.length) rfl Z bM rfl (tq ae) rfl ⟨_,(by rw[←Cc];rfl)⟩ ae ae (fun d6 w6 Xr Xs Xt=>?_));refine aP aa (ay aa (ih (w6).length ae Xr ae Xt (bq _)) ?_);rintro _ _⟨qS,Dx,rfl,G,adU,Y,hmy7_0,hey7_0⟩;refine rq 14 aa (dh 5 90 82 48 2 aa aa (bd [10,4,3,2,0] [] aa aa (fun e0 b0 k VE B=>∃L M I,an ((5,.ac 90 I.length 2)::(6,.d (dJ L))::(7,.d (dJ M))::e0) VE∧an ((90,.acc 82 48 2 I)::b0) B∧k=((jH.length:Int)+Dx.length-L-M).toNat∧(0≤L∧L≤(jH.length:Int))∧(0≤M∧M≤(Dx.length:Int))∧((I.length:Int)≤L+M)∧(af qo I)) ?_ fin));rintro _ VE B⟨L,M,I,hV,hB,rfl,bS,cM,ug,nO⟩;refine aU _ _ hV hB (aB 5 aa (aO aa A ?_));refine ro 2 aa ?_;refine bm aa ?_ ?_<;>intro g8
 ·refine ro 6 aa (eG aa aa (rc 6 aa (aR (aO aa G ?_))));refine rq 2 aa ?_;refine dw aa ?_ ?_<;>intro g9
  ·refine rq 5 aa (bK aa (bK aa (bK aa (dA aa (bK aa (bK aa (bK aa (dA aa (dA aa ?_)))))))));refine bK aa (rq 3 aa (eG aa aa (rc 5 aa ?_)));obtain⟨n5,⟨adV,abv,abw,abx⟩,rQ,⟨wx10_1,hdx10_1,hnx10_1,hrx10_1⟩,gY⟩:=qI L U;refine ax (aI aa aa A ae gY aa ?_);refine ro 2 aa ?_;refine ax (aX (rows:=I) (ys:=[[n5,rQ]]) rfl rfl rfl (.bs (rows:=[[n5,rQ]]) rfl) ao ae (fun h=>by rw[h];rfl) (fun h=>by rw[h];rfl) ?_);exact W
  refine rq 2 aa (ca aa aa (aO aa A ?_));refine rq 2 aa ?_;refine dw aa ?_ ?_<;>intro ld
  ·refine rq 2 aa ?_;obtain⟨qu,nP,tv,⟨adW,aby,abz,abA⟩,gI⟩:=qI M Y;refine ca aa aa (aI aa aa G ae gI aa ?_);refine rq 3 aa ?_;obtain⟨qv,nQ,AT,⟨adX,Lj,abB,Lk⟩,lP⟩:=qI L U;refine ca aa aa (aI aa aa A ae lP aa ?_);refine rq 1 aa (eL aa aa aa (ay aa (agn F nP (aM aby ae abA) nQ (aM Lj ae Lk)) ?_));rintro _ _⟨_,rfl,by14_0,rfl⟩;refine rq 4 aa ?_;refine cH aa ?_ ?_<;>intro Kf
   ·refine aB 5 aa (aI aa aa A ae lP aa ?_);obtain⟨wx13_0,hdx13_0,hnx13_0,hrx13_0⟩:=Ty.aM nQ;refine ro 2 aa ?_;refine ax (aX (rows:=I) (ys:=[[qv,AT]]) rfl rfl rfl (.bs (rows:=[[qv,AT]]) rfl) ao ae (fun h=>by rw[h];rfl) (fun h=>by rw[h];rfl) ?_);exact W
   refine aB 5 aa (aI aa aa G ae gI aa ?_);obtain⟨adY,QW,abC,abD⟩:=Ty.aM nP;refine ro 2 aa ?_;refine ax (aX (rows:=I) (ys:=[[qu,tv]]) rfl rfl rfl (.bs (rows:=[[qu,tv]]) rfl) ao ae (fun h=>by rw[h];rfl) (fun h=>by rw[h];rfl) ?_);exact W
  refine rq 13 aa (eo aa aa (rc 5 aa ?_));obtain⟨AQ,⟨wx16_0,hdx16_0,hnx16_0,hrx16_0⟩,AU,⟨wx16_1,hdx16_1,hnx16_1,hrx16_1⟩,qR⟩:=qI M Y;refine ax (aI aa aa G ae qR aa ?_);refine ro 2 aa ?_;refine ax (aX (rows:=I) (ys:=[[AQ,AU]]) rfl rfl rfl (.bs (rows:=[[AQ,AU]]) rfl) ao ae (fun h=>by rw[h];rfl) (fun h=>by rw[h];rfl) ?_);exact W
 refine ro 2 aa (bJ aa aa (aO aa G ?_));refine ro 3 aa ?_;refine au aa ?_ ?_<;>intro sN
 ·refine rc 6 aa (aR (aO aa G ?_));refine rq 2 aa ?_;refine dw aa ?_ ?_<;>intro sO
  ·refine rq 5 aa (bK aa (bK aa (bK aa (dA aa (bK aa (bK aa (bK aa (dA aa (dA aa ?_)))))))));refine bK aa (rq 3 aa (eG aa aa (rc 5 aa ?_)));obtain⟨xU,⟨wx19_0,hdx19_0,hnx19_0,hrx19_0⟩,Dy,⟨wx19_1,hdx19_1,hnx19_1,hrx19_1⟩,ng⟩:=qI L U;refine ax (aI aa aa A ae ng aa ?_);refine ro 2 aa ?_;refine ax (aX (rows:=I) (ys:=[[xU,Dy]]) rfl rfl rfl (.bs (rows:=[[xU,Dy]]) rfl) ao ae (fun h=>by rw[h];rfl) (fun h=>by rw[h];rfl) ?_);exact W
  refine rq 2 aa (ca aa aa (aO aa A ?_));refine rq 2 aa ?_;refine dw aa ?_ ?_<;>intro Xu
  ·refine rq 2 aa ?_;obtain⟨vq,u6,tw,⟨wx21_1,abE,hnx21_1,abF⟩,lQ⟩:=qI M Y;refine ca aa aa (aI aa aa G ae lQ aa ?_);refine rq 3 aa ?_;obtain⟨ml,qh,mo,⟨LV,Gg,Ll,Gh⟩,vV⟩:=qI L U;refine ca aa aa (aI aa aa A ae vV aa ?_);refine rq 1 aa (eL aa aa aa (ay aa (agn F u6 (aM abE ae abF) qh (aM Gg ae Gh)) ?_));rintro _ _⟨_,rfl,by23_0,rfl⟩;refine rq 4 aa ?_;refine cH aa ?_ ?_<;>intro Cf
   ·refine aB 5 aa (aI aa aa A ae vV aa ?_);obtain⟨LW,Lm,QX,Ln⟩:=Ty.aM qh;refine ro 2 aa ?_;refine ax (aX (rows:=I) (ys:=[[ml,mo]]) rfl rfl rfl (.bs (rows:=[[ml,mo]]) rfl) ao ae (fun h=>by rw[h];rfl) (fun h=>by rw[h];rfl) ?_);exact W
   refine aB 5 aa (aI aa aa G ae lQ aa ?_);obtain⟨wx21_0,hdx21_0,hnx21_0,hrx21_0⟩:=Ty.aM u6;refine ro 2 aa ?_;refine ax (aX (rows:=I) (ys:=[[vq,tw]]) rfl rfl rfl (.bs (rows:=[[vq,tw]]) rfl) ao ae (fun h=>by rw[h];rfl) (fun h=>by rw[h];rfl) ?_);exact W
  refine rq 13 aa (eo aa aa (rc 5 aa ?_));obtain⟨Dz,⟨wx25_0,hdx25_0,hnx25_0,hrx25_0⟩,DA,⟨wx25_1,hdx25_1,hnx25_1,hrx25_1⟩,vW⟩:=qI M Y;refine ax (aI aa aa G ae vW aa ?_);refine ro 2 aa ?_;refine ax (aX (rows:=I) (ys:=[[Dz,DA]]) rfl rfl rfl (.bs (rows:=[[Dz,DA]]) rfl) ao ae (fun h=>by rw[h];rfl) (fun h=>by rw[h];rfl) ?_);exact W
 exact rc 6 aa (cf 2 90 aa aa (fun _=>⟨aa,aa⟩) (W))
theorem sortC{T:aN}(F:FT T){O:DC}{A:ak}(G:aA A O)(I:A.length≤1000000000)(L:af qo A):Sound T 334 [.d O] fun r=>∃M z,r= .d M∧aA z M∧(z.length:Int)≤A.length∧af qo z∧0≤(z.length:Int)∧(z=[]→M= .nil):=sortC_ F _ G I L (bq _)
end Go.Ev.Rp
