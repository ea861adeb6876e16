/- Part 49 of rules for walks through the code of a program, and of such walks; what each part proves is said by its theorems. -/
import Derived.Test.YtmpoloiempjdpaaGreatR24
import Derived.Test.YtmpoloiempjdpaaGreatR25
import Derived.Test.YtmpoloiempjdpaaGreatR29
import Derived.Test.YtmpoloiempjdpaaGreatR30
import Derived.Test.YtmpoloiempjdpaaGreatR31
import Derived.Test.YtmpoloiempjdpaaGreatR33
import Derived.Test.YtmpoloiempjdpaaGreatR38
import Derived.Test.YtmpoloiempjdpaaGreatR40
import Derived.Test.YtmpoloiempjdpaaGreatR41
import Derived.Test.YtmpoloiempjdpaaGreatR48
set_option linter.unusedVariables false
set_option linter.unusedSimpArgs false
noncomputable section
set_option maxRecDepth 100000
set_option maxHeartbeats 4000000
namespace Go.Ev.Rp
open Go Go.Ev.Pp
attribute [local irreducible] VC VO VQ VI Sound bY
theorem ApplyX{T:aM}(F:FT T){nv:Nat}{a1 a2 a4 a5 a6 a7 a8 a9 ky o7 o8 sY sZ s0:DC}{aJ:Int}(iY:0≤aJ)(ic:aJ≤30)(bV:tJ.ok a1){bo:ai}(wx:0≤bo.length)(jT:bo=[]→a2= .nil)(A:au bo a2)(df:bo.length≤16)(G:af (fq nv 4096) bo){aT:Int}(fV:0≤aT)(fW:aT≤aJ){I:ai}(EA:0≤I.length)(L:I=[]→a4= .nil)(M:au I a4)(eU:I.length≤12)(O:af iP I){z:ai}(hma5:0≤z.length)(Z:z=[]→a5= .nil)(U:au z a5)(nc:z.length≤12)(Y:af jN z)(fi:(Ty.i .i64 1 5).ok a6)(fX:tJ.ok a7)(gk:(Ty.l 2 [tJ,.s 1000,.l 1000000000 cu,tJ,tJ,.l 100 ey,tJ,.l 10 yG,.s 1000,.l 100 dV,.l 200 bn,.l 4 ep,.l 4 dT,tJ,.s 1000,tJ]).ok a8)(ig:tJ.ok a9)(mV:tJ.ok ky)(pV:tJ.ok o7)(BL:(Ty.q (IP T)).ok o8)(yJ:(Ty.i .i64 0 4).ok sY)(BM:tJ.ok sZ)(BN:tJ.ok s0)(mw:nv≤97)(Pj:1≤nv):Sound T 25 [.agg [.d (dJ aJ),.d a1,.d a2,.d (dJ aT),.d a4,.d a5],.agg [.d a6,.d a7,.d a8,.d a9,.d ky,.d o7,.d o8,.d sY,.d sZ,.d s0]] fun r=>∃y0 y1 y2 dE y4 y5 jF y7 wS y9,r= .tuple [.agg [.d (dJ y0),.d y1,.d y2,.d (dJ y4),.d y5,.d y7],.d (dJ y9)]∧(0≤y0∧y0≤40∧(True))∧tJ.ok y1∧au dE y2∧(dE.length:Int)≤16∧af (fq (nv+2) 4096) dE∧0≤(dE.length:Int)∧(dE=[]→y2= .nil)∧(0≤y4∧y4≤40∧(True))∧au jF y5∧(jF.length:Int)≤I.length+1∧af iP jF∧0≤(jF.length:Int)∧(jF=[]→y5= .nil)∧((a6= .i .i64 1→(jF.length:Int)≤I.length))∧au wS y7∧(wS.length:Int)≤z.length+1∧af jN wS∧0≤(wS.length:Int)∧(wS=[]→y7= .nil)∧((-9223372036854775808)≤y9∧y9≤9223372036854775807∧(y9=0→y4≤y0∧y0≤aJ+1)):=by
 refine bm F.q25 aa ?_;rcases bV,fi,fX,gk,ig,mV,pV,Ty.bC BL,yJ,BM,BN with⟨⟨aS,rfl,eB,ee⟩,⟨bu,rfl,nP,nQ⟩,⟨bT,rfl,su,sv⟩,⟨rA,lj,t9,lH⟩,⟨fQ,rfl,yH,yI⟩,⟨jj,rfl,MV,MW⟩,⟨eD,rfl,UZ,U0⟩,⟨sta12,rfl,hTa12⟩,⟨za13,rfl,hza13,kza13⟩,⟨za14,rfl,hza14,kza14⟩,⟨za15,rfl,hza15,kza15⟩⟩
 refine r0 19 aa ?_;refine ay aa ?_ ?_<;>intro g1
 ·refine aA 5 aa (aB aa (CommitN (aJ:=aJ) (nv:=nv) (P3:=Ty.i .i64 0 aJ) (P4:=Ty.q (pN iP 0 I.length)) (P5:=Ty.q (pN jN 0 z.length)) F ae ae ak ae jT A ae G ak (bC ⟨_,M,ae,ae,O,L⟩) (bC ⟨_,U,ae,ae,Y,Z⟩) lj ae lH ae ae ak (bC ⟨[],.inr ⟨aa,aa⟩,ae,ae,cb,fun _=>aa⟩) (bC ⟨[],.inr ⟨aa,aa⟩,ae,ae,cb,fun _=>aa⟩)) ?_);rintro _ _⟨nR,Wg,Ow,ait,_,pW,y2_6,y2_7,rfl,DF,ahe,agp,agq,hry2_2,hmy2_2,hey2_2,⟨zy2_4,rfl,hzy2_4,kzy2_4⟩,yi,hy2_6,hy2_7⟩;refine ro 6 aa ?_;rcases Ty.bC yi,Ty.bC hy2_6 with⟨⟨U4,GW,hly2_5,Tp,GX,hzy2_5⟩,⟨wy2_6,hdy2_6,hly2_6,hny2_6,hry2_6,hzy2_6⟩⟩
  exact bL aa aa fin
 refine rc 5 aa ?_;refine ay aa ?_ ?_<;>intro g3
 ·refine rc 5 aa ?_;obtain⟨X,hX,hrX⟩:=tabX_of G ae ae ae;skip;refine aw (aB aa (CiteX (aJ:=aJ) (aT:=aT) (bu:=fQ) (X:=X) (P2:=tTL nv) F ae ae ak A ae hrX ae ae ae L M ae O U ae Y ae ae ak ak hTa12 hX (bC ⟨_,A,ae,ae,G,jT⟩) (bC ⟨[],.inr ⟨aa,aa⟩,ae,ae,cb,fun _=>aa⟩)) ?_);rintro _ _⟨gp,sr,ub,Wm,BR,wy4_4,Jr,wy4_6,y4_8,y4_9,y4_10,y4_11,y4_12,y4_13,y4_14,rfl,tH,vu,UH,hy4_3,hdy4_4,hny4_4,hry4_4,hmy4_4,hey4_4,hdy4_6,hny4_6,hry4_6,hmy4_6,hey4_6,hy4_8,hy4_9,hy4_10,hy4_11,hy4_12,hy4_13,hy4_14⟩;refine ro 18 aa ?_;obtain⟨A5,Av,hly4_2,Tz,Aw,hzy4_2⟩:=Ty.bC UH;exact bL aa aa ⟨gp,sr,ub,A5,Wm,BR,wy4_4,Jr,wy4_6,y4_14,aa,⟨ae,ae,trivial⟩,vu,Av,ae,(o9 Aw ae ae),ae,hzy4_2,⟨ae,ae,trivial⟩,hdy4_4,ae,hry4_4,ae,hey4_4,My,hdy4_6,ae,hry4_6,ae,hey4_6,⟨ae,ae,ae⟩⟩
 refine rc 5 aa ?_;refine ay aa ?_ ?_<;>intro g5
 ·refine aA 5 aa (aB aa (HoldC (aJ:=aJ) (aT:=aT) (P2:=tTL nv) (P5:=Ty.q (pN jN 0 z.length)) F ae ae ak (bC ⟨_,A,ae,ae,G,jT⟩) ae ae ae L M ae O (bC ⟨_,U,ae,ae,Y,Z⟩) ak ak ak (bC ⟨[],.inr ⟨aa,aa⟩,ae,ae,cb,fun _=>aa⟩) (bC ⟨[],.inr ⟨aa,aa⟩,ae,ae,cb,fun _=>aa⟩)) ?_);rintro _ _⟨lg,vU,pO,y6_3,W3,aiu,akV,y6_7,rfl,qG,rX,DT,hy6_3,agr,hny6_4,ags,hmy6_4,hey6_4,Vo,hy6_7⟩;refine ro 6 aa ?_;rcases Ty.bC DT,Ty.bC Vo with⟨⟨U3,GR,hly6_2,Ti,tA,hzy6_2⟩,⟨wy6_6,hdy6_6,hly6_6,hny6_6,hry6_6,hzy6_6⟩⟩
  exact bL aa aa ⟨lg,vU,pO,U3,y6_3,W3,aiu,akV,wy6_6,y6_7,aa,⟨ae,ae,trivial⟩,rX,GR,ae,(o9 tA ae ae),ae,hzy6_2,⟨ae,ae,trivial⟩,agr,ae,ags,ae,hey6_4,My,hdy6_6,ae,hry6_6,ae,hzy6_6,⟨ae,ae,ae⟩⟩
 refine rc 5 aa ?_;refine ay aa ?_ ?_<;>intro g7
 ·refine aA 5 aa (aB aa (ReleaseY (aJ:=aJ) (aT:=aT) (nv:=nv) (mv:=4096) (P5:=Ty.q (pN jN 0 z.length)) F ae ae ak A ae G ae ae ae L M ae O (bC ⟨_,U,ae,ae,Y,Z⟩) ak ae ae (bC ⟨[],.inr ⟨aa,aa⟩,ae,ae,cb,fun _=>aa⟩)) ?_);rintro _ _⟨wh,Jq,akA,wy8_2,y8_4,akx,wy8_5,y8_7,y8_8,rfl,AY,hy8_1,hdy8_2,hny8_2,hry8_2,hmy8_2,hey8_2,hy8_4,hdy8_5,hny8_5,hry8_5,hmy8_5,hey8_5,hy8_7,hy8_8⟩;refine ro 6 aa ?_;obtain⟨wy8_7,hdy8_7,hly8_7,hny8_7,hry8_7,hzy8_7⟩:=Ty.bC hy8_7;exact bL aa aa ⟨wh,Jq,akA,wy8_2,y8_4,akx,wy8_5,y8_7,wy8_7,y8_8,aa,⟨ae,ae,trivial⟩,hy8_1,hdy8_2,ae,(o9 hry8_2 ae ae),ae,hey8_2,⟨ae,ae,trivial⟩,hdy8_5,ae,hry8_5,ae,hey8_5,My,hdy8_7,ae,hry8_7,ae,hzy8_7,⟨ae,ae,ae⟩⟩
 refine rc 5 aa ?_;refine ay aa ?_ ?_<;>intro g9
 ·refine aA 5 aa (aB aa (ForgetY (aJ:=aJ) (aT:=aT) (nv:=nv) (mv:=4096) (P5:=Ty.q (pN jN 0 z.length)) F ae ae ak A ae G ae ae ae L M ae O (bC ⟨_,U,ae,ae,Y,Z⟩) ak ae ae (bC ⟨[],.inr ⟨aa,aa⟩,ae,ae,cb,fun _=>aa⟩)) ?_);rintro _ _⟨nD,AS,HK,wy10_2,MG,MH,aeH,y10_7,y10_8,rfl,Aj,Sp,hdy10_2,hny10_2,hry10_2,hmy10_2,hey10_2,afM,Rv,hny10_5,Rw,hmy10_5,hey10_5,hy10_7,hy10_8⟩;refine ro 6 aa ?_;obtain⟨wy10_7,hdy10_7,hly10_7,hny10_7,hry10_7,hzy10_7⟩:=Ty.bC hy10_7;exact bL aa aa ⟨nD,AS,HK,wy10_2,MG,MH,aeH,y10_7,wy10_7,y10_8,aa,⟨ae,ae,trivial⟩,Sp,hdy10_2,ae,(o9 hry10_2 ae ae),ae,hey10_2,⟨ae,ae,trivial⟩,Rv,ae,Rw,ae,hey10_5,My,hdy10_7,ae,hry10_7,ae,hzy10_7,⟨ae,ae,ae⟩⟩
 exact W
theorem EmptyX{T:aM}(F:FT T):Sound T 16 [] fun r=>∃I Y L z M O A U G,r= .agg [.d (dJ I),.d Y,.d L,.d (dJ M),.d O,.d U]∧(0≤I∧I≤0∧(True))∧tJ.ok Y∧au z L∧(z.length:Int)≤16∧af (fq 1 4096) z∧0≤(z.length:Int)∧(z=[]→L= .nil)∧(0≤M∧M≤0∧(True))∧au A O∧(A.length:Int)≤0∧af iP A∧0≤(A.length:Int)∧(A=[]→O= .nil)∧au G U∧(G.length:Int)≤0∧af jN G∧0≤(G.length:Int)∧(G=[]→U= .nil):=by
 exact bm F.q16 aa (W)
theorem PlayX{T:aM}(F:FT T){a0:DC}{bW:ai}(cM:au bW a0)(cT:bW.length≤13)(bN:af (MD T) bW)(hk:∀r,bW[0]?=some r→r[0]?=some (dJ 1)):Sound T 12 [.d a0] fun r=>∃y0 y1 y2 dE y4 y5 jF y7 wS,r= .agg [.d (dJ y0),.d y1,.d y2,.d (dJ y4),.d y5,.d y7]∧(0≤y0∧y0≤13∧(True))∧tJ.ok y1∧au dE y2∧(dE.length:Int)≤16∧af (fq 27 4096) dE∧0≤(dE.length:Int)∧(dE=[]→y2= .nil)∧(0≤y4∧y4≤y0∧(True))∧au jF y5∧(jF.length:Int)≤bW.length∧af iP jF∧0≤(jF.length:Int)∧((jF.length:Int)≤0∨(jF.length:Int)+1≤bW.length)∧au wS y7∧(wS.length:Int)≤13∧af jN wS:=by
 refine bm F.q12 aa (ch 6 aa (aB aa (EmptyX F) ?_));rintro _ _⟨dD,Bw,t8,vA,ss,OA,ag8,y1_7,wy1_7,rfl,mR,yg,po,xE,qy,hmy1_2,hey1_2,H8,TS,aeF,TU,hmy1_5,hey1_5,TV,hny1_7,TW,hmy1_7,hey1_7⟩;refine ro 9 aa (bj [3,2,0] [2] aa aa (fun e0 b0 k VE B=>∃A L Z O G M U z Y I,an ((4,.d (dJ A))::e0) VE∧an ((3,.one 29 96 [.d (dJ L),.d Z,.d O,.d (dJ M),.d U,.d Y])::b0) B∧k=((bW.length:Int) -A).toNat∧(0≤A∧(A≤(bW.length:Int)∨A=0))∧(0≤L∧L≤A)∧(tJ.ok Z)∧(au G O)∧((G.length:Int)≤16)∧(af (fq (1+2*A.toNat) 4096) G)∧(G=[]→O= .nil)∧(0≤M∧M≤L)∧(au z U)∧((z.length:Int)≤A)∧(af iP z)∧(z=[]→U= .nil)∧(au I Y)∧((I.length:Int)≤A)∧(af jN I)∧(I=[]→Y= .nil)∧((z.length:Int)≤0∨(z.length:Int)+1≤A)) ?_ fin);rintro _ VE B⟨A,L,Z,O,G,M,U,z,Y,I,hV,hB,rfl,bU,cS,R3,QW,vZ,QX,QY,akS,QZ,f0_9,Q0,abx,Q2,f0_13,Q3,aby,f0_16⟩;refine aU _ _ hV hB (aA 5 aa (aQ aa cM ?_));refine ro 2 aa ?_;refine ay aa ?_ ?_<;>intro g2
 ·refine rc 8 aa ?_;obtain⟨pS,Va,ud,tP,Br,qL,akh,Vb,aki,M6,akj,M7,x3_6,Vc,x3_7,Vd,x3_8,Ve,x3_9,Vf,fJ⟩:=qI A bN;refine aV (aH aa aa cM ae fJ aa ?_);refine cJ aa aa (iJ aa (aX aa) (aX aa) ?_);refine aP aa (aB aa (ApplyX (aJ:=L) (aT:=M) (nv:=1+2*A.toNat) F ae ae R3 ae QY QW ae QX ae ae ae abx QZ ae Q0 ae aby Q2 ae Q3 Va tP qL Vb M6 M7 Vc Vd Ve Vf ae ae) ?_);rintro _ _⟨gp,sr,ub,A5,BR,Ez,aiv,OV,wy4_7,y4_9,rfl,tH,vu,Av,Tz,Aw,afL,G0,Nd,hdy4_5,hny4_5,hry4_5,hmy4_5,hey4_5,hfy4_5,hdy4_7,hny4_7,hry4_7,hmy4_7,hey4_7,hy4_9⟩;refine rq 1 aa ?_;have kh:A≠0∨(aiv.length:Int)≤z.length:=by
   by_cases e:A=0
   ·exact .inr (hfy4_5 (by have q:=hk _ (by rw[show(0:Nat)=A.toNat by omega];exact fJ);simpa using q))
   exact .inl e
  refine rp 11 aa ?_;refine ay aa ?_ ?_<;>intro g5
  ·refine aA 6 aa (bx aa aa ae ae ?_);exact cL 2 aa (⟨((bW.length:Int) -((A+1))).toNat,ae,(A+1),gp,sr,ub,A5,BR,Ez,aiv,OV,wy4_7,⟨aa,aa,aa,aa,trivial⟩,⟨aa,aa,trivial⟩,aa,ae,ae,vu,Av,ae,(o9 Aw ae ae),G0,ae,hdy4_5,ae,hry4_5,hey4_5,hdy4_7,ae,hry4_7,hey4_7,al⟩)
  refine aA 3 aa (bx aa aa ae ae ?_);exact cL 2 aa (⟨((bW.length:Int) -((A+1))).toNat,ae,(A+1),L,Z,O,G,M,U,z,Y,I,⟨aa,aa,aa,aa,trivial⟩,⟨aa,aa,trivial⟩,aa,ae,ae,R3,QW,ae,(o9 QX ae ae),QY,ae,QZ,ae,Q0,abx,Q2,ae,Q3,aby,al⟩)
 exact eA 7 aa (bL aa aa ⟨L,Z,O,G,M,U,z,Y,I,aa,⟨ae,ae,trivial⟩,R3,QW,ae,(o9 QX ae ae),ae,QY,⟨ae,ae,trivial⟩,QZ,ae,Q0,ae,al,Q2,ae,Q3⟩)
end Go.Ev.Rp
namespace Go.Ev.Rp
open Go Go.Ev.Pp
attribute [local irreducible] VC VO VQ VI Sound bY
theorem CommandsX{T:aM}(F:FT T){a8:DC}{aJ:Int}(iY:0≤aJ)(ic:aJ≤65535){aS:Int}(mA:0≤aS)(mB:aS≤65535){bz:Int}(pY:0≤bz)(nh:bz≤65535){aT:Int}(fV:0≤aT)(fW:aT≤65535){bA:Int}(mC:0≤bA)(mD:bA≤65535){cg:Int}(rl:0≤cg)(rm:cg≤65535){bu:Int}(kr:0≤bu)(ku:bu≤65535){bT:Int}(oZ:0≤bT)(o0:bT≤65535){I:ai}(lj:au I a8)(t9:I.length≤9223372036854775807)(lH:af Pf I){fQ:Int}(PM:0≤fQ)(PN:fQ≤12)(uz:zh T):Sound T 13 [.agg [dU aJ,dU aS,dU bz,dU aT,dU bA,dU cg,dU bu,dU bT],.d a8,.d (dJ fQ)] fun r=>∃(y0:DC)(bw:ai),r= .d y0∧au bw y0∧(bw.length:Int)≤fQ+1∧af (MD T) bw∧0≤(bw.length:Int)∧(∀r,bw[0]?=some r→r[0]?=some (dJ 1)):=by
 refine bm F.q13 aa (r0 8 aa ?_);have hT0:=uz.1;refine aw (aB aa (SetupC (aJ:=aJ) (aS:=aS) (bz:=bz) (aT:=aT) (bA:=bA) (cg:=cg) (bu:=bu) (bT:=bT) F ae ae ae ae ae ae ae ae ae ae ae ae ae ae ae ae) ?_);rintro _ _⟨dD,fg,rfl,hJ,kI,fT,mN⟩;refine ro 10 aa ?_;have uk:af (MD T) [[(dJ 1),i0,dD,i0,i0,i0,(aq []),i0,i0,i0]]:=(cH (ah ak (ah ak (ah (aL hJ ae fT) (ah ak (ah ak (ah ak (ah (bC ⟨[],rfl,hT0⟩) (ah ak (ah ak (ah ak bl)))))))))) cb);refine bj [6,3,2,1,0] [3] rfl rfl (fun e0 b0 k VE B=>∃(A:Int)(z:ai),an ((7,.bs 12 z.length 10)::(8,.d (dJ A))::e0) VE∧an ((12,.arr 78 104 10 z.length z)::b0) B∧k=((I.length:Int) -A).toNat∧(0≤A∧(A≤(I.length:Int)∨A=0))∧((z.length:Int)≤A+1)∧(af (MD T) z)∧(A≤fQ)∧(1≤(z.length:Int))∧(∀r,z[0]?=some r→r[0]?=some (dJ 1))) ?_ (k:=((I.length:Int) -0).toNat) ⟨0,[[(dJ 1),i0,dD,i0,i0,i0,(aq []),i0,i0,i0]],⟨rfl,rfl,rfl,rfl,rfl,rfl,rfl,trivial⟩,⟨rfl,rfl,trivial⟩,rfl,ae,cR,uk,ae,cR,(by first|(intro r h;cases h;rfl)|exact aeo (by assumption) ae)⟩;rintro _ VE B⟨A,z,hV,hB,rfl,bU,cS,hrw0_7_0,mh,vZ,yK⟩;refine aU _ _ hV hB (aA 5 aa (aQ aa lj ?_));refine ro 2 aa ?_;refine br aa ?_ ?_<;>intro g3
 ·refine ro 5 aa ?_;refine ay aa ?_ ?_<;>intro g4
  ·refine rc 7 aa ?_;obtain⟨_,⟨xZ,rfl,Am,An⟩,_,⟨Nb,rfl,GB,GC⟩,_,⟨Nh,rfl,aeq,aer⟩,_,⟨zx5_3,rfl,hzx5_3,kzx5_3⟩,_,⟨zx5_4,rfl,hzx5_4,kzx5_4⟩,_,⟨zx5_5,rfl,hzx5_5,kzx5_5⟩,_,⟨zx5_6,rfl,hzx5_6,kzx5_6⟩,_,⟨zx5_7,rfl,hzx5_7,kzx5_7⟩,_,⟨zx5_8,rfl,hzx5_8,kzx5_8⟩,e9⟩:=qI A lH;refine aw (aH aa aa lj ae e9 aa ?_);refine aN 1 aa (aB aa (CommandX (aJ:=xZ) (aS:=Nb) (bz:=Nh) (aT:=zx5_3) (bA:=zx5_4) (cg:=zx5_5) (bu:=zx5_6) (bT:=zx5_7) (gC:=zx5_8) F ae ae ae ae ae ae ae ae ae ae ae ae ae ae ae ae ae ae uz) ?_);rintro _ _⟨_,_,pO,_,_,_,akV,_,_,_,rfl,⟨L,rfl,aeI,aeJ⟩,⟨M,rfl,hzy6_1,kzy6_1⟩,⟨U3,GR,Ti,tA⟩,⟨O,rfl,hzy6_3,kzy6_3⟩,⟨U,rfl,hzy6_4,kzy6_4⟩,⟨Y,rfl,hzy6_5,kzy6_5⟩,Vo,⟨Z,rfl,hzy6_7,kzy6_7⟩,⟨Vp,rfl,hzy6_8,kzy6_8⟩,Vq,rfl,hzy6_9,kzy6_9⟩;obtain⟨G,rfl,hTy6_6⟩:=Ty.bC Vo;refine aN 1 aa (rL (rows:=z) (ys:=[[(dJ L),(dJ M),pO,(dJ O),(dJ U),(dJ Y),(aq G),(dJ Z),(dJ Vp),(dJ Vq)]]) aa aa aa (.bs (rows:=[[(dJ L),(dJ M),pO,(dJ O),(dJ U),(dJ Y),(aq G),(dJ Z),(dJ Vp),(dJ Vq)]]) aa) ao ae ?_);refine aN 4 aa (bx aa aa ae ae ?_);refine cL 2 aa ?_;exact⟨((I.length:Int) -((A+1))).toNat,ae,(A+1),(z++[[(dJ L),(dJ M),pO,(dJ O),(dJ U),(dJ Y),(aq G),(dJ Z),(dJ Vp),(dJ Vq)]]),⟨rfl,rfl,rfl,rfl,rfl,rfl,rfl,trivial⟩,⟨rfl,rfl,trivial⟩,rfl,ae,cR,(dW hrw0_7_0 (dG (ah ak (ah ak (ah (aL GR ae tA) (ah ak (ah ak (ah ak (ah (bC ⟨_,rfl,hTy6_6⟩) (ah ak (ah ak (ah ak bl)))))))))))),ae,cR,(by first|(intro r h;cases h;rfl)|exact aeo (by assumption) ae)⟩
  exact rc 6 aa (lz 6 12 aa aa (fun _=>⟨aa,aa⟩) (W))
 exact ro 5 aa (dq aa aa (rc 6 aa (lz 6 12 aa aa (fun _=>⟨aa,aa⟩) (W))))
theorem DatabaseX{T:aM}(F:FT T){a8:DC}{aJ:Int}(iY:0≤aJ)(ic:aJ≤65535){aS:Int}(mA:0≤aS)(mB:aS≤65535){bz:Int}(pY:0≤bz)(nh:bz≤65535){aT:Int}(fV:0≤aT)(fW:aT≤65535){bA:Int}(mC:0≤bA)(mD:bA≤65535){cg:Int}(rl:0≤cg)(rm:cg≤65535){bu:Int}(kr:0≤bu)(ku:bu≤65535){bT:Int}(oZ:0≤bT)(o0:bT≤65535){L:ai}(O:au L a8)(t9:L.length≤9223372036854775807)(U:af Pf L){fQ:Int}(PM:0≤fQ)(PN:fQ≤12)(uz:zh T):Sound T 5 [.agg [dU aJ,dU aS,dU bz,dU aT,dU bA,dU cg,dU bu,dU bT],.d a8,.d (dJ fQ)] fun r=>∃Y y1 y2 z y4 y5 A y7 M,r= .agg [.d (dJ Y),.d y1,.d y2,.d (dJ y4),.d y5,.d y7]∧(0≤Y∧Y≤13∧(True))∧tJ.ok y1∧au z y2∧(z.length:Int)≤16∧af (fq 27 4096) z∧0≤(z.length:Int)∧(z=[]→y2= .nil)∧(0≤y4∧y4≤Y∧(True))∧au A y5∧(A.length:Int)≤fQ+1∧af iP A∧0≤(A.length:Int)∧((A.length:Int)≤fQ)∧au M y7∧(M.length:Int)≤13∧af jN M:=by
 refine bm F.q5 aa (ch 10 aa (aB aa (CommandsX (aJ:=aJ) (aS:=aS) (bz:=bz) (aT:=aT) (bA:=bA) (cg:=cg) (bu:=bu) (bT:=bT) (fQ:=fQ) F ae ae ae ae ae ae ae ae ae ae ae ae ae ae ae ae O ae U ae ae uz) ?_));rintro _ _⟨dD,fg,rfl,G,Z,I,mN,aeA⟩;refine aw (aB aa (PlayX F G ae I dC) ?_);rintro _ _⟨nR,Wg,Ow,ait,ra,pW,U4,y2_7,wy2_7,rfl,DF,ahe,agp,agq,hry2_2,hmy2_2,hey2_2,hy2_4,GW,Tp,GX,hmy2_5,hfy2_5,hdy2_7,hny2_7,hry2_7⟩;exact W
end Go.Ev.Rp
namespace Go.Ev.Rp
open Go Go.Ev.Pp
attribute [local irreducible] VC VO VQ VI Sound bY
theorem R4{w:ai}(h:af iP w):af kH w:=fun r A=>by
 obtain⟨_,_,rfl,G,_,_,rfl,I,_,_,rfl,L,rfl⟩:=h r A;obtain⟨z,rfl,a,b⟩:=G;exact ah ak (ah I (ah L bl))
theorem ForgetB{T:aM}(F:FT T){a1 a2 a4 a5:DC}{aJ:Int}(iY:0≤aJ)(ic:aJ≤1000)(bV:tJ.ok a1){I:ai}(Y:au I a2)(Z:I.length≤16)(L:af (fq 27 4096) I){aT:Int}(fV:0≤aT)(fW:aT≤aJ){z:ai}(dx:au z a4)(eU:z.length≤20)(M:af iP z){O:ai}(gh:au O a5)(nc:O.length≤13)(ib:af jN O){bu:Int}(kr:0≤bu)(ku:bu≤aJ)(hz:aT≤bu):Sound T 6 [.agg [.d (dJ aJ),.d a1,.d a2,.d (dJ aT),.d a4,.d a5],.d (dJ bu)] fun r=>∃y0 A y2 G y4 U,r= .tuple [.agg [.d (dJ aJ),.d a1,.d y0,.d (dJ bu),.d y2,.d y4],.d i0]∧au A y0∧(A.length:Int)≤16∧af (rW 27 4096) A∧0≤(A.length:Int)∧(kg (rG bu z) I A)∧au G y2∧(G.length:Int)≤20∧af kH G∧0≤(G.length:Int)∧(G=z)∧au U y4∧(U.length:Int)≤13∧af jN U:=by
 obtain⟨z1,rfl,b1,b2⟩:=bV;refine(acq (nv:=27) (mv:=4096) F Y Z (Rk L) dx eU (R4 M) gh nc ib ao ao ⟨iY,ic⟩ ⟨fV,fW⟩ aa ⟨b1,b2⟩ (zn:=bu) ⟨kr,ku⟩).mono fun r hr=>?_
 rcases hr with⟨h, -⟩|⟨-,y2,y4,y5,W,jF,rfl,h1,h2,h3,h4,h5,h6⟩
 ·omega
 exact⟨y2,W,y4,z,y5,jF,rfl,h1,by have:=h2.1;omega,pruned_ok h2 (Rk L),al,h2,h3,al,R4 M,al,rfl,h4,al,h6⟩
theorem ForgetA{T:aM}(F:FT T){a1 a2 a4 a5:DC}{aJ:Int}(iY:0≤aJ)(ic:aJ≤1000)(bV:tJ.ok a1){z:ai}(I:au z a2)(L:z.length≤16)(M:af (fq 27 4096) z){aT:Int}(fV:0≤aT)(fW:aT≤aJ){A:ai}(O:au A a4)(U:A.length≤20)(Y:af iP A){G:ai}(Z:au G a5)(nc:G.length≤13)(ib:af jN G){bu:Int}(kr:0≤bu)(ku:bu≤aJ)(hz:bu<aT):Sound T 6 [.agg [.d (dJ aJ),.d a1,.d a2,.d (dJ aT),.d a4,.d a5],.d (dJ bu)] fun r=>r= .tuple [.agg [.d i0,.d i0,dN,.d i0,dN,dN],.d (dJ 18)]:=by
 obtain⟨z1,rfl,b1,b2⟩:=bV;refine(acq (nv:=27) (mv:=4096) F I L (Rk M) O U (R4 Y) Z nc ib ao ao ⟨iY,ic⟩ ⟨fV,fW⟩ aa ⟨b1,b2⟩ (zn:=bu) ⟨kr,ku⟩).mono fun r hr=>?_
 rcases hr with⟨-,h⟩|⟨h, -⟩
 ·exact h
 omega
theorem removesX{T:aM}(F:FT T){a8:DC}{aJ:Int}(iY:0≤aJ)(ic:aJ≤65535){aS:Int}(mA:0≤aS)(mB:aS≤65535){bz:Int}(pY:0≤bz)(nh:bz≤65535){aT:Int}(fV:0≤aT)(fW:aT≤65535){bA:Int}(mC:0≤bA)(mD:bA≤65535){cg:Int}(rl:0≤cg)(rm:cg≤65535){bu:Int}(kr:0≤bu)(ku:bu≤65535){bT:Int}(oZ:0≤bT)(o0:bT≤65535){rA:ai}(lj:au rA a8)(t9:rA.length≤9223372036854775807)(lH:af Pf rA){fQ:Int}(PM:0≤fQ)(PN:fQ≤65535)(hA:Sound T 7 [] fun r=>r=dB true)(uz:zh T):Sound T 3 [.agg [dU aJ,dU aS,dU bz,dU aT,dU bA,dU cg,dU bu,dU bT],.d a8,dU fQ] fun r=>∃y0,r=dB y0∧(y0=true):=by
 refine bm F.q3 aa ?_;have hA2:FT T→Sound T 7 [] fun r=>r=dB true:=fun _=>hA
 refine ch 9 aa (aB aa (DatabaseX (aJ:=aJ) (aS:=aS) (bz:=bz) (aT:=aT) (bA:=bA) (cg:=cg) (bu:=bu) (bT:=bT) (fQ:=10) F ae ae ae ae ae ae ae ae ae ae ae ae ae ae ae ae lj ae lH ae ae uz) ?_);rintro _ _⟨dD,Bw,t8,vA,ss,OA,ag8,y1_7,wy1_7,rfl,mR,yg,po,xE,qy,hmy1_2,hey1_2,H8,TS,aeF,TU,hmy1_5,hfy1_5,TV,hny1_7,TW⟩;refine ro 7 aa (aV (fm aa ao ae ae ?_));refine dh 2 aa (bx aa aa ae ae ?_);refine aV (aco aa aa ae ae (fun z2 ez2 ng kz2=>?_))
 by_cases Po:z2<ss
 ·refine aP aa (aB aa (ForgetA (aJ:=dD) (aT:=ss) (bu:=z2) F ae ae yg po ae qy ae ae TS ae TU TV ae TW ae ae ae) ?_);rintro _ _ rfl;refine rq 1 aa ?_;skip;refine rp 12 aa (eu aa bH (aA 2 aa (aB aa (hA2 F) ?_)));rintro _ _ rfl;exact eJ 3 aa (bL aa aa fin)
 refine aP aa (aB aa (ForgetB (aJ:=dD) (aT:=ss) (bu:=z2) F ae ae yg po ae qy ae ae TS ae TU TV ae TW ae ae ae) ?_);rintro _ _⟨lg,qK,pO,G,W3,aiu,rfl,oy,xB,nA,SU,hfy6_0,Y,Ti,tA,hmy6_2,afz,agr,hny6_4,ags⟩;refine rq 1 aa ?_;subst afz;refine rp 12 aa (dq aa bH (aA 6 aa (aQ aa po ?_)));refine ro 3 aa (bj [40,39,36,9,8,7,6,3,2,1,0] [8,7,3] aa aa (fun e0 b0 k VE B=>∃Io,an ((41,.d (dJ Io))::e0) VE∧an b0 B∧d9 k 0 Io (vA.length:Int)) ?_ fin);rintro _ VE B⟨Io,hV,hB,rfl,bU⟩;refine aU _ _ hV hB (rc 5 aa ?_);refine ay aa ?_ ?_<;>intro g7
 ·refine rc 6 aa ?_;obtain⟨OO,hx8_0,WV,US,aka,ahI,x8_3,hx8_3,x8_4,hx8_4,x8_5,ais,iG⟩:=qI Io qy;refine aw (aH aa aa po ae iG aa ?_);refine aN 11 aa (aQ aa oy ?_);refine ro 2 aa ?_;refine ay aa ?_ ?_<;>intro g9
  ·exfalso;have:=(by assumption:kg _ _ _).1;omega
  refine rc 10 aa ?_;obtain⟨nH,pj,pz,xC,DO,xD,ahU,hx10_3,x10_4,hx10_4,x10_5,⟨wx10_5,I,hnx10_5,adS⟩,gg⟩:=qI Io nA;refine aw (aH aa aa oy ae gg aa ?_);refine ro 7 aa ?_;obtain⟨Z,TX,hnx8_5,hrx8_5,Me⟩:=Ty.bC ais;have Fg:=pruned_at hfy6_0 iG gg TX I;refine iD 2 aa (aQ aa TX ?_);refine ro 3 aa (bj [59,58,50,42,41,40,39,36,13,11,10,9,8,7,6,3,2,1,0] [11,8,7,3] aa aa (fun e0 b0 k VE B=>∃L A,an ((12,.d (dJ L))::(60,.d (dJ A))::e0) VE∧an b0 B∧k=((Z.length:Int) -A).toNat∧(0≤L∧L≤A)∧(0≤A∧(A≤(Z.length:Int)∨A=0))∧(gq L A Z (hY z2 G))) ?_ fin);rintro _ VE B⟨L,A,hV,hB,rfl,fu,gL,OL⟩;refine aU _ _ hV hB (rc 5 aa ?_);refine ay aa ?_ ?_<;>intro lN
  ·refine rc 5 aa ?_;obtain⟨pC,lU,rZ,vf,M5,As,x12_3,L0,_,⟨agt,rfl,hzx12_4,kzx12_4⟩,_,⟨agu,rfl,hzx12_5,kzx12_5⟩,gr⟩:=qI A hrx8_5;refine aw (aH aa aa TX ae gr aa ?_);refine ro 9 aa (aV (aQ aa I ?_));refine rq 2 aa ?_;refine dL aa ?_ ?_<;>intro sT
   ·refine rq 2 aa ?_;obtain⟨_,⟨C5,rfl,Gb,Gc⟩,M4,S7,Ih,Da,x14_3,afU,x14_4,afV,x14_5,afW,gX⟩:=qI L adS;refine cl aa aa (aH aa aa I ae gX aa ?_);refine rq 4 aa ?_;obtain⟨afv,rfl,acK,acL⟩:=Ty.dY lU;refine rp 3 aa ?_;refine ay aa ?_ ?_<;>intro uy
    ·refine rc 3 aa ?_;have kp:=gq.isT dC Fg Me gr gX (by simp only[gv];omega);refine aw (bx aa aa ae ae ?_);refine aN 4 aa (bx aa aa ae ae ?_);refine cL 2 aa ?_;exact⟨((Z.length:Int) -((A+1))).toNat,ae,(L+1),(A+1),⟨rfl,rfl,rfl,rfl,rfl,rfl,rfl,rfl,rfl,rfl,rfl,rfl,rfl,rfl,rfl,rfl,rfl,rfl,rfl,rfl,rfl,trivial⟩,⟨rfl,rfl,rfl,rfl,trivial⟩,rfl,ae,ae,(by first|exact Sv|exact gq.T (by assumption) ae (by assumption) (by assumption)|exact gq.F (by assumption) ae (by assumption) (by assumption)|assumption)⟩
    refine rc 5 aa ?_;have kp:=gq.isF dC Fg gr (fun u hu=>by intro e;have e2:=hu.symm.trans gX;cases e2;simp only[gv] at e;omega);have hz:=ji.at Me gr;refine aw (aB aa (Rt (aJ:=dD) (aT:=z2) (jj:=agt) (eD:=agu) F ae ae bZ bZ ae ae Y ae tA bZ ak bZ As L0 ae ae ae ae ae) ?_);rintro _ _⟨HR,rfl,ae3⟩;refine ro 1 aa ?_;refine cE aa ?_ ?_<;>intro o6
    ·have k17:=ae3 o6;exfalso;exact Bool.false_ne_true (kp.symm.trans (Dy rfl rfl dC))
    refine aA 2 aa (bx aa aa ae ae ?_);refine cL 2 aa ?_;exact⟨((Z.length:Int) -((A+1))).toNat,ae,L,(A+1),⟨rfl,rfl,rfl,rfl,rfl,rfl,rfl,rfl,rfl,rfl,rfl,rfl,rfl,rfl,rfl,rfl,rfl,rfl,rfl,rfl,rfl,trivial⟩,⟨rfl,rfl,rfl,rfl,trivial⟩,rfl,ae,ae,(by first|exact Sv|exact gq.T (by assumption) ae (by assumption) (by assumption)|exact gq.F (by assumption) ae (by assumption) (by assumption)|assumption)⟩
   refine rq 10 aa (dq aa aa (rc 5 aa ?_));have kp:=gq.isF dC Fg gr (fun u hu=>by exfalso;have:=(List.getElem?_eq_some_iff.1 hu).1;omega);have hz:=ji.at Me gr;refine aw (aB aa (Rt (aJ:=dD) (aT:=z2) (jj:=agt) (eD:=agu) F ae ae bZ bZ ae ae Y ae tA bZ lU bZ As L0 ae ae ae ae ae) ?_);rintro _ _⟨U',rfl,hy18_0⟩;refine ro 1 aa ?_;refine cE aa ?_ ?_<;>intro h19
   ·have k19:=hy18_0 h19;exfalso;exact Bool.false_ne_true (kp.symm.trans (Dy rfl rfl dC))
   refine aA 2 aa (bx aa aa ae ae ?_);refine cL 2 aa ?_;exact⟨((Z.length:Int) -((A+1))).toNat,ae,L,(A+1),⟨rfl,rfl,rfl,rfl,rfl,rfl,rfl,rfl,rfl,rfl,rfl,rfl,rfl,rfl,rfl,rfl,rfl,rfl,rfl,rfl,rfl,trivial⟩,⟨rfl,rfl,rfl,rfl,trivial⟩,rfl,ae,ae,(by first|exact Sv|exact gq.T (by assumption) ae (by assumption) (by assumption)|exact gq.F (by assumption) ae (by assumption) (by assumption)|assumption)⟩
  refine aA 6 aa (aQ aa I ?_);refine ro 2 aa ?_;refine ay aa ?_ ?_<;>intro Pw
  ·exfalso;have:=gq.fin dC ae Fg;omega
  refine aA 4 aa (aQ aa I ?_);refine ro 3 aa (bj [89,88,87,61,60,59,58,50,42,41,40,39,36,13,12,11,10,9,8,7,6,3,2,1,0] [11,8,7,3] aa aa (fun e0 b0 k VE B=>∃Nk,an ((90,.d (dJ Nk))::e0) VE∧an b0 B∧d9 k 0 Nk (wx10_5.length:Int)) ?_ fin);rintro _ VE B⟨Nk,hV,hB,rfl,na⟩;refine aU _ _ hV hB (rc 5 aa ?_);refine ay aa ?_ ?_<;>intro E5
  ·refine rc 5 aa ?_;obtain⟨lY,ox,lZ,rR,x22_2,afw,x22_3,afx,_,⟨M,rfl,hzx22_4,kzx22_4⟩,_,⟨O,rfl,hzx22_5,kzx22_5⟩,pU⟩:=qI Nk adS;refine aw (aH aa aa I ae pU aa ?_);refine ro 11 aa ?_;have hz:=ji.at (ji.of Me Fg) pU;have hk:=keep_of Fg pU rfl rfl;refine iD 2 aa (aQ aa Y ?_);refine ro 3 aa ?_;refine bj [96,95,91,90,89,88,87,61,60,59,58,50,42,41,40,39,36,17,13,12,11,10,9,8,7,6,3,2,1,0] [17,11,8,7,3] rfl rfl (fun e0 b0 k VE B=>∃U z,an ((18,dB U)::(97,.d (dJ z))::e0) VE∧an b0 B∧k=((G.length:Int) -z).toNat∧(0≤z∧(z≤(G.length:Int)∨z=0))∧((U=false→oa z G M O))) ?_ (k:=((G.length:Int) -0).toNat) ⟨false,0,⟨rfl,rfl,rfl,rfl,rfl,rfl,rfl,rfl,rfl,rfl,rfl,rfl,rfl,rfl,rfl,rfl,rfl,rfl,rfl,rfl,rfl,rfl,rfl,rfl,rfl,rfl,rfl,rfl,rfl,rfl,rfl,rfl,trivial⟩,⟨rfl,rfl,rfl,rfl,rfl,trivial⟩,rfl,ae,(by first|exact fun _=>UE|exact fun h=>absurd h ao|(intro h;exact oa.step ((by assumption:(U=false→oa z G M O)) (by assumption)) ae (by assumption) rfl rfl (by first|omega|(simp at h;omega)))|assumption)⟩;rintro _ VE B⟨U,z,hV,hB,rfl,Ep,akT⟩;refine aU _ _ hV hB (rc 5 aa ?_);refine ay aa ?_ ?_<;>intro Px
   ·refine rc 5 aa ?_;obtain⟨_,⟨zx24_0,rfl,hzx24_0,kzx24_0⟩,_,⟨zx24_1,rfl,hzx24_1,kzx24_1⟩,_,⟨zx24_2,rfl,hzx24_2,kzx24_2⟩,I6⟩:=qI z tA;refine aw (aH aa aa Y ae I6 aa ?_);refine ro 5 aa ?_;skip;refine rp 2 aa ?_;refine br aa ?_ ?_<;>intro Py
    ·refine ro 8 aa (fS aa (fS aa (fS aa (fS aa (fS aa (fS aa (fS aa (aN 5 aa (bx aa aa ae ae ?_)))))))));exact cL 2 aa (⟨_,me fin ae⟩)
    refine ro 8 aa ?_;refine br aa ?_ ?_<;>intro YO
    ·refine aN 12 aa (bx aa aa ae ae ?_);refine cL 2 aa ?_;exact⟨((G.length:Int) -((z+1))).toNat,ae,(decide (M<zx24_2)),(z+1),⟨rfl,rfl,rfl,rfl,rfl,rfl,rfl,rfl,rfl,rfl,rfl,rfl,rfl,rfl,rfl,rfl,rfl,rfl,rfl,rfl,rfl,rfl,rfl,rfl,rfl,rfl,rfl,rfl,rfl,rfl,rfl,rfl,trivial⟩,⟨rfl,rfl,rfl,rfl,rfl,trivial⟩,rfl,ae,(by first|exact fun _=>UE|exact fun h=>absurd h ao|(intro h;exact oa.step ((by assumption:(U=false→oa z G M O)) (by assumption)) ae (by assumption) rfl rfl (by first|omega|(simp at h;omega)))|assumption)⟩
    refine aN 12 aa (bx aa aa ae ae ?_);refine cL 2 aa ?_;exact⟨((G.length:Int) -((z+1))).toNat,ae,false,(z+1),⟨rfl,rfl,rfl,rfl,rfl,rfl,rfl,rfl,rfl,rfl,rfl,rfl,rfl,rfl,rfl,rfl,rfl,rfl,rfl,rfl,rfl,rfl,rfl,rfl,rfl,rfl,rfl,rfl,rfl,rfl,rfl,rfl,trivial⟩,⟨rfl,rfl,rfl,rfl,rfl,trivial⟩,rfl,ae,(by first|exact fun _=>UE|exact fun h=>absurd h ao|(intro h;exact oa.step ((by assumption:(U=false→oa z G M O)) (by assumption)) ae (by assumption) rfl rfl (by first|omega|(simp at h;omega)))|assumption)⟩
   refine aA 5 aa (aB aa (Rt (aJ:=dD) (aT:=z2) (jj:=M) (eD:=O) F ae ae bZ bZ ae ae Y ae tA bZ ox bZ afw afx ae ae ae ae ae) ?_);rintro _ _⟨ah4,rfl,afS⟩;refine ro 2 aa ?_;refine br aa ?_ ?_<;>intro h28
   ·refine ro 4 aa ?_;refine br aa ?_ ?_<;>intro h29
    ·refine ro 8 aa ?_;refine ay aa ?_ ?_<;>intro g30
     ·exfalso;exact oa.fin ((by assumption:(U=false→oa z G M O)) (by simp_all)) ae hk ae
     refine aA 2 aa (bx aa aa ae ae ?_);exact cL 2 aa (⟨_,me fin ae⟩)
    refine ro 8 aa (dq aa aa (aA 2 aa (bx aa aa ae ae ?_)));exact cL 2 aa (⟨_,me fin ae⟩)
   have k28:=afS (by simpa using h28);refine ro 12 aa (dq aa aa (aA 2 aa (bx aa aa ae ae ?_)));exact cL 2 aa (⟨_,me fin ae⟩)
  refine aA 2 aa (bx aa aa ae ae ?_);exact cL 2 aa (⟨_,me fin ae⟩)
 refine rc 3 aa (aP aa (aB aa (hA2 F) ?_));rintro _ _ rfl;refine rq 4 aa (cl aa aa (fm aa ao ae ae ?_));refine rq 2 aa (cl aa aa (bx aa aa ae ae ?_));refine cl aa aa (aco aa aa ae ae (fun z32 ez32 hz32 kz32=>?_));refine rqx 5 aa ?_;exact bL rfl rfl ⟨decide (z2=z32),rfl,(by first|rfl|(simp only[eW];omega))⟩
end Go.Ev.Rp
namespace Go.Ev.Rp
open Go Go.Ev.Pp
theorem lawRemoves{T:aM}(F:FT T)(hA:Sound T 7 [] fun r=>r=dB true)(L:zh T){aJ:Int}(M:0≤aJ)(O:aJ≤65535){aS:Int}(U:0≤aS)(Y:aS≤65535){bz:Int}(Z:0≤bz)(nh:bz≤65535){aT:Int}(fV:0≤aT)(fW:aT≤65535){bA:Int}(mC:0≤bA)(mD:bA≤65535){cg:Int}(rl:0≤cg)(rm:cg≤65535){bu:Int}(kr:0≤bu)(ku:bu≤65535){bT:Int}(oZ:0≤bT)(o0:bT≤65535){a8:DC}{z:ai}(A:au z a8)(G:z.length≤9223372036854775807)(I:af Pf z){fQ:Int}(PM:0≤fQ)(PN:fQ≤65535):Sound T 3 [.agg [dU aJ,dU aS,dU bz,dU aT,dU bA,dU cg,dU bu,dU bT],.d a8,dU fQ] fun r=>r=dB true:=
 (removesX F M O U Y Z nh fV fW mC mD rl rm kr ku oZ o0 A G I PM PN hA L).mono fun r h=>by obtain⟨y,rfl,rfl⟩:=h;rfl
end Go.Ev.Rp
namespace Go.Ev.Rp
open Go Go.Ev.Pp
theorem tx_0(el:Nat→Nat):ck el (tl 0 0 0 0 0)=true:=by kernel_rfl
theorem tx_1(el:Nat→Nat):ck el (tl 0 0 0 1 0)=true:=by kernel_rfl
theorem tx_2(el:Nat→Nat):ck el (tl 1 0 0 0 0)=true:=by kernel_rfl
theorem tx_3(el:Nat→Nat):ck el (tl 1 0 0 1 0)=true:=by kernel_rfl
theorem tx_4(el:Nat→Nat):ck el (tl 1 0 1 0 0)=true:=by kernel_rfl
theorem tx_5(el:Nat→Nat):ck el (tl 1 0 1 1 0)=true:=by kernel_rfl
theorem tx_6(el:Nat→Nat):ck el (tl 1 0 2 0 0)=true:=by kernel_rfl
theorem tx_7(el:Nat→Nat):ck el (tl 1 0 2 1 0)=true:=by kernel_rfl
theorem tx_8(el:Nat→Nat):ck el (tl 1 1 0 0 0)=true:=by kernel_rfl
theorem tx_9(el:Nat→Nat):ck el (tl 1 1 0 1 0)=true:=by kernel_rfl
theorem tx_10(el:Nat→Nat):ck el (tl 1 1 1 0 0)=true:=by kernel_rfl
theorem tx_11(el:Nat→Nat):ck el (tl 1 1 1 1 0)=true:=by kernel_rfl
theorem tx_12(el:Nat→Nat):ck el (tl 1 1 2 0 0)=true:=by kernel_rfl
theorem tx_13(el:Nat→Nat):ck el (tl 1 1 2 1 0)=true:=by kernel_rfl
theorem tx_14(el:Nat→Nat):ck el (tl 1 2 0 0 0)=true:=by kernel_rfl
end Go.Ev.Rp
namespace Go.Ev.Rp
open Go Go.Ev.Pp
theorem tx_15(el:Nat→Nat):ck el (tl 1 2 0 1 0)=true:=by kernel_rfl
theorem tx_16(el:Nat→Nat):ck el (tl 1 2 1 0 0)=true:=by kernel_rfl
theorem tx_17(el:Nat→Nat):ck el (tl 1 2 1 1 0)=true:=by kernel_rfl
theorem tx_18(el:Nat→Nat):ck el (tl 1 2 2 0 0)=true:=by kernel_rfl
theorem tx_19(el:Nat→Nat):ck el (tl 1 2 2 1 0)=true:=by kernel_rfl
theorem tx_20(el:Nat→Nat):ck el (tl 1 3 0 0 0)=true:=by kernel_rfl
theorem tx_21(el:Nat→Nat):ck el (tl 1 3 0 1 0)=true:=by kernel_rfl
theorem tx_22(el:Nat→Nat):ck el (tl 1 3 1 0 0)=true:=by kernel_rfl
theorem tx_23(el:Nat→Nat):ck el (tl 1 3 1 1 0)=true:=by kernel_rfl
theorem tx_24(el:Nat→Nat):ck el (tl 1 3 2 0 0)=true:=by kernel_rfl
theorem tx_25(el:Nat→Nat):ck el (tl 1 3 2 1 0)=true:=by kernel_rfl
theorem tx_26(el:Nat→Nat):ck el (tl 2 0 0 0 0)=true:=by kernel_rfl
theorem tx_27(el:Nat→Nat):ck el (tl 2 0 0 1 0)=true:=by kernel_rfl
theorem tx_28(el:Nat→Nat):ck el (tl 2 1 0 0 0)=true:=by kernel_rfl
theorem tx_29(el:Nat→Nat):ck el (tl 2 1 0 1 0)=true:=by kernel_rfl
end Go.Ev.Rp
namespace Go.Ev.Rp
open Go Go.Ev.Pp
theorem tx_30(el:Nat→Nat):ck el (tl 2 2 0 0 0)=true:=by kernel_rfl
theorem tx_31(el:Nat→Nat):ck el (tl 2 2 0 1 0)=true:=by kernel_rfl
theorem tx_32(el:Nat→Nat):ck el (tl 2 3 0 0 0)=true:=by kernel_rfl
theorem tx_33(el:Nat→Nat):ck el (tl 2 3 0 1 0)=true:=by kernel_rfl
theorem tx_34(el:Nat→Nat):ck el (tl 3 0 0 0 0)=true:=by kernel_rfl
theorem tx_35(el:Nat→Nat):ck el (tl 3 0 0 1 0)=true:=by kernel_rfl
theorem tx_36(el:Nat→Nat):ck el (tl 4 0 0 0 0)=true:=by kernel_rfl
theorem tx_37(el:Nat→Nat):ck el (tl 4 0 0 1 0)=true:=by kernel_rfl
theorem tx_38(el:Nat→Nat):ck el (tl 5 0 0 0 0)=true:=by kernel_rfl
theorem tx_39(el:Nat→Nat):ck el (tl 5 0 0 1 0)=true:=by kernel_rfl
theorem tx_40(el:Nat→Nat):ck el (tl 5 1 0 0 0)=true:=by kernel_rfl
theorem tx_41(el:Nat→Nat):ck el (tl 5 1 0 1 0)=true:=by kernel_rfl
theorem tx_42(el:Nat→Nat):ck el (tl 5 2 0 0 0)=true:=by kernel_rfl
theorem tx_43(el:Nat→Nat):ck el (tl 5 2 0 1 0)=true:=by kernel_rfl
theorem tx_44(el:Nat→Nat):ck el (tl 5 3 0 0 0)=true:=by kernel_rfl
end Go.Ev.Rp
namespace Go.Ev.Rp
open Go Go.Ev.Pp
theorem tx_45(el:Nat→Nat):ck el (tl 5 3 0 1 0)=true:=by kernel_rfl
theorem tx_46(el:Nat→Nat):ck el (tl 6 0 0 0 0)=true:=by kernel_rfl
theorem tx_47(el:Nat→Nat):ck el (tl 7 0 0 0 0)=true:=by kernel_rfl
theorem tx_48(el:Nat→Nat):ck el (tl 7 0 0 0 1)=true:=by kernel_rfl
theorem tx_49(el:Nat→Nat):ck el (tl 7 0 0 1 0)=true:=by kernel_rfl
theorem tx_50(el:Nat→Nat):ck el (tl 7 0 0 1 1)=true:=by kernel_rfl
theorem tx_51(el:Nat→Nat):ck el (tl 8 0 0 0 0)=true:=by kernel_rfl
theorem tx_52(el:Nat→Nat):ck el (tl 8 0 0 0 1)=true:=by kernel_rfl
theorem tx_53(el:Nat→Nat):ck el (tl 8 0 0 1 0)=true:=by kernel_rfl
theorem tx_54(el:Nat→Nat):ck el (tl 8 0 0 1 1)=true:=by kernel_rfl
theorem tx_55(el:Nat→Nat):ck el (tl 9 0 0 0 0)=true:=by kernel_rfl
theorem tx_56(el:Nat→Nat):ck el (tl 9 0 0 0 1)=true:=by kernel_rfl
theorem tx_57(el:Nat→Nat):ck el (tl 9 0 0 1 0)=true:=by kernel_rfl
theorem tx_58(el:Nat→Nat):ck el (tl 9 0 0 1 1)=true:=by kernel_rfl
theorem tx_59(el:Nat→Nat):ck el (tl 10 0 0 0 0)=true:=by kernel_rfl
end Go.Ev.Rp
namespace Go.Ev.Rp
open Go Go.Ev.Pp
theorem tx_60(el:Nat→Nat):ck el (tl 10 0 0 0 1)=true:=by kernel_rfl
theorem tx_61(el:Nat→Nat):ck el (tl 10 0 0 1 0)=true:=by kernel_rfl
theorem tx_62(el:Nat→Nat):ck el (tl 10 0 0 1 1)=true:=by kernel_rfl
theorem tx_63(el:Nat→Nat):ck el (tl 11 0 0 0 0)=true:=by kernel_rfl
theorem tx_64(el:Nat→Nat):ck el (tl 11 0 0 1 0)=true:=by kernel_rfl
theorem tx_65(el:Nat→Nat):ck el (tl 12 0 0 0 0)=true:=by kernel_rfl
theorem tx_66(el:Nat→Nat):ck el (tl 12 0 0 1 0)=true:=by kernel_rfl
theorem tx_67(el:Nat→Nat):ck el (tl 13 0 0 0 0)=true:=by kernel_rfl
theorem tx_68(el:Nat→Nat):ck el (tl 13 0 0 1 0)=true:=by kernel_rfl
theorem tx_69(el:Nat→Nat):ck el (tl 14 0 0 0 0)=true:=by kernel_rfl
theorem tx_70(el:Nat→Nat):ck el (tl 14 0 0 0 1)=true:=by kernel_rfl
theorem tx_71(el:Nat→Nat):ck el (tl 14 0 0 1 0)=true:=by kernel_rfl
theorem tx_72(el:Nat→Nat):ck el (tl 14 0 0 1 1)=true:=by kernel_rfl
theorem tx_73(el:Nat→Nat):ck el (tl 14 1 0 0 0)=true:=by kernel_rfl
theorem tx_74(el:Nat→Nat):ck el (tl 14 1 0 0 1)=true:=by kernel_rfl
end Go.Ev.Rp
namespace Go.Ev.Rp
open Go Go.Ev.Pp
theorem tx_75(el:Nat→Nat):ck el (tl 14 1 0 1 0)=true:=by kernel_rfl
theorem tx_76(el:Nat→Nat):ck el (tl 14 1 0 1 1)=true:=by kernel_rfl
theorem tx_77(el:Nat→Nat):ck el (tl 14 2 0 0 0)=true:=by kernel_rfl
theorem tx_78(el:Nat→Nat):ck el (tl 14 2 0 0 1)=true:=by kernel_rfl
theorem tx_79(el:Nat→Nat):ck el (tl 14 2 0 1 0)=true:=by kernel_rfl
theorem tx_80(el:Nat→Nat):ck el (tl 14 2 0 1 1)=true:=by kernel_rfl
theorem tx_81(el:Nat→Nat):ck el (tl 14 3 0 0 0)=true:=by kernel_rfl
theorem tx_82(el:Nat→Nat):ck el (tl 14 3 0 0 1)=true:=by kernel_rfl
theorem tx_83(el:Nat→Nat):ck el (tl 14 3 0 1 0)=true:=by kernel_rfl
theorem tx_84(el:Nat→Nat):ck el (tl 14 3 0 1 1)=true:=by kernel_rfl
theorem tx_e(el:Nat→Nat):ck el []=true:=by kernel_rfl
end Go.Ev.Rp
