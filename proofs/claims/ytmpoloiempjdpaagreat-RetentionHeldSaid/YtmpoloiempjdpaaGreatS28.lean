/- Part 28 of rules for walks through the code of a program, and of such walks; what each part proves is said by its theorems. -/
import Derived.Test.YtmpoloiempjdpaaGreatS13
import Derived.Test.YtmpoloiempjdpaaGreatS14
import Derived.Test.YtmpoloiempjdpaaGreatS15
import Derived.Test.YtmpoloiempjdpaaGreatS16
import Derived.Test.YtmpoloiempjdpaaGreatS17
import Derived.Test.YtmpoloiempjdpaaGreatS18
import Derived.Test.YtmpoloiempjdpaaGreatS19
import Derived.Test.YtmpoloiempjdpaaGreatS22
import Derived.Test.YtmpoloiempjdpaaGreatS23
import Derived.Test.YtmpoloiempjdpaaGreatS27
set_option linter.unusedVariables false
set_option linter.unusedSimpArgs false
noncomputable section
set_option maxRecDepth 100000
set_option maxHeartbeats 4000000
namespace Go.Ev.Rp
open Go Go.Ev.Pp
attribute [local irreducible] VC VO VQ VI Sound bW
theorem ApplyX{T:aL}(F:FT T){nv:Nat}{a1 a2 a4 a5 a6 a7 a8 a9 jt pg ph tu tv tw:DC}{aI:Int}(jL:0≤aI)(jf:aI≤30)(bX:tJ.ok a1){bz:ah}(uy:0≤bz.length)(jX:bz=[]→a2= .nil)(A:au bz a2)(cY:bz.length≤16)(G:af (d8 nv 4096) bz){aZ:Int}(ij:0≤aZ)(ik:aZ≤aI){Y:ah}(EJ:0≤Y.length)(I:Y=[]→a4= .nil)(L:au Y a4)(e9:Y.length≤12)(M:af iW Y){z:ah}(hma5:0≤z.length)(Z:z=[]→a5= .nil)(O:au z a5)(lS:z.length≤12)(U:af jE z)(fC:(Ty.i .i64 1 5).ok a6)(gn:tJ.ok a7)(gp:(Ty.l 2 [tJ,.s 1000,.l 1000000000 cB,tJ,tJ,.l 100 ey,tJ,.l 10 fg,.s 1000,.l 100 dX,.l 200 bn,.l 4 ew,.l 4 dW,tJ,.s 1000,tJ]).ok a8)(il:tJ.ok a9)(nk:tJ.ok jt)(qb:tJ.ok pg)(wH:(Ty.q (Ja T)).ok ph)(yO:(Ty.i .i64 0 4).ok tu)(B8:tJ.ok tv)(B9:tJ.ok tw)(jY:nv≤97)(PL:1≤nv):Sound T 25 [.agg [.d (dJ aI),.d a1,.d a2,.d (dJ aZ),.d a4,.d a5],.agg [.d a6,.d a7,.d a8,.d a9,.d jt,.d pg,.d ph,.d tu,.d tv,.d tw]] fun r=>∃y0 y1 y2 dH y4 y5 nA y7 xh y9,r= .tuple [.agg [.d (dJ y0),.d y1,.d y2,.d (dJ y4),.d y5,.d y7],.d (dJ y9)]∧(0≤y0∧y0≤40∧(True))∧tJ.ok y1∧au dH y2∧(dH.length:Int)≤16∧af (d8 (nv+2) 4096) dH∧0≤(dH.length:Int)∧(dH=[]→y2= .nil)∧(0≤y4∧y4≤40∧(True))∧au nA y5∧(nA.length:Int)≤Y.length+1∧af iW nA∧0≤(nA.length:Int)∧(nA=[]→y5= .nil)∧au xh y7∧(xh.length:Int)≤z.length+1∧af jE xh∧0≤(xh.length:Int)∧(xh=[]→y7= .nil)∧((-9223372036854775808)≤y9∧y9≤9223372036854775807∧(y9=0→y4≤y0∧y0≤aI+1)):=by
 refine bk F.q25 aa ?_;rcases bX,fC,gn,gp,il,nk,qb,Ty.bT wH,yO,B8,B9 with⟨⟨aN,rfl,eD,eo⟩,⟨bE,rfl,o0,o4⟩,⟨ca,rfl,sT,sU⟩,⟨zH,lC,sK,lQ⟩,⟨hZ,rfl,BI,BJ⟩,⟨Pc,rfl,Ni,Nj⟩,⟨fh,rfl,U0,U1⟩,⟨sta12,rfl,hTa12⟩,⟨za13,rfl,hza13,kza13⟩,⟨za14,rfl,hza14,kza14⟩,⟨za15,rfl,hza15,kza15⟩⟩
 refine r0 19 aa ?_;refine ay aa ?_ ?_<;>intro g1
 ·refine aB 5 aa (aA aa (CommitN (aI:=aI) (nv:=nv) (P3:=Ty.i .i64 0 aI) (P4:=Ty.q (pT iW 0 Y.length)) (P5:=Ty.q (pT jE 0 z.length)) F ae ae al ae jX A ae G al (bT ⟨_,L,ae,ae,M,I⟩) (bT ⟨_,O,ae,ae,U,Z⟩) lC ae lQ ae ae al (bT ⟨[],.inr ⟨aa,aa⟩,ae,ae,cj,fun _=>aa⟩) (bT ⟨[],.inr ⟨aa,aa⟩,ae,ae,cj,fun _=>aa⟩)) ?_);rintro _ _⟨n6,uz,OW,ah7,_,wK,y2_6,y2_7,rfl,Ic,ag5,agh,agi,hry2_2,hmy2_2,hey2_2,⟨zy2_4,rfl,hzy2_4,kzy2_4⟩,yu,hy2_6,hy2_7⟩;refine ro 6 aa ?_;rcases Ty.bT yu,Ty.bT hy2_6 with⟨⟨U4,Tx,hly2_5,Tz,TA,hzy2_5⟩,⟨wy2_6,hdy2_6,hly2_6,hny2_6,hry2_6,hzy2_6⟩⟩
  exact bN aa aa fin
 refine rc 5 aa ?_;refine ay aa ?_ ?_<;>intro g3
 ·refine rc 5 aa ?_;obtain⟨X,hX,hrX⟩:=tabX_of G ae ae ae;skip;refine aq (aA aa (CiteX (aI:=aI) (aZ:=aZ) (bE:=hZ) (X:=X) (P2:=tTL nv) F ae ae al A ae hrX ae ae ae I L ae M O ae U ae ae al al hTa12 hX (bT ⟨_,A,ae,ae,G,jX⟩) (bT ⟨[],.inr ⟨aa,aa⟩,ae,ae,cj,fun _=>aa⟩)) ?_);rintro _ _⟨gk,sR,uA,Wm,Cc,wy4_4,JL,wy4_6,y4_8,y4_9,y4_10,y4_11,y4_12,y4_13,y4_14,rfl,t8,vL,UJ,hy4_3,hdy4_4,hny4_4,hry4_4,hmy4_4,hey4_4,hdy4_6,hny4_6,hry4_6,hmy4_6,hey4_6,hy4_8,hy4_9,hy4_10,hy4_11,hy4_12,hy4_13,hy4_14⟩;refine ro 18 aa ?_;obtain⟨Bl,AL,hly4_2,TJ,AM,hzy4_2⟩:=Ty.bT UJ;exact bN aa aa ⟨gk,sR,uA,Bl,Wm,Cc,wy4_4,JL,wy4_6,y4_14,aa,⟨ae,ae,trivial⟩,vL,AL,ae,(pj AM ae ae),ae,hzy4_2,⟨ae,ae,trivial⟩,hdy4_4,ae,hry4_4,ae,hey4_4,hdy4_6,ae,hry4_6,ae,hey4_6,⟨ae,ae,ae⟩⟩
 refine rc 5 aa ?_;refine ay aa ?_ ?_<;>intro g5
 ·refine aB 5 aa (aA aa (HoldC (aI:=aI) (aZ:=aZ) (P2:=tTL nv) (P5:=Ty.q (pT jE 0 z.length)) F ae ae al (bT ⟨_,A,ae,ae,G,jX⟩) ae ae ae I L ae M (bT ⟨_,O,ae,ae,U,Z⟩) al al al (bT ⟨[],.inr ⟨aa,aa⟩,ae,ae,cj,fun _=>aa⟩) (bT ⟨[],.inr ⟨aa,aa⟩,ae,ae,cj,fun _=>aa⟩)) ?_);rintro _ _⟨lP,yN,uw,y6_3,y6_4,wy6_4,akG,y6_7,rfl,t6,vK,DZ,hy6_3,hdy6_4,hny6_4,hry6_4,hmy6_4,hey6_4,Vl,hy6_7⟩;refine ro 6 aa ?_;rcases Ty.bT DZ,Ty.bT Vl with⟨⟨ah8,agj,hly6_2,hny6_2,agk,hzy6_2⟩,⟨wy6_6,hdy6_6,hly6_6,hny6_6,hry6_6,hzy6_6⟩⟩
  exact bN aa aa ⟨lP,yN,uw,ah8,y6_3,y6_4,wy6_4,akG,wy6_6,y6_7,aa,⟨ae,ae,trivial⟩,vK,agj,ae,(pj agk ae ae),ae,hzy6_2,⟨ae,ae,trivial⟩,hdy6_4,ae,hry6_4,ae,hey6_4,hdy6_6,ae,hry6_6,ae,hzy6_6,⟨ae,ae,ae⟩⟩
 refine rc 5 aa ?_;refine ay aa ?_ ?_<;>intro g7
 ·refine aB 5 aa (aA aa (ReleaseY (aI:=aI) (aZ:=aZ) (nv:=nv) (mv:=4096) (P5:=Ty.q (pT jE 0 z.length)) F ae ae al A ae G ae ae ae I L ae M (bT ⟨_,O,ae,ae,U,Z⟩) al ae ae (bT ⟨[],.inr ⟨aa,aa⟩,ae,ae,cj,fun _=>aa⟩)) ?_);rintro _ _⟨sQ,JK,akm,wy8_2,y8_4,akk,wy8_5,y8_7,y8_8,rfl,Bd,hy8_1,hdy8_2,hny8_2,hry8_2,hmy8_2,hey8_2,hy8_4,hdy8_5,hny8_5,hry8_5,hmy8_5,hey8_5,hy8_7,hy8_8⟩;refine ro 6 aa ?_;obtain⟨wy8_7,hdy8_7,hly8_7,hny8_7,hry8_7,hzy8_7⟩:=Ty.bT hy8_7;exact bN aa aa ⟨sQ,JK,akm,wy8_2,y8_4,akk,wy8_5,y8_7,wy8_7,y8_8,aa,⟨ae,ae,trivial⟩,hy8_1,hdy8_2,ae,(pj hry8_2 ae ae),ae,hey8_2,⟨ae,ae,trivial⟩,hdy8_5,ae,hry8_5,ae,hey8_5,hdy8_7,ae,hry8_7,ae,hzy8_7,⟨ae,ae,ae⟩⟩
 refine rc 5 aa ?_;refine ay aa ?_ ?_<;>intro g9
 ·refine aB 5 aa (aA aa (ForgetY (aI:=aI) (aZ:=aZ) (nv:=nv) (mv:=4096) (P5:=Ty.q (pT jE 0 z.length)) F ae ae al A ae G ae ae ae I L ae M (bT ⟨_,O,ae,ae,U,Z⟩) al ae ae (bT ⟨[],.inr ⟨aa,aa⟩,ae,ae,cj,fun _=>aa⟩)) ?_);rintro _ _⟨nO,A7,DM,afq,M1,M3,aeH,y10_7,y10_8,rfl,Av,SJ,R5,hny10_2,R6,hmy10_2,hey10_2,afC,RW,hny10_5,RX,hmy10_5,hey10_5,hy10_7,hy10_8⟩;refine ro 6 aa ?_;obtain⟨wy10_7,hdy10_7,hly10_7,hny10_7,hry10_7,hzy10_7⟩:=Ty.bT hy10_7;exact bN aa aa ⟨nO,A7,DM,afq,M1,M3,aeH,y10_7,wy10_7,y10_8,aa,⟨ae,ae,trivial⟩,SJ,R5,ae,(pj R6 ae ae),ae,hey10_2,⟨ae,ae,trivial⟩,RW,ae,RX,ae,hey10_5,hdy10_7,ae,hry10_7,ae,hzy10_7,⟨ae,ae,ae⟩⟩
 exact W
theorem EmptyX{T:aL}(F:FT T):Sound T 16 [] fun r=>∃I Y L z M O A U G,r= .agg [.d (dJ I),.d Y,.d L,.d (dJ M),.d O,.d U]∧(0≤I∧I≤0∧(True))∧tJ.ok Y∧au z L∧(z.length:Int)≤16∧af (d8 1 4096) z∧0≤(z.length:Int)∧(z=[]→L= .nil)∧(0≤M∧M≤0∧(True))∧au A O∧(A.length:Int)≤0∧af iW A∧0≤(A.length:Int)∧(A=[]→O= .nil)∧au G U∧(G.length:Int)≤0∧af jE G∧0≤(G.length:Int)∧(G=[]→U= .nil):=by
 exact bk F.q16 aa (W)
theorem PlayX{T:aL}(F:FT T){a0:DC}{bM:ah}(cJ:au bM a0)(cM:bM.length≤13)(bO:af (MS T) bM):Sound T 12 [.d a0] fun r=>∃y0 y1 y2 dH y4 y5 nA y7 xh,r= .agg [.d (dJ y0),.d y1,.d y2,.d (dJ y4),.d y5,.d y7]∧(0≤y0∧y0≤13∧(True))∧tJ.ok y1∧au dH y2∧(dH.length:Int)≤16∧af (d8 27 4096) dH∧0≤(dH.length:Int)∧(dH=[]→y2= .nil)∧(0≤y4∧y4≤y0∧(True))∧au nA y5∧(nA.length:Int)≤bM.length∧af iW nA∧au xh y7∧(xh.length:Int)≤13∧af jE xh:=by
 refine bk F.q12 aa (bV 6 aa (aA aa (EmptyX F) ?_));rintro _ _⟨dG,yR,wh,Bj,BT,Wk,wy1_5,y1_7,wy1_7,rfl,mh,DO,xP,AI,xQ,hmy1_2,hey1_2,Np,hdy1_5,hny1_5,hry1_5,hmy1_5,hey1_5,hdy1_7,hny1_7,hry1_7,hmy1_7,hey1_7⟩;refine ro 9 aa (bh [3,2,0] [2] aa aa (fun e0 b0 k VE B=>∃z L Z O A M U G Y I,ak ((4,.d (dJ z))::e0) VE∧ak ((3,.one 29 96 [.d (dJ L),.d Z,.d O,.d (dJ M),.d U,.d Y])::b0) B∧k=((bM.length:Int) -z).toNat∧(0≤z∧(z≤(bM.length:Int)∨z=0))∧(0≤L∧L≤z)∧(tJ.ok Z)∧(au A O)∧((A.length:Int)≤16)∧(af (d8 (1+2*z.toNat) 4096) A)∧(A=[]→O= .nil)∧(0≤M∧M≤L)∧(au G U)∧((G.length:Int)≤z)∧(af iW G)∧(G=[]→U= .nil)∧(au I Y)∧((I.length:Int)≤z)∧(af jE I)∧(I=[]→Y= .nil)) ?_ fin);rintro _ VE B⟨z,L,Z,O,A,M,U,G,Y,I,hV,hB,rfl,bU,cN,Sn,Rq,wu,Rr,Rt,akE,Ru,f0_9,Rv,aby,Rw,f0_13,Rx,abz⟩;refine aT _ _ hV hB (aB 5 aa (aR aa cJ ?_));refine ro 2 aa ?_;refine ay aa ?_ ?_<;>intro g2
 ·refine rc 8 aa ?_;obtain⟨p',U9,sM,qZ,BL,rb,aj8,U',aj9,Nq,aka,Nr,x3_6,Va,x3_7,Vb,x3_8,Vc,x3_9,Vd,fL⟩:=qI z bO;refine aU (aH aa aa cJ ae fL aa ?_);refine cE aa aa (ia aa (aV aa) (aV aa) ?_);refine aO aa (aA aa (ApplyX (aI:=L) (aZ:=M) (nv:=1+2*z.toNat) F ae ae Sn ae Rt Rq ae Rr ae ae ae aby Ru ae Rv ae abz Rw ae Rx U9 qZ rb U' Nq Nr Va Vb Vc Vd ae ae) ?_);rintro _ _⟨gk,sR,uA,Bl,Cc,EI,wy4_5,Pl,wy4_7,y4_9,rfl,t8,vL,AL,TJ,AM,afB,G',Ny,hdy4_5,hny4_5,hry4_5,hmy4_5,hey4_5,hdy4_7,hny4_7,hry4_7,hmy4_7,hey4_7,hy4_9⟩;refine rq 12 aa ?_;refine ay aa ?_ ?_<;>intro g5
  ·refine aB 6 aa (bB aa aa ae ae ?_);exact dC 2 aa (⟨((bM.length:Int) -((z+1))).toNat,ae,(z+1),gk,sR,uA,Bl,Cc,EI,wy4_5,Pl,wy4_7,⟨aa,aa,aa,aa,trivial⟩,⟨aa,aa,trivial⟩,aa,ae,ae,vL,AL,ae,(pj AM ae ae),G',ae,hdy4_5,ae,hry4_5,hey4_5,hdy4_7,ae,hry4_7,hey4_7⟩)
  refine aB 3 aa (bB aa aa ae ae ?_);exact dC 2 aa (⟨((bM.length:Int) -((z+1))).toNat,ae,(z+1),L,Z,O,A,M,U,G,Y,I,⟨aa,aa,aa,aa,trivial⟩,⟨aa,aa,trivial⟩,aa,ae,ae,Sn,Rq,ae,(pj Rr ae ae),Rt,ae,Ru,ae,Rv,aby,Rw,ae,Rx,abz⟩)
 exact fE 7 aa (bN aa aa ⟨L,Z,O,A,M,U,G,Y,I,aa,⟨ae,ae,trivial⟩,Sn,Rq,ae,(pj Rr ae ae),ae,Rt,⟨ae,ae,trivial⟩,Ru,ae,Rv,Rw,ae,Rx⟩)
end Go.Ev.Rp
namespace Go.Ev.Rp
open Go Go.Ev.Pp
attribute [local irreducible] VC VO VQ VI Sound bW
theorem CommandsX{T:aL}(F:FT T){a8:DC}{aI:Int}(jL:0≤aI)(jf:aI≤65535){aN:Int}(jJ:0≤aN)(jK:aN≤65535){bo:Int}(nz:0≤bo)(mI:bo≤65535){aZ:Int}(ij:0≤aZ)(ik:aZ≤65535){bF:Int}(oo:0≤bF)(oq:bF≤65535){cm:Int}(tb:0≤cm)(tc:cm≤65535){bE:Int}(ot:0≤bE)(ou:bE≤65535){ca:Int}(qf:0≤ca)(qg:ca≤65535){I:ah}(lC:au I a8)(sK:I.length≤9223372036854775807)(lQ:af XT I){hZ:Int}(la9:0≤hZ)(ua9:hZ≤12)(uN:Cn T):Sound T 13 [.agg [dU aI,dU aN,dU bo,dU aZ,dU bF,dU cm,dU bE,dU ca],.d a8,.d (dJ hZ)] fun r=>∃y0 bt,r= .d y0∧au bt y0∧(bt.length:Int)≤hZ+1∧af (MS T) bt:=by
 refine bk F.q13 aa (r0 8 aa ?_);have hT0:=uN.1;refine aq (aA aa (SetupC (aI:=aI) (aN:=aN) (bo:=bo) (aZ:=aZ) (bF:=bF) (cm:=cm) (bE:=bE) (ca:=ca) F ae ae ae ae ae ae ae ae ae ae ae ae ae ae ae ae) ?_);rintro _ _⟨dG,fq,rfl,gY,jP,fF,nJ⟩;refine ro 10 aa ?_;have rJ:af (MS T) [[(dJ 1),i0,dG,i0,i0,i0,(aw []),i0,i0,i0]]:=(cI (aj al (aj al (aj (aM gY ae fF) (aj al (aj al (aj al (aj (bT ⟨[],rfl,hT0⟩) (aj al (aj al (aj al bm)))))))))) cj);refine bh [6,3,2,1,0] [3] aa aa (fun e0 b0 k VE B=>∃A z,ak ((7,.bs 12 z.length 10)::(8,.d (dJ A))::e0) VE∧ak ((12,.arr 78 104 10 z.length z)::b0) B∧k=((I.length:Int) -A).toNat∧(0≤A∧(A≤(I.length:Int)∨A=0))∧((z.length:Int)≤A+1)∧(af (MS T) z)∧(A≤hZ)) ?_ fin;rintro _ VE B⟨A,z,hV,hB,rfl,bU,cN,hrw0_7_0,lR⟩;refine aT _ _ hV hB (aB 5 aa (aR aa lC ?_));refine ro 2 aa ?_;refine bu aa ?_ ?_<;>intro g3
 ·refine ro 5 aa ?_;refine ay aa ?_ ?_<;>intro g4
  ·refine rc 7 aa ?_;obtain⟨_,⟨t7,rfl,xK,xL⟩,_,⟨DQ,rfl,De,Df⟩,_,⟨NB,rfl,aei,aej⟩,_,⟨zx5_3,rfl,hzx5_3,kzx5_3⟩,_,⟨zx5_4,rfl,hzx5_4,kzx5_4⟩,_,⟨zx5_5,rfl,hzx5_5,kzx5_5⟩,_,⟨zx5_6,rfl,hzx5_6,kzx5_6⟩,_,⟨zx5_7,rfl,hzx5_7,kzx5_7⟩,_,⟨zx5_8,rfl,hzx5_8,kzx5_8⟩,eW⟩:=qI A lQ;refine aq (aH aa aa lC ae eW aa ?_);refine aP 1 aa (aA aa (CommandX (aI:=t7) (aN:=DQ) (bo:=NB) (aZ:=zx5_3) (bF:=zx5_4) (cm:=zx5_5) (bE:=zx5_6) (ca:=zx5_7) (gS:=zx5_8) F ae ae ae ae ae ae ae ae ae ae ae ae ae ae ae ae ae ae uN) ?_);rintro _ _⟨_,_,uw,_,_,_,akG,_,_,_,rfl,⟨L,rfl,aeI,aeJ⟩,⟨M,rfl,hzy6_1,kzy6_1⟩,⟨ah8,agj,hny6_2,agk⟩,⟨O,rfl,hzy6_3,kzy6_3⟩,⟨U,rfl,hzy6_4,kzy6_4⟩,⟨Y,rfl,hzy6_5,kzy6_5⟩,Vl,⟨Z,rfl,hzy6_7,kzy6_7⟩,⟨ah9,rfl,hzy6_8,kzy6_8⟩,aia,rfl,hzy6_9,kzy6_9⟩;obtain⟨G,rfl,hTy6_6⟩:=Ty.bT Vl;refine aP 1 aa (qC (rows:=z) (ys:=[[(dJ L),(dJ M),uw,(dJ O),(dJ U),(dJ Y),(aw G),(dJ Z),(dJ ah9),(dJ aia)]]) aa aa aa (.bs (rows:=[[(dJ L),(dJ M),uw,(dJ O),(dJ U),(dJ Y),(aw G),(dJ Z),(dJ ah9),(dJ aia)]]) aa) ao ae ?_);exact W
  exact rc 6 aa (kN 6 12 aa aa (fun _=>⟨aa,aa⟩) (W))
 exact ro 5 aa (dn aa aa (rc 6 aa (kN 6 12 aa aa (fun _=>⟨aa,aa⟩) (W))))
theorem DatabaseX{T:aL}(F:FT T){a8:DC}{aI:Int}(jL:0≤aI)(jf:aI≤65535){aN:Int}(jJ:0≤aN)(jK:aN≤65535){bo:Int}(nz:0≤bo)(mI:bo≤65535){aZ:Int}(ij:0≤aZ)(ik:aZ≤65535){bF:Int}(oo:0≤bF)(oq:bF≤65535){cm:Int}(tb:0≤cm)(tc:cm≤65535){bE:Int}(ot:0≤bE)(ou:bE≤65535){ca:Int}(qf:0≤ca)(qg:ca≤65535){I:ah}(O:au I a8)(sK:I.length≤9223372036854775807)(U:af XT I){hZ:Int}(la9:0≤hZ)(ua9:hZ≤12)(uN:Cn T):Sound T 5 [.agg [dU aI,dU aN,dU bo,dU aZ,dU bF,dU cm,dU bE,dU ca],.d a8,.d (dJ hZ)] fun r=>∃Y y1 y2 z y4 y5 L y7 M,r= .agg [.d (dJ Y),.d y1,.d y2,.d (dJ y4),.d y5,.d y7]∧(0≤Y∧Y≤13∧(True))∧tJ.ok y1∧au z y2∧(z.length:Int)≤16∧af (d8 27 4096) z∧0≤(z.length:Int)∧(z=[]→y2= .nil)∧(0≤y4∧y4≤Y∧(True))∧au L y5∧(L.length:Int)≤hZ+1∧af iW L∧au M y7∧(M.length:Int)≤13∧af jE M:=by
 refine bk F.q5 aa (bV 10 aa (aA aa (CommandsX (aI:=aI) (aN:=aN) (bo:=bo) (aZ:=aZ) (bF:=bF) (cm:=cm) (bE:=bE) (ca:=ca) (hZ:=hZ) F ae ae ae ae ae ae ae ae ae ae ae ae ae ae ae ae O ae U ae ae uN) ?_));rintro _ _⟨dG,fq,rfl,A,Z,G⟩;refine aq (aA aa (PlayX F A ae G) ?_);rintro _ _⟨n6,uz,OW,ah7,yZ,wK,U4,y2_7,wy2_7,rfl,Ic,ag5,agh,agi,hry2_2,hmy2_2,hey2_2,hy2_4,Tx,Tz,TA,hdy2_7,hny2_7,hry2_7⟩;exact W
end Go.Ev.Rp
namespace Go.Ev.Rp
open Go Go.Ev.Pp
theorem holdRof{w:ah}(h:af iW w):af ga w:=fun r A=>by
 have k:=h r A;obtain⟨_,_,_,rfl,G,I,L⟩:=okR_n3 k;obtain⟨z,rfl,a,b⟩:=Ty.dV G;exact aj al (aj I (aj L bm))
theorem adN{w:ah}(h:af iW w):cutAt w 99 (w.length:Int):=fun q z rest A=>by
 have k:=h _ (rj A);obtain⟨_,_,e,G,k⟩:=dw k
 cases e
 obtain⟨z,e,a,b⟩:=Ty.dV G
 cases e
 have:=(List.getElem?_eq_some_iff.1 A).1;exact⟨⟨fun _=>ae,fun _=>ae⟩,⟨fun _=>ae,fun _=>ae⟩⟩
theorem cutHold1{w:ah}{a b:DC}(h:af iW w):cutAt (w++[[(dJ 99),a,b]]) 99 (((w++[[(dJ 99),a,b]]).length:Int) -1):=fun q z rest A=>by
 have G:=(List.getElem?_eq_some_iff.1 A).1;rw[e7,gB,jQ] at G⊢
 by_cases e:q<w.length
 ·rw[sA e] at A;have:=adN h q z rest A;omega
 rw[rl an,show q-w.length=0 by omega] at A
 cases A
 omega
theorem lawHeld{T:aL}(F:FT T)(hA:Sound T 7 [] fun r=>r=dB true)(uN:Cn T){aI:Int}(jL:0≤aI)(jf:aI≤65535){aN:Int}(jJ:0≤aN)(jK:aN≤65535){bo:Int}(nz:0≤bo)(mI:bo≤65535){aZ:Int}(ij:0≤aZ)(ik:aZ≤65535){bF:Int}(oo:0≤bF)(oq:bF≤65535){cm:Int}(tb:0≤cm)(tc:cm≤65535){bE:Int}(ot:0≤bE)(ou:bE≤65535){ca:Int}(qf:0≤ca)(qg:ca≤65535){hZ:Int}(la9:0≤hZ)(ua9:hZ≤65535){z:Int}(la10:0≤z)(ua10:z≤65535){fh:Int}(OI:0≤fh)(OJ:fh≤65535){a8:DC}{U:ah}(lC:au U a8)(sK:U.length≤9223372036854775807)(lQ:af XT U):
  Sound T 4 [.agg [dU aI,dU aN,dU bo,dU aZ,dU bF,dU cm,dU bE,dU ca],.d a8,dU hZ,dU z,dU fh] fun r=>r=dB true:=by
 refine bk F.q4 aa (dq (bZ 2 aa (dq (di 2 aa (aq (aA aa (DatabaseX (hZ:=9) F jL jf jJ jK nz mI ij ik oo oq tb tc ot ou qf qg lC sK lQ ae ae uN) ?_))))));rintro _ _⟨Y,y1',p2,w2,hor,p4,M,p5,w5,rfl,⟨Z,uy0, -⟩,Kd,lU,Ks,Fa, -, -,⟨lh,uh, -⟩,uL,iq,Kj,mM,fo,lH⟩;obtain⟨y1,rfl,ly1,uy1⟩:=Ty.dV Kd;have I:=holdRof Kj;have X3:=adN Kj;refine bZ 2 aa (dq (di 1 aa (aq (eO aa ao ae ae ?_))));refine di 2 aa (aq (bB aa aa ae ae ?_));refine aq (Gf aa aa ae ae (fun A ny kz2=>?_));have kz2:A<Y+1:=kz2;refine bZ 4 aa (dq (di 3 aa (aq (bB aa aa ae ae ?_))));refine di 1 aa (aq (c7 aa aa aa ae ae ?_));refine aq (eO aa ao ae ae ?_);refine aq (bB aa aa ae ae ?_);refine bZ 3 aa (dq (di 2 aa ?_));have cY:w2.length≤16:=by omega
 have lS:w5.length≤13:=by omega
 have hv:0≤A∧A<A+1+z % 4∧A+1+z % 4≤1099511627776:=by omega
 refine aq (aA aa (HoldP F lU cY Fa uL ae I mM lS lH ao ao ⟨Z,ae⟩ ⟨lh,uh⟩ X3 hv) (fun r3 qo hp3=>?_));rcases hp3 with rfl|⟨q2,q4,q5,v2,v5,rfl,XA,qd,PA,he4,he5,hm5,hs5⟩
 ·refine bZ 6 aa (eR (dq (bZ 2 aa (eA aa aa (dq (aq (agw hA aa aa ?_)))))));refine di 1 aa (bw aa aa (As aa ?_));refine bw aa aa (LX aa aa ?_);refine aq (Ra aa aa ?_);exact bZ 1 aa (ki (bN aa aa aa))
 refine bZ 6 aa (eR (dq (bZ 2 aa (dn aa aa (jw (A2 (kA 2 aa (aU (eO aa ao ae ae ?_)))))))));refine kA 2 aa (aU (bB aa aa ae ae ?_));refine aU (Gf aa aa ae ae (fun z7 Yu kz7=>?_));have kz7:z7<Y+1:=kz7;refine kA 2 aa (aU (mR aa aa (fun z8 Qg=>?_)));have P9:(M++[[(DC.i .i64 99),(dJ A),(dJ ((A+1)+(z % 4)))]]).length=M.length+1:=by simp
 have O:af ga (M++[[(DC.i .i64 99),(dJ A),(dJ ((A+1)+(z % 4)))]]):=eB I (ee (aj al (aj al (aj al bm))));refine aO aa (aA aa (ForgetP F XA qd PA he4 ae O he5 hm5 hs5 ao ao ⟨Z,ae⟩ ⟨lh,uh⟩ aa ⟨ly1,uy1⟩ (zn:=z8) ae) (fun r9 xd hp9=>?_));rcases hp9 with⟨hx, -⟩|⟨zj,c2,c4,c5,W,x5,rfl,hf2,hW,YJ,hf5,Cr,ht5⟩
 ·exfalso;omega
 have hW2:af (d8 27 4096) W:=pruned_ok hW PA;have hWl:W.length≤16:=by have:=hW.1;omega
 refine yb 6 aa (eR (dq (di 3 aa (bw aa aa (KI aa aa (aV aa) (aV aa) ?_)))));refine bw aa aa (va aa ?_);refine bw aa aa (kI aa aa aa ?_);refine bw aa aa (aA aa (V3 F ae ae cg cg ae ae YJ ae O cg ae ae) ?_);rintro _ _⟨b11,rfl,hb⟩;obtain rfl:b11=true:=hb.2 ⟨ae,ae,.inl ae⟩;refine bw aa aa (SA aa ?_);refine aq (tC aa aa aa ?_);refine mc (dn aa aa (jw (eR (dq (bZ 4 aa (jN (CN [15,12,11] [15,12,11] aa aa (fun e0 b0 k VE B=>∃v,A≤v∧v≤A+1+z % 4∧k=((A+1+z % 4) -v).toNat∧ak ((17,.d (dJ v))::e0) VE∧ak b0 B) ?_ (k:=((A+1+z % 4) -A).toNat) ⟨A,ae,ae,aa,⟨aa,aa,aa,aa,trivial⟩,⟨aa,aa,aa,trivial⟩⟩)))))));rintro _ VE B⟨v,lv,uv,rfl,hV,hB⟩;refine aT _ _ hV hB (eR (VC.mono (R:=fun x VE B=>(x= .exit 0∧ak [(11,.vp 11 0),(12,.vp 12 0),(15,.vp 15 0),(17,.d (dJ v))] VE∧ak [(11,.one 29 96 [.d (dJ Y),.d (dJ y1),.d p2,.d (dJ hor),.d p4,.d p5]),(12,.one 51 24 [.d (dJ 99),.d (dJ A),.d (dJ ((A+1)+(z % 4)))]),(15,.one 29 96 [.d (dJ Y),.d (dJ y1),.d c2,.d (dJ z8),.d c4,.d c5])] B)∨(x= .normal∧v<A+1+z % 4∧v≤Y∧ak [(11,.vp 11 0),(12,.vp 12 0),(15,.vp 15 0),(17,.d (dJ v))] VE∧ak [(11,.one 29 96 [.d (dJ Y),.d (dJ y1),.d p2,.d (dJ hor),.d p4,.d p5]),(12,.one 51 24 [.d (dJ 99),.d (dJ A),.d (dJ ((A+1)+(z % 4)))]),(15,.one 29 96 [.d (dJ Y),.d (dJ y1),.d c2,.d (dJ z8),.d c4,.d c5])] B)) ?_ ?_))
 ·refine dq (di 6 aa ?_);refine aaY (g:=Vx) aa ?_ ?_<;>intro G
  ·have ox:=G;simp only[eM] at ox;refine bw aa G (As aa ?_);refine bw aa G (va aa ?_);refine bw aa G (kI aa aa aa ?_);refine bw aa G (aed aa aa ?_);refine aq (tB aa G aa ?_);refine mc ?_;refine cF aa ?_ ?_<;>intro PW
   ·have tg:=PW;simp only[eM] at tg;exact jw (.inr ⟨aa,ox,tg,⟨aa,aa,aa,aa,trivial⟩,⟨aa,aa,aa,trivial⟩⟩)
   exact mQ (.inl ⟨aa,⟨aa,aa,aa,aa,trivial⟩,⟨aa,aa,aa,trivial⟩⟩)
  refine lI aa G (lI aa G (lI aa G (lI aa G (aq (tC aa G aa ?_)))));exact mc (dn aa aa (mQ (.inl ⟨aa,⟨aa,aa,aa,aa,trivial⟩,⟨aa,aa,aa,trivial⟩⟩)))
 rintro x VE B(⟨rfl,hV,hB⟩|⟨rfl,ox,tg,hV,hB⟩)
 ·refine aT _ _ hV hB (dq (di 1 aa ?_));have hc6:=cutHold1 (a:=.i .i64 A) (b:=.i .i64 (A+1+z % 4)) Kj;refine aq (aA aa (ReleaseP F hf2 hWl hW2 YJ ae O hf5 Cr ht5 ao ao ⟨Z,ae⟩ ⟨ae,ae⟩ aa ⟨ly1,uy1⟩ ae hc6) ?_);rintro _ _⟨d2,d4,d5,W2,x6,rfl,bQ,hV2,L,eW,hx6,ht6⟩;have htk:(M++[[(DC.i .i64 99),(dJ A),(dJ ((A+1)+(z % 4)))]]).take ((M++[[(DC.i .i64 99),(dJ A),(dJ ((A+1)+(z % 4)))]]).length-1)=M:=by rw[P9,Nat.add_sub_cancel,List.take_left]
  have L:au ((M++[[(DC.i .i64 99),(dJ A),(dJ ((A+1)+(z % 4)))]]).take ((M++[[(DC.i .i64 99),(dJ A),(dJ ((A+1)+(z % 4)))]]).length-1)) d4:=L;rw[htk] at L;refine bZ 6 aa (dq (aq (agw hA aa aa ?_)));refine di 1 aa (bw aa aa (As aa ?_));refine bw aa aa (LX aa aa ?_);refine aq (tB aa aa aa ?_);refine di 1 aa (bw aa aa (KI aa aa (aV aa) (aV aa) ?_));refine bw aa aa (va aa ?_);refine bw aa aa (kI aa aa aa ?_);refine bw aa aa (aA aa (V3 F ae ae cg cg ae ae L ae I cg ae ae) ?_);rintro _ _⟨b21,rfl,rJ⟩;obtain rfl:b21=true:=rJ.2 ⟨ae,ae,.inl ae⟩;refine aq (tB aa aa aa ?_);refine di 1 aa (bw aa aa (va aa ?_));refine bw aa aa (kI aa aa aa ?_);refine bw aa aa (aR aa L ?_);refine bw aa aa (va aa ?_);refine bw aa aa (kI aa aa aa ?_);refine bw aa aa (aR aa uL ?_);refine bw aa aa (LX aa aa ?_);refine aq (tB aa aa aa ?_);refine bZ 1 aa (ki ?_);exact bN rfl rfl (by rw[decide_eq_true rfl];rfl)
 refine aT _ _ hV hB (eR (jN (dq (di 2 aa (aq (aA aa (V3 F ae ae cg cg ae ae YJ ae O cg ae ae) ?_))))));rintro _ _⟨b15,rfl,Cv⟩;obtain rfl:b15=true:=Cv.2 ⟨ae,ae,.inr (jq.mk (q:=M.length) (by rw[rl (bd _),Nat.sub_self];rfl) rfl rfl ⟨ae,ae,ae,ae,ae,ae,ae,ae⟩)⟩;refine bZ 1 aa (dn aa aa (jw (iu (di 1 aa (aq (bB aa aa ae ae ?_))))));exact bZ 1 aa (⟨((A+1+z % 4) -(v+1)).toNat,ae,v+1,ae,ae,aa,⟨aa,aa,aa,aa,trivial⟩,⟨aa,aa,aa,trivial⟩⟩)
end Go.Ev.Rp
namespace Go.Ev.Rp
open Go Go.Ev.Pp
theorem tx_0(el:Nat→Nat):ck el (tl 0 0 0 0 0)=true:=by kernel_rfl
theorem tx_1(el:Nat→Nat):ck el (tl 0 0 0 1 0)=true:=by kernel_rfl
theorem tx_2(el:Nat→Nat):ck el (tl 1 0 0 0 0)=true:=by kernel_rfl
theorem tx_3(el:Nat→Nat):ck el (tl 1 0 0 1 0)=true:=by kernel_rfl
theorem tx_4(el:Nat→Nat):ck el (tl 1 0 1 0 0)=true:=by kernel_rfl
theorem tx_5(el:Nat→Nat):ck el (tl 1 0 1 1 0)=true:=by kernel_rfl
theorem tx_6(el:Nat→Nat):ck el (tl 1 0 2 0 0)=true:=by kernel_rfl
theorem tx_7(el:Nat→Nat):ck el (tl 1 0 2 1 0)=true:=by kernel_rfl
theorem tx_8(el:Nat→Nat):ck el (tl 1 1 0 0 0)=true:=by kernel_rfl
theorem tx_9(el:Nat→Nat):ck el (tl 1 1 0 1 0)=true:=by kernel_rfl
theorem tx_10(el:Nat→Nat):ck el (tl 1 1 1 0 0)=true:=by kernel_rfl
theorem tx_11(el:Nat→Nat):ck el (tl 1 1 1 1 0)=true:=by kernel_rfl
theorem tx_12(el:Nat→Nat):ck el (tl 1 1 2 0 0)=true:=by kernel_rfl
theorem tx_13(el:Nat→Nat):ck el (tl 1 1 2 1 0)=true:=by kernel_rfl
theorem tx_14(el:Nat→Nat):ck el (tl 1 2 0 0 0)=true:=by kernel_rfl
end Go.Ev.Rp
namespace Go.Ev.Rp
open Go Go.Ev.Pp
theorem tx_15(el:Nat→Nat):ck el (tl 1 2 0 1 0)=true:=by kernel_rfl
theorem tx_16(el:Nat→Nat):ck el (tl 1 2 1 0 0)=true:=by kernel_rfl
theorem tx_17(el:Nat→Nat):ck el (tl 1 2 1 1 0)=true:=by kernel_rfl
theorem tx_18(el:Nat→Nat):ck el (tl 1 2 2 0 0)=true:=by kernel_rfl
theorem tx_19(el:Nat→Nat):ck el (tl 1 2 2 1 0)=true:=by kernel_rfl
theorem tx_20(el:Nat→Nat):ck el (tl 1 3 0 0 0)=true:=by kernel_rfl
theorem tx_21(el:Nat→Nat):ck el (tl 1 3 0 1 0)=true:=by kernel_rfl
theorem tx_22(el:Nat→Nat):ck el (tl 1 3 1 0 0)=true:=by kernel_rfl
theorem tx_23(el:Nat→Nat):ck el (tl 1 3 1 1 0)=true:=by kernel_rfl
theorem tx_24(el:Nat→Nat):ck el (tl 1 3 2 0 0)=true:=by kernel_rfl
theorem tx_25(el:Nat→Nat):ck el (tl 1 3 2 1 0)=true:=by kernel_rfl
theorem tx_26(el:Nat→Nat):ck el (tl 2 0 0 0 0)=true:=by kernel_rfl
theorem tx_27(el:Nat→Nat):ck el (tl 2 0 0 1 0)=true:=by kernel_rfl
theorem tx_28(el:Nat→Nat):ck el (tl 2 1 0 0 0)=true:=by kernel_rfl
theorem tx_29(el:Nat→Nat):ck el (tl 2 1 0 1 0)=true:=by kernel_rfl
end Go.Ev.Rp
namespace Go.Ev.Rp
open Go Go.Ev.Pp
theorem tx_30(el:Nat→Nat):ck el (tl 2 2 0 0 0)=true:=by kernel_rfl
theorem tx_31(el:Nat→Nat):ck el (tl 2 2 0 1 0)=true:=by kernel_rfl
theorem tx_32(el:Nat→Nat):ck el (tl 2 3 0 0 0)=true:=by kernel_rfl
theorem tx_33(el:Nat→Nat):ck el (tl 2 3 0 1 0)=true:=by kernel_rfl
theorem tx_34(el:Nat→Nat):ck el (tl 3 0 0 0 0)=true:=by kernel_rfl
theorem tx_35(el:Nat→Nat):ck el (tl 3 0 0 1 0)=true:=by kernel_rfl
theorem tx_36(el:Nat→Nat):ck el (tl 4 0 0 0 0)=true:=by kernel_rfl
theorem tx_37(el:Nat→Nat):ck el (tl 4 0 0 1 0)=true:=by kernel_rfl
theorem tx_38(el:Nat→Nat):ck el (tl 5 0 0 0 0)=true:=by kernel_rfl
theorem tx_39(el:Nat→Nat):ck el (tl 5 0 0 1 0)=true:=by kernel_rfl
theorem tx_40(el:Nat→Nat):ck el (tl 5 1 0 0 0)=true:=by kernel_rfl
theorem tx_41(el:Nat→Nat):ck el (tl 5 1 0 1 0)=true:=by kernel_rfl
theorem tx_42(el:Nat→Nat):ck el (tl 5 2 0 0 0)=true:=by kernel_rfl
theorem tx_43(el:Nat→Nat):ck el (tl 5 2 0 1 0)=true:=by kernel_rfl
theorem tx_44(el:Nat→Nat):ck el (tl 5 3 0 0 0)=true:=by kernel_rfl
end Go.Ev.Rp
namespace Go.Ev.Rp
open Go Go.Ev.Pp
theorem tx_45(el:Nat→Nat):ck el (tl 5 3 0 1 0)=true:=by kernel_rfl
theorem tx_46(el:Nat→Nat):ck el (tl 6 0 0 0 0)=true:=by kernel_rfl
theorem tx_47(el:Nat→Nat):ck el (tl 7 0 0 0 0)=true:=by kernel_rfl
theorem tx_48(el:Nat→Nat):ck el (tl 7 0 0 0 1)=true:=by kernel_rfl
theorem tx_49(el:Nat→Nat):ck el (tl 7 0 0 1 0)=true:=by kernel_rfl
theorem tx_50(el:Nat→Nat):ck el (tl 7 0 0 1 1)=true:=by kernel_rfl
theorem tx_51(el:Nat→Nat):ck el (tl 8 0 0 0 0)=true:=by kernel_rfl
theorem tx_52(el:Nat→Nat):ck el (tl 8 0 0 0 1)=true:=by kernel_rfl
theorem tx_53(el:Nat→Nat):ck el (tl 8 0 0 1 0)=true:=by kernel_rfl
theorem tx_54(el:Nat→Nat):ck el (tl 8 0 0 1 1)=true:=by kernel_rfl
theorem tx_55(el:Nat→Nat):ck el (tl 9 0 0 0 0)=true:=by kernel_rfl
theorem tx_56(el:Nat→Nat):ck el (tl 9 0 0 0 1)=true:=by kernel_rfl
theorem tx_57(el:Nat→Nat):ck el (tl 9 0 0 1 0)=true:=by kernel_rfl
theorem tx_58(el:Nat→Nat):ck el (tl 9 0 0 1 1)=true:=by kernel_rfl
theorem tx_59(el:Nat→Nat):ck el (tl 10 0 0 0 0)=true:=by kernel_rfl
end Go.Ev.Rp
namespace Go.Ev.Rp
open Go Go.Ev.Pp
theorem tx_60(el:Nat→Nat):ck el (tl 10 0 0 0 1)=true:=by kernel_rfl
theorem tx_61(el:Nat→Nat):ck el (tl 10 0 0 1 0)=true:=by kernel_rfl
theorem tx_62(el:Nat→Nat):ck el (tl 10 0 0 1 1)=true:=by kernel_rfl
theorem tx_63(el:Nat→Nat):ck el (tl 11 0 0 0 0)=true:=by kernel_rfl
theorem tx_64(el:Nat→Nat):ck el (tl 11 0 0 1 0)=true:=by kernel_rfl
theorem tx_65(el:Nat→Nat):ck el (tl 12 0 0 0 0)=true:=by kernel_rfl
theorem tx_66(el:Nat→Nat):ck el (tl 12 0 0 1 0)=true:=by kernel_rfl
theorem tx_67(el:Nat→Nat):ck el (tl 13 0 0 0 0)=true:=by kernel_rfl
theorem tx_68(el:Nat→Nat):ck el (tl 13 0 0 1 0)=true:=by kernel_rfl
theorem tx_69(el:Nat→Nat):ck el (tl 14 0 0 0 0)=true:=by kernel_rfl
theorem tx_70(el:Nat→Nat):ck el (tl 14 0 0 0 1)=true:=by kernel_rfl
theorem tx_71(el:Nat→Nat):ck el (tl 14 0 0 1 0)=true:=by kernel_rfl
theorem tx_72(el:Nat→Nat):ck el (tl 14 0 0 1 1)=true:=by kernel_rfl
theorem tx_73(el:Nat→Nat):ck el (tl 14 1 0 0 0)=true:=by kernel_rfl
theorem tx_74(el:Nat→Nat):ck el (tl 14 1 0 0 1)=true:=by kernel_rfl
end Go.Ev.Rp
namespace Go.Ev.Rp
open Go Go.Ev.Pp
theorem tx_75(el:Nat→Nat):ck el (tl 14 1 0 1 0)=true:=by kernel_rfl
theorem tx_76(el:Nat→Nat):ck el (tl 14 1 0 1 1)=true:=by kernel_rfl
theorem tx_77(el:Nat→Nat):ck el (tl 14 2 0 0 0)=true:=by kernel_rfl
theorem tx_78(el:Nat→Nat):ck el (tl 14 2 0 0 1)=true:=by kernel_rfl
theorem tx_79(el:Nat→Nat):ck el (tl 14 2 0 1 0)=true:=by kernel_rfl
theorem tx_80(el:Nat→Nat):ck el (tl 14 2 0 1 1)=true:=by kernel_rfl
theorem tx_81(el:Nat→Nat):ck el (tl 14 3 0 0 0)=true:=by kernel_rfl
theorem tx_82(el:Nat→Nat):ck el (tl 14 3 0 0 1)=true:=by kernel_rfl
theorem tx_83(el:Nat→Nat):ck el (tl 14 3 0 1 0)=true:=by kernel_rfl
theorem tx_84(el:Nat→Nat):ck el (tl 14 3 0 1 1)=true:=by kernel_rfl
theorem tx_e(el:Nat→Nat):ck el []=true:=by kernel_rfl
end Go.Ev.Rp
namespace Go.Ev.Rp
open Go Go.Ev.Pp
theorem tk_0(el:Nat→Nat){a b c d:Nat}(z:c<2):ck el (tl 0 a b c d)=true:=
 match c,z with
 |0,_=>tx_0 el
 |1,_=>tx_1 el
theorem tk_1(el:Nat→Nat){a b c d:Nat}(z:a<4)(A:b<3)(G:c<2):ck el (tl 1 a b c d)=true:=
 match a,b,c,z,A,G with
 |0,0,0,_,_,_=>tx_2 el
 |0,0,1,_,_,_=>tx_3 el
 |0,1,0,_,_,_=>tx_4 el
 |0,1,1,_,_,_=>tx_5 el
 |0,2,0,_,_,_=>tx_6 el
 |0,2,1,_,_,_=>tx_7 el
 |1,0,0,_,_,_=>tx_8 el
 |1,0,1,_,_,_=>tx_9 el
 |1,1,0,_,_,_=>tx_10 el
 |1,1,1,_,_,_=>tx_11 el
 |1,2,0,_,_,_=>tx_12 el
 |1,2,1,_,_,_=>tx_13 el
 |2,0,0,_,_,_=>tx_14 el
 |2,0,1,_,_,_=>tx_15 el
 |2,1,0,_,_,_=>tx_16 el
 |2,1,1,_,_,_=>tx_17 el
 |2,2,0,_,_,_=>tx_18 el
 |2,2,1,_,_,_=>tx_19 el
 |3,0,0,_,_,_=>tx_20 el
 |3,0,1,_,_,_=>tx_21 el
 |3,1,0,_,_,_=>tx_22 el
 |3,1,1,_,_,_=>tx_23 el
 |3,2,0,_,_,_=>tx_24 el
 |3,2,1,_,_,_=>tx_25 el
theorem tk_2(el:Nat→Nat){a b c d:Nat}(z:a<4)(A:c<2):ck el (tl 2 a b c d)=true:=
 match a,c,z,A with
 |0,0,_,_=>tx_26 el
 |0,1,_,_=>tx_27 el
 |1,0,_,_=>tx_28 el
 |1,1,_,_=>tx_29 el
 |2,0,_,_=>tx_30 el
 |2,1,_,_=>tx_31 el
 |3,0,_,_=>tx_32 el
 |3,1,_,_=>tx_33 el
theorem tk_3(el:Nat→Nat){a b c d:Nat}(z:c<2):ck el (tl 3 a b c d)=true:=
 match c,z with
 |0,_=>tx_34 el
 |1,_=>tx_35 el
theorem tk_4(el:Nat→Nat){a b c d:Nat}(z:c<2):ck el (tl 4 a b c d)=true:=
 match c,z with
 |0,_=>tx_36 el
 |1,_=>tx_37 el
theorem tk_5(el:Nat→Nat){a b c d:Nat}(z:a<4)(A:c<2):ck el (tl 5 a b c d)=true:=
 match a,c,z,A with
 |0,0,_,_=>tx_38 el
 |0,1,_,_=>tx_39 el
 |1,0,_,_=>tx_40 el
 |1,1,_,_=>tx_41 el
 |2,0,_,_=>tx_42 el
 |2,1,_,_=>tx_43 el
 |3,0,_,_=>tx_44 el
 |3,1,_,_=>tx_45 el
theorem tk_6(el:Nat→Nat){a b c d:Nat}:ck el (tl 6 a b c d)=true:=tx_46 el
theorem tk_7(el:Nat→Nat){a b c d:Nat}(z:c<2)(A:d<2):ck el (tl 7 a b c d)=true:=
 match c,d,z,A with
 |0,0,_,_=>tx_47 el
 |0,1,_,_=>tx_48 el
 |1,0,_,_=>tx_49 el
 |1,1,_,_=>tx_50 el
theorem tk_8(el:Nat→Nat){a b c d:Nat}(z:c<2)(A:d<2):ck el (tl 8 a b c d)=true:=
 match c,d,z,A with
 |0,0,_,_=>tx_51 el
 |0,1,_,_=>tx_52 el
 |1,0,_,_=>tx_53 el
 |1,1,_,_=>tx_54 el
theorem tk_9(el:Nat→Nat){a b c d:Nat}(z:c<2)(A:d<2):ck el (tl 9 a b c d)=true:=
 match c,d,z,A with
 |0,0,_,_=>tx_55 el
 |0,1,_,_=>tx_56 el
 |1,0,_,_=>tx_57 el
 |1,1,_,_=>tx_58 el
theorem tk_10(el:Nat→Nat){a b c d:Nat}(z:c<2)(A:d<2):ck el (tl 10 a b c d)=true:=
 match c,d,z,A with
 |0,0,_,_=>tx_59 el
 |0,1,_,_=>tx_60 el
 |1,0,_,_=>tx_61 el
 |1,1,_,_=>tx_62 el
theorem tk_11(el:Nat→Nat){a b c d:Nat}(z:c<2):ck el (tl 11 a b c d)=true:=
 match c,z with
 |0,_=>tx_63 el
 |1,_=>tx_64 el
theorem tk_12(el:Nat→Nat){a b c d:Nat}(z:c<2):ck el (tl 12 a b c d)=true:=
 match c,z with
 |0,_=>tx_65 el
 |1,_=>tx_66 el
theorem tk_13(el:Nat→Nat){a b c d:Nat}(z:c<2):ck el (tl 13 a b c d)=true:=
 match c,z with
 |0,_=>tx_67 el
 |1,_=>tx_68 el
theorem tk_14(el:Nat→Nat){a b c d:Nat}(z:a<4)(A:c<2)(G:d<2):ck el (tl 14 a b c d)=true:=
 match a,c,d,z,A,G with
 |0,0,0,_,_,_=>tx_69 el
 |0,0,1,_,_,_=>tx_70 el
 |0,1,0,_,_,_=>tx_71 el
 |0,1,1,_,_,_=>tx_72 el
 |1,0,0,_,_,_=>tx_73 el
 |1,0,1,_,_,_=>tx_74 el
 |1,1,0,_,_,_=>tx_75 el
 |1,1,1,_,_,_=>tx_76 el
 |2,0,0,_,_,_=>tx_77 el
 |2,0,1,_,_,_=>tx_78 el
 |2,1,0,_,_,_=>tx_79 el
 |2,1,1,_,_,_=>tx_80 el
 |3,0,0,_,_,_=>tx_81 el
 |3,0,1,_,_,_=>tx_82 el
 |3,1,0,_,_,_=>tx_83 el
 |3,1,1,_,_,_=>tx_84 el
structure YK(T:aL):Prop where
 p1:T.ft.get 120=none
 p2:T.xt.get 120=none
 p3:T.zt.get 120=some (told Fc .leaf 300 100 120)
 q1:T.ft.get 166=none
 q2:T.xt.get 166=none
 q3:T.zt.get 166=some (yk Fc .leaf 300 100 166)
theorem YK.ok{T:aL}(Z:YK T){z:List UInt8}(h:∀el,ck el z=true):xI T z:=by
 have h0:=h fun _=>0
 simp only[ck,cU] at h0 h;exact txB_ok Z.p1 Z.p2 Z.p3 Z.q1 Z.q2 Z.q3 (aV h0.1) fun el=>(h el).2
theorem txA{T:aL}(Z:YK T):Cn T:=by
 refine⟨Z.ok tx_e,fun n s t u L M O U k Y G=>?_⟩;obtain⟨a,I,rfl⟩:∃a,a<4∧n=nS.getD a []:=by
  rcases L with rfl|rfl|rfl|rfl
  ·exact⟨0,ao,aa⟩
  ·exact⟨1,ao,aa⟩
  ·exact⟨2,ao,aa⟩
  exact⟨3,ao,aa⟩
 obtain⟨b,hb,rfl⟩:∃b,b<3∧s=sS.getD b []:=by
  rcases M with rfl|rfl|rfl
  ·exact⟨0,ao,aa⟩
  ·exact⟨1,ao,aa⟩
  exact⟨2,ao,aa⟩
 obtain⟨c,z,rfl⟩:∃c,c<2∧t=tS.getD c []:=by
  rcases O with rfl|rfl
  ·exact⟨0,ao,aa⟩
  exact⟨1,ao,aa⟩
 obtain⟨d,A,rfl⟩:∃d,d<2∧u=uS.getD d []:=by
  rcases U with rfl|rfl
  ·exact⟨0,ao,aa⟩
  exact⟨1,ao,aa⟩
 have e:Y=tl k a b c d:=by simp only[tl,G,TY]
 subst e;refine Z.ok fun el=>?_
 match k,G with
 |0,_=>exact tk_0 el z
 |1,_=>exact tk_1 el I hb z
 |2,_=>exact tk_2 el I z
 |3,_=>exact tk_3 el z
 |4,_=>exact tk_4 el z
 |5,_=>exact tk_5 el I z
 |6,_=>exact tk_6 el
 |7,_=>exact tk_7 el z A
 |8,_=>exact tk_8 el z A
 |9,_=>exact tk_9 el z A
 |10,_=>exact tk_10 el z A
 |11,_=>exact tk_11 el z
 |12,_=>exact tk_12 el z
 |13,_=>exact tk_13 el z
 |14,_=>exact tk_14 el I z A
 |k+15,G=>exact absurd G (by simp[XU])
end Go.Ev.Rp
