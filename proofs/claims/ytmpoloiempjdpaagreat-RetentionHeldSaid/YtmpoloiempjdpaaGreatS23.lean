/- Part 23 of rules for walks through the code of a program, and of such walks; what each part proves is said by its theorems. -/
import Derived.Test.YtmpoloiempjdpaaGreatS12
import Derived.Test.YtmpoloiempjdpaaGreatS13
import Derived.Test.YtmpoloiempjdpaaGreatS14
import Derived.Test.YtmpoloiempjdpaaGreatS19
import Derived.Test.YtmpoloiempjdpaaGreatS20
import Derived.Test.YtmpoloiempjdpaaGreatS21
import Derived.Test.YtmpoloiempjdpaaGreatS22
set_option linter.unusedVariables false
set_option linter.unusedSimpArgs false
noncomputable section
set_option maxRecDepth 100000
set_option maxHeartbeats 4000000
namespace Go.Ev.Rp
open Go Go.Ev.Pp
attribute [local irreducible] VC VO VQ VI Sound bW
theorem ok_lm{n m:Nat}{row:List Ty}{d:DC}(h:(Ty.l n row).ok d)(k:n≤m):(Ty.l m row).ok d:=by
 obtain⟨w,a,b,c⟩:=h;exact aM a (eT b k) c
def xg:Nat→Nat
 |0=>4096
 |n+1=>4*xg n+1
theorem mvI_s{z:Int}(h:0≤z):xg (z+1).toNat=4*xg z.toNat+1:=by rw[show(z+1).toNat=z.toNat+1 by omega];rfl
theorem mvI_lt{z:Int}(h0:0≤z)(h:z<2):xg z.toNat≤24000:=by
 rcases(by omega:z=0∨z=1) with rfl|rfl<;>decide
theorem mvI_le{z:Int}(h0:0≤z)(h:z≤2):xg z.toNat≤100000:=by
 rcases(by omega:z=0∨z=1∨z=2) with rfl|rfl|rfl<;>decide
theorem mvI_0:xg (0:Int).toNat=4096:=rfl
theorem okRs_take0{R:List Ty}{w:ah}:af R (w.take (0:Int).toNat):=fun r h=>by simp at h
theorem okRs_takeS{R:List Ty}{w:ah}{z:Int}{r:List DC}(h:af R (w.take z.toNat))(h0:0≤z)(A:w[z.toNat]?=some r)(G:fk R r):af R (w.take (z+1).toNat):=by
 rw[show(z+1).toNat=z.toNat+1 by omega,t3,A];exact eB h (ee G)
theorem okRs_takeA{R:List Ty}{w:ah}{z:Int}(h:af R (w.take z.toNat))(A:(w.length:Int)≤z):af R w:=by rwa [rf an] at h
theorem StepN{T:aL}(F:FT T){nv mv:Nat}{P3 P4 P5:Ty}{a1 a2 a3 a4 a5 a6 a7 a8 a9 jt pg ph tu tv tw zA zB zD zE zF zG:DC}{aI:Int}(jL:0≤aI)(jf:aI≤40)(bX:tJ.ok a1){bz:ah}(uy:0≤bz.length)(L:bz=[]→a2= .nil)(z:au bz a2)(cY:bz.length≤16)(G:af (d8 nv mv) bz)(cw:(P3).ok a3)(cb:(P4).ok a4)(cq:(P5).ok a5)(fC:tJ.ok a6)(gn:(Ty.s 1000).ok a7)(gp:(Ty.l 1000000000 cB).ok a8)(il:tJ.ok a9)(nk:tJ.ok jt)(qb:(Ty.l 100 ey).ok pg)(wH:tJ.ok ph)(yO:(Ty.l 10 ez).ok tu)(B8:(Ty.s 1000).ok tv)(B9:(Ty.l 100 dX).ok tw)(Jv:(Ty.l 200 bn).ok zA)(Jw:(Ty.l 4 ew).ok zB)(Jx:(Ty.l 4 dW).ok zD)(Jy:tJ.ok zE)(Jz:(Ty.s 1000).ok zF)(JA:tJ.ok zG)(jY:nv≤99)(mL:mv≤24000)(PL:1≤nv)(gV:P3.ok i0)(iq:P4.ok .nil)(fo:P5.ok .nil):Sound T 36 [.agg [.d (dJ aI),.d a1,.d a2,.d a3,.d a4,.d a5],.agg [.d a6,.d a7,.d a8,.d a9,.d jt,.d pg,.d ph,.d tu,.d tv,.d tw,.d zA,.d zB,.d zD,.d zE,.d zF,.d zG]] fun r=>∃y0 y1 y2 dH y4 y5 y6 y7,r= .tuple [.agg [.d (dJ y0),.d y1,.d y2,.d y4,.d y5,.d y6],.d (dJ y7)]∧(0≤y0∧y0≤40∧(True))∧tJ.ok y1∧au dH y2∧(dH.length:Int)≤16∧af (d8 (nv+1) (4*mv+1)) dH∧0≤(dH.length:Int)∧(dH=[]→y2= .nil)∧(P3).ok y4∧(P4).ok y5∧(P5).ok y6∧((-9223372036854775808)≤y7∧y7≤9223372036854775807∧(y7=0→y0=aI)):=by
 refine bk F.q36 aa ?_;rcases bX,fC,gn,gp,il,nk,qb,wH,yO,B8,B9,Jv,Jw,Jx,Jy,Jz,JA with⟨⟨aN,rfl,eD,eo⟩,⟨bE,rfl,o0,o4⟩,⟨P',rfl,Pb⟩,⟨zH,lC,sK,lQ⟩,⟨hZ,rfl,BI,BJ⟩,⟨Pc,rfl,Ni,Nj⟩,⟨ajZ,Nk,ahu,Nl⟩,⟨za12,rfl,hza12,kza12⟩,⟨aj0,hda13,hna13,Nm⟩,⟨sa14,rfl,hsa14⟩,⟨wa15,UQ,hna15,UR⟩,⟨aj1,Im,ahv,Io⟩,⟨aj2,Ip,ahw,Iq⟩,⟨aj3,Ir,ahx,Is⟩,⟨za19,rfl,hza19,kza19⟩,⟨sa20,rfl,hsa20⟩,⟨za21,rfl,hza21,kza21⟩⟩
 refine r0 14 aa ?_;refine bu aa ?_ ?_<;>intro h1
 ·exact W
 refine ro 5 aa ?_;refine ay aa ?_ ?_<;>intro h2
 ·exact W
 refine rc 8 aa ?_;refine ay aa ?_ ?_<;>intro g3
 ·refine aB 5 aa (aA aa (createN (aI:=aI) (nv:=nv) (mv:=mv) (P3:=P3) (P4:=P4) (P5:=P5) F ae ae al ae L z ae G cw cb cq (bH an) UQ ae UR (aM Im ae Io) (aM Ip ae Iq) (aM Ir ae Is) ae ae ae gV iq fo) ?_);rintro _ _⟨gk,sR,uA,Bl,Cc,EI,JL,Pl,rfl,t8,vL,AL,TJ,AM,afB,G',Ny,Nz,U8,hy4_7⟩;exact eV 6 aa (bN aa aa ⟨gk,sR,uA,Bl,Cc,EI,JL,Pl,aa,⟨ae,ae,trivial⟩,vL,AL,ae,(pj AM ae ae),ae,G',Ny,Nz,U8,⟨ae,ae,ae⟩⟩)
 refine aB 6 aa (aA aa (Nu (aI:=aI) (nv:=nv) (mv:=mv) (P3:=P3) (P4:=P4) (P5:=P5) F ae ae al ae L z ae G cw cb cq (bH an) ae ae gV iq fo) ?_);rintro _ _⟨U,rfl,pH⟩;refine ro 8 aa ?_;refine ay aa ?_ ?_<;>intro h6
 ·exact W
 refine rc 6 aa ?_;obtain⟨ns,nf,n9,⟨wx7_1,Mp,hnx7_1,Mq⟩,yP,yi,VT,H7,VU,H8,VW,⟨wx7_5,M,hnx7_5,O⟩,eF⟩:=qI U G;refine aq (aH aa aa z ae eF aa ?_);refine ro 20 aa ?_;refine ay aa ?_ ?_<;>intro g8
 ·refine aB 7 aa (oB aa aa (fun z9 hz9=>?_));refine aq (aA aa (AddColC (nv:=nv) F nf Mp ae Mq yi H7 H8 al (bH an) al al ae) ?_);rintro _ _⟨nO,A7,aeG,ag1,M1,M3,_,rfl,Av,Lq,acw,Lr,hy10_3,afC,hy10_5,zy10_6,rfl,hzy10_6,kzy10_6⟩;refine ro 10 aa (rp 3 aa ?_);refine ay aa ?_ ?_<;>intro wW
  ·exact W
  refine aB 6 aa (aA aa (yt (aI:=aI) (bE:=U) (nv:=nv) (mv:=mv) (rR:=nv+1) (rS:=4*mv+1) F ae ae al ae L z ae G cw cb cq ae ae Av (aM Lq ae Lr) hy10_3 afC hy10_5 (aM M ae O) ae ae gV iq fo) ?_);rintro _ _⟨Iy,y12_1,wy12_1,y12_3,y12_4,y12_5,rfl,Mf,hdy12_1,hny12_1,hry12_1,hmy12_1,hey12_1,hy12_3,hy12_4,hy12_5⟩;exact W
 refine rc 5 aa ?_;refine ay aa ?_ ?_<;>intro ox
 ·refine aB 9 aa (oB aa aa (fun z14 Pk=>?_));refine aq (aA aa (DropColC (nv:=nv) F nf Mp ae Mq yi H7 H8 al al ae) ?_);rintro _ _⟨Nv,y15_1,wy15_1,y15_3,y15_4,y15_5,_,rfl,afD,Y,hny15_1,Z,afE,afF,afG,zy15_6,rfl,hzy15_6,kzy15_6⟩;refine ro 12 aa (bh [64,50,43,35,23,19,7,6,5,4,3,2,1,0] [7,4,3,2] aa aa (fun e0 b0 k VE B=>∃Pm I,ak ((8,.d (dJ Pm))::(9,.d (dJ I))::e0) VE∧ak b0 B∧k=((bz.length:Int) -I).toNat∧(-9223372036854775808≤Pm∧Pm≤9223372036854775807)∧(0≤I∧(I≤(bz.length:Int)∨I=0))) ?_ fin);rintro _ VE B⟨Pm,I,hV,hB,rfl,bU,cN⟩;refine aT _ _ hV hB (aB 6 aa (aR aa z ?_));refine ro 2 aa ?_;refine bu aa ?_ ?_<;>intro qs
  ·refine ro 4 aa ?_;refine ay aa ?_ ?_<;>intro tn
   ·refine rc 8 aa ?_;obtain⟨ahr,Tk,Ix,Tn,ahA,To,x18_3,⟨afH,ado,hnx18_3,hrx18_3⟩,x18_4,hx18_4,x18_5,hx18_5,mC⟩:=qI I G;refine bh [87,64,50,43,35,23,19,9,7,6,5,4,3,2,1,0] [7,4,3,2] aa aa (fun e0 b0 k VE B=>∃Pn A,ak ((8,.d (dJ Pn))::(10,.d (dJ A))::e0) VE∧ak b0 B∧k=((afH.length:Int) -A).toNat∧(-9223372036854775808≤Pn∧Pn≤9223372036854775807)∧(0≤A∧(A≤(afH.length:Int)∨A=0))) ?_ fin;rintro _ VE B⟨Pn,A,hV,hB,rfl,fi,gl⟩;refine aT _ _ hV hB (aB 7 aa (aH aa aa z ae mC aa ?_));refine aP 3 aa (aR aa ado ?_);refine ro 2 aa ?_;refine ay aa ?_ ?_<;>intro P8
    ·refine aB 8 aa (aH aa aa z ae mC aa ?_);refine ro 4 aa ?_;obtain⟨Nf,GZ,_,⟨sx20_1,rfl,hsx20_1⟩,_,rfl,nw⟩:=qI A hrx18_3;refine aq (aH aa aa ado ae nw aa ?_);refine ro 10 aa ?_;refine bu aa ?_ ?_<;>intro Kn
     ·refine ro 4 aa (bw aa aa (pn aa aa ?_));refine ro 2 aa ?_;refine bu aa ?_ ?_<;>intro g23
      ·refine ro 5 aa (bw aa aa (aA aa (DS F (.inl aa) ae tR al) ?_));rintro _ _⟨D3,rfl,TK⟩;exact W
      exact W
     exact W
    exact W
   refine rc 7 aa ?_;refine ay aa ?_ ?_<;>intro h26
   ·exact W
   refine aB 6 aa (aA aa (yt (aI:=aI) (bE:=U) (nv:=nv) (mv:=mv) (rR:=nv+1) (rS:=4*mv+1) F ae ae al ae L z ae G cw cb cq ae ae afD (aM Y ae Z) afE afF afG (aM M ae O) ae ae gV iq fo) ?_);rintro _ _⟨y27_0,y27_1,wy27_1,y27_3,y27_4,y27_5,rfl,hy27_0,hdy27_1,hny27_1,hry27_1,hmy27_1,hey27_1,hy27_3,hy27_4,hy27_5⟩;exact W
  refine ro 4 aa (dn aa aa (rc 7 aa ?_));refine ay aa ?_ ?_<;>intro h28
  ·exact W
  refine aB 6 aa (aA aa (yt (aI:=aI) (bE:=U) (nv:=nv) (mv:=mv) (rR:=nv+1) (rS:=4*mv+1) F ae ae al ae L z ae G cw cb cq ae ae afD (aM Y ae Z) afE afF afG (aM M ae O) ae ae gV iq fo) ?_);rintro _ _⟨y29_0,y29_1,wy29_1,y29_3,y29_4,y29_5,rfl,hy29_0,hdy29_1,hny29_1,hry29_1,hmy29_1,hey29_1,hy29_3,hy29_4,hy29_5⟩;exact W
 refine aB 5 aa (aA aa (modifyN (aI:=aI) (bE:=U) (nv:=nv) (mv:=mv) (P3:=P3) (P4:=P4) (P5:=P5) F ae ae al ae L z ae G cw cb cq ae ae al (bH an) (aM lC ae lQ) al al (aM Nk ae Nl) al (aM hda13 ae Nm) (bH an) (aM UQ ae UR) (aM Im ae Io) (aM Ip ae Iq) (aM Ir ae Is) al (bH an) al ae ae gV iq fo) ?_);rintro _ _⟨D4,y30_1,y30_2,wy30_2,y30_4,y30_5,y30_6,y30_7,rfl,afI,hy30_1,hdy30_2,hny30_2,hry30_2,hmy30_2,hey30_2,hy30_4,hy30_5,hy30_6,hy30_7⟩;exact eV 6 aa (bN aa aa ⟨D4,y30_1,y30_2,wy30_2,y30_4,y30_5,y30_6,y30_7,aa,⟨ae,ae,trivial⟩,hy30_1,hdy30_2,ae,(pj hry30_2 ae ae),ae,hey30_2,hy30_4,hy30_5,hy30_6,⟨ae,ae,ae⟩⟩)
theorem CheckN{T:aL}(F:FT T){nv mv:Nat}{P3 P4 P5:Ty}{a1 a2 a3 a4 a5:DC}{aI:Int}(jL:0≤aI)(jf:aI≤40)(bX:tJ.ok a1){U:ah}(uy:0≤U.length)(jX:U=[]→a2= .nil)(z:au U a2)(cY:U.length≤16)(Y:af (d8 nv mv) U)(cw:(P3).ok a3)(cb:(P4).ok a4)(cq:(P5).ok a5)(jY:nv≤99)(mL:mv≤100000)(gV:P3.ok i0)(iq:P4.ok .nil)(fo:P5.ok .nil):Sound T 37 [.agg [.d (dJ aI),.d a1,.d a2,.d a3,.d a4,.d a5]] fun r=>∃y0,r= .d y0∧tJ.ok y0:=by
 refine bk F.q37 aa ?_;obtain⟨aN,rfl,eD,eo⟩:=bX;refine r0 11 aa (bh [2,1,0] [1] aa aa (fun e0 b0 k VE B=>∃wE,ak ((3,.d (dJ wE))::e0) VE∧ak b0 B∧eg k 0 wE (U.length:Int)) ?_ fin);rintro _ VE B⟨wE,hV,hB,rfl,bU⟩;refine aT _ _ hV hB (aB 6 aa (aR aa z ?_));refine ro 2 aa ?_;refine ay aa ?_ ?_<;>intro g1
 ·refine rc 8 aa ?_;obtain⟨gC,jm,fJ,⟨nh,pD,mZ,pE⟩,fW,⟨NA,I,AD,Ha⟩,lD,lL,wI,yq,Pe,⟨D2,hdx2_5,afp,TL⟩,bQ⟩:=qI wE Y;refine aq (aH aa aa z ae bQ aa ?_);refine ro 6 aa (rp 3 aa (aU (aR aa I ?_)));refine rq 2 aa ?_;refine dL aa ?_ ?_<;>intro g3
  ·refine rq 1 aa (fx aa aa aa (aA aa (Iw F jm (aM pD ae pE) (aM I ae Ha) lL yq hdx2_5 ae TL) ?_));rintro _ _⟨gk,kX,rfl,tV,sa,sb,Aw,Dm⟩;refine rq 3 aa (fx aa aa aa (aA aa (CO F I ae Ha) ?_));rintro _ _⟨jG,iY,rfl,me,sh,kQ,tY,tZ⟩;refine fx aa aa aa (aA aa (adi F tV ae sb me ae kQ) ?_);rintro _ _⟨lP,q8,rfl,sg,xM,nL⟩;refine cn aa aa (aR aa sg ?_);exact rq 2 aa (W)
  exact rq 10 aa (W)
 refine rc 7 aa (bh [19,3,2,1,0] [1] aa aa (fun e0 b0 k VE B=>∃jc,ak ((5,.d (dJ jc))::e0) VE∧ak b0 B∧eg k 0 jc (U.length:Int)) ?_ fin);rintro _ VE B⟨jc,hV,hB,rfl,fi⟩;refine aT _ _ hV hB (aB 6 aa (aR aa z ?_));refine ro 2 aa ?_;refine ay aa ?_ ?_<;>intro g8
 ·refine rc 8 aa ?_;obtain⟨n7,kW,pX,⟨ahO,Hb,afJ,Hc⟩,Ca,ue,JC,⟨ahP,A,hnx9_3,L⟩,EE,uc,EF,⟨wx9_5,afK,hnx9_5,afL⟩,fw⟩:=qI jc Y;refine aq (aH aa aa z ae fw aa ?_);refine ro 9 aa (bh [47,19,6,5,3,2,1,0] [6,1] aa aa (fun e0 b0 k VE B=>∃Po,ak ((7,.d (dJ Po))::e0) VE∧ak b0 B∧eg k 0 Po (ahP.length:Int)) ?_ fin);rintro _ VE B⟨Po,hV,hB,rfl,oa⟩;refine aT _ _ hV hB (aB 7 aa (aR aa A ?_));refine ro 2 aa ?_;refine ay aa ?_ ?_<;>intro uK
  ·refine rc 9 aa ?_;obtain⟨_,rfl,MX,Az,_,rfl,sN⟩:=qI Po L;refine aq (aH aa aa A ae sN aa ?_);refine aP 14 aa (aA aa (Nu (aI:=aI) (nv:=nv) (mv:=mv) (P3:=P3) (P4:=P4) (P5:=P5) F ae ae al ae jX z ae Y cw cb cq Az ae ae gV iq fo) ?_);rintro _ _⟨Iy,rfl,Mf⟩;refine ro 7 aa ?_;refine ay aa ?_ ?_<;>intro ox
   ·refine rc 4 aa ?_;obtain⟨MY,GQ,UU,⟨wx14_1,hdx14_1,hnx14_1,hrx14_1⟩,Nx,G8,x14_3,hx14_3,x14_4,hx14_4,x14_5,⟨wx14_5,hdx14_5,hnx14_5,hrx14_5⟩,iI⟩:=qI Iy Y;refine aq (aH aa aa z ae iI aa ?_);refine aP 1 aa (aA aa (Iw F GQ (aM hdx14_1 ae hrx14_1) G8 hx14_3 hx14_4 hdx14_5 ae hrx14_5) ?_);rintro _ _⟨Nv,G6,rfl,Ak,Sc,Al,hmy15_0,hey15_0⟩;refine ro 5 aa (aO aa (aA aa (Iw F kW (aM Hb ae Hc) ue (aM A ae L) uc afK ae afL) ?_));rintro _ _⟨M',TN,rfl,Gs,adp,Gt,adq,adr⟩;refine rq 3 aa (aO aa (aA aa (CO F (.inl aa) ae tR) ?_));rintro _ _⟨y17_0,wy17_0,rfl,ads,hny17_0,adt,hmy17_0,hey17_0⟩;refine rq 2 aa (aO aa (aA aa (CO F (.inl aa) ae tR) ?_));rintro _ _⟨ahQ,afM,rfl,Sf,hny18_0,Sg,hmy18_0,hey18_0⟩;refine aO aa (aA aa (afx F Gs ae Gt Ak ae Al ads ae adt Sf ae Sg) ?_);rintro _ _⟨UF,wy19_0,rfl,acp,hny19_0,hry19_0⟩;refine aU (aR aa acp ?_);exact W
   refine rc 4 aa (aO aa (aA aa (Iw F kW (aM Hb ae Hc) ue (aM A ae L) uc afK ae afL) ?_));rintro _ _⟨y21_0,wy21_0,rfl,hdy21_0,hny21_0,hry21_0,hmy21_0,hey21_0⟩;refine rq 3 aa (aO aa (aA aa (CO F (.inl aa) ae tR) ?_));rintro _ _⟨Na,afu,rfl,LD,ac8,LF,ac9,ada⟩;refine rq 2 aa (aO aa (aA aa (CO F (.inl aa) ae tR) ?_));rintro _ _⟨Nh,Tm,rfl,CW,R1,CX,acM,hey23_0⟩;refine aO aa (aA aa (afx F hdy21_0 ae hry21_0 (.inr ⟨aa,aa⟩) ae cj LD ae LF CW ae CX) ?_);rintro _ _⟨D3,Mm,rfl,xB,R7,CY⟩;refine aU (aR aa xB ?_);exact W
  exact W
 refine rc 7 aa (bh [47,19,5,3,2,1,0] [1] aa aa (fun e0 b0 k VE B=>∃M,ak ((11,.d (dJ M))::e0) VE∧ak b0 B∧eg k 0 M (U.length:Int)) ?_ fin);rintro _ VE B⟨M,hV,hB,rfl,Jr⟩;refine aT _ _ hV hB (aB 6 aa (aR aa z ?_));refine ro 2 aa ?_;refine ay aa ?_ ?_<;>intro g26
 ·refine rc 8 aa ?_;obtain⟨x27_0,hx27_0,x27_1,⟨wx27_1,hdx27_1,hnx27_1,hrx27_1⟩,x27_2,hx27_2,x27_3,hx27_3,x27_4,⟨wx27_4,G,hnx27_4,Z⟩,x27_5,⟨wx27_5,hdx27_5,hnx27_5,hrx27_5⟩,Xe⟩:=qI M Y;refine aq (aH aa aa z ae Xe aa ?_);refine ro 9 aa (bh [97,47,19,12,11,5,3,2,1,0] [12,1] aa aa (fun e0 b0 k VE B=>∃O,ak ((13,.d (dJ O))::e0) VE∧ak b0 B∧eg k 0 O (wx27_4.length:Int)) ?_ fin);rintro _ VE B⟨O,hV,hB,rfl,Js⟩;refine aT _ _ hV hB (aB 7 aa (aR aa G ?_));refine ro 2 aa ?_;refine ay aa ?_ ?_<;>intro Qd
  ·refine rc 9 aa ?_;obtain⟨IA,vA,Bk,⟨wx29_1,acV,hnx29_1,acW⟩,od⟩:=qI O Z;refine aq (aH aa aa G ae od aa ?_);refine ro 7 aa (aO aa (aA aa (Iw F hx27_0 (aM hdx27_1 ae hrx27_1) hx27_2 hx27_3 (aM G ae Z) hdx27_5 ae hrx27_5) ?_));rintro _ _⟨D4,TE,rfl,Gq,adb,Gr,ade,adf⟩;refine rq 4 aa (aO aa (aA aa (CO F acV ae acW) ?_));rintro _ _⟨UI,aeK,rfl,Ls,acy,Lt,hmy31_0,hey31_0⟩;refine aO aa (aA aa (ConVioC F Gq ae Gr vA Ls ae Lt) ?_);rintro _ _⟨y32_0,wy32_0,rfl,hdy32_0,hny32_0,hry32_0⟩;refine aU (aR aa hdy32_0 ?_);exact W
  exact W
 exact W
theorem CommitN{T:aL}(F:FT T){nv:Nat}{P3 P4 P5:Ty}{a1 a2 a3 a4 a5 a6:DC}{aI:Int}(jL:0≤aI)(jf:aI≤30)(bX:tJ.ok a1){bz:ah}(uy:0≤bz.length)(jX:bz=[]→a2= .nil)(cr:au bz a2)(cY:bz.length≤16)(bY:af (d8 nv 4096) bz)(cw:(P3).ok a3)(cb:(P4).ok a4)(cq:(P5).ok a5){gW:ah}(gw:au gW a6)(yW:gW.length≤2)(jd:af MO gW)(jY:nv≤97)(PL:1≤nv)(gV:P3.ok i0)(iq:P4.ok .nil)(fo:P5.ok .nil):Sound T 17 [.agg [.d (dJ aI),.d a1,.d a2,.d a3,.d a4,.d a5],.d a6] fun r=>∃y0 y1 y2 dH y4 y5 y6 y7,r= .tuple [.agg [.d (dJ y0),.d y1,.d y2,.d y4,.d y5,.d y6],.d (dJ y7)]∧(0≤y0∧y0≤40∧(True))∧tJ.ok y1∧au dH y2∧(dH.length:Int)≤16∧af (d8 (nv+2) 4096) dH∧0≤(dH.length:Int)∧(dH=[]→y2= .nil)∧(P3).ok y4∧(P4).ok y5∧(P5).ok y6∧((-9223372036854775808)≤y7∧y7≤9223372036854775807∧(y7=0→y0=aI+1)):=by
 refine bk F.q17 aa ?_;obtain⟨aN,rfl,eD,eo⟩:=bX;refine r0 10 aa ?_;have k0:=mvI_0;refine aq (aR aa gw ?_);refine ro 2 aa ?_;refine ay aa ?_ ?_<;>intro h1
 ·exact W
 refine rc 7 aa (bh [13,5,4,2,1,0] [4] aa aa (fun e0 b0 k VE B=>∃G L Z O A Mr Ms Mt,ak ((6,.d (dJ G))::e0) VE∧ak ((2,.one 29 96 [.d (dJ L),.d Z,.d O,.d Mr,.d Ms,.d Mt])::b0) B∧k=((gW.length:Int) -G).toNat∧(0≤G∧(G≤(gW.length:Int)∨G=0))∧(L=aI)∧(tJ.ok Z)∧(au A O)∧((A.length:Int)≤16)∧(af (d8 (nv+G.toNat) (xg G.toNat)) A)∧(A=[]→O= .nil)∧((P3).ok Mr)∧((P4).ok Ms)∧((P5).ok Mt)) ?_ fin);rintro _ VE B⟨G,L,Z,O,A,Mr,Ms,Mt,hV,hB,rfl,bU,cN,Sh,I,wu,U,Y,Si,Sj,Sk⟩;refine aT _ _ hV hB (aB 5 aa (aR aa gw ?_));refine ro 2 aa ?_;refine ay aa ?_ ?_<;>intro g2
 ·refine rc 8 aa ?_;obtain⟨p',U9,sM,qZ,BL,rb,aj8,U',aj9,Nq,aka,Nr,x3_6,Va,x3_7,Vb,x3_8,Vc,x3_9,Vd,x3_10,hx3_10,x3_11,hx3_11,x3_12,hx3_12,x3_13,hx3_13,x3_14,hx3_14,x3_15,hx3_15,fL⟩:=qI G jd;refine aU (aH aa aa gw ae fL aa ?_);refine cE aa aa (ia aa (aV aa) (aV aa) ?_);have km:=mvI_lt (z:=G) ae ae;have ks:=mvI_s (z:=G) ae;refine aO aa (aA aa (StepN (aI:=L) (nv:=nv+G.toNat) (mv:=xg G.toNat) F ae ae Sh ae Y I ae U Si Sj Sk U9 qZ rb U' Nq Nr Va Vb Vc Vd hx3_10 hx3_11 hx3_12 hx3_13 hx3_14 hx3_15 ae ae ae gV iq fo) ?_);rintro _ _⟨gk,sR,uA,Bl,Cc,EI,JL,Pl,rfl,t8,vL,AL,TJ,AM,afB,G',Ny,Nz,U8,hy4_7⟩;refine rq 13 aa ?_;refine ay aa ?_ ?_<;>intro h5
  ·exact W
  refine aB 7 aa (bB aa aa ae ae ?_);exact dC 2 aa (⟨((gW.length:Int) -((G+1))).toNat,ae,(G+1),gk,sR,uA,Bl,Cc,EI,JL,⟨aa,aa,aa,aa,aa,aa,aa,trivial⟩,⟨aa,aa,trivial⟩,aa,ae,ae,vL,AL,ae,(pj AM ae ae),G',Ny,Nz,U8⟩)
 refine rc 7 aa (bh [18,13,6,5,4,2,1,0] [4,2] aa aa (fun e0 b0 k VE B=>∃M,ak ((9,.d (dJ M))::e0) VE∧ak b0 B∧k=((A.length:Int) -M).toNat∧(0≤M∧(M≤(A.length:Int)∨M=0))∧(af (d8 (nv+2) 4096) (A.take M.toNat))) ?_ fin);rintro _ VE B⟨M,hV,hB,rfl,fi,gl⟩;refine aT _ _ hV hB (aB 6 aa (aR aa I ?_));refine ro 2 aa ?_;refine ay aa ?_ ?_<;>intro g6
 ·refine rc 8 aa ?_;obtain⟨ns,nf,n9,qW,yP,yi,VT,H7,VU,H8,VW,⟨wx7_5,hdx7_5,hnx7_5,hrx7_5⟩,eF⟩:=qI M U;refine aq (aH aa aa I ae eF aa ?_);refine aP 2 aa (aR aa hdx7_5 ?_);refine ro 2 aa ?_;refine ay aa ?_ ?_<;>intro h8
  ·exact W
  refine aB 3 aa (bB aa aa ae ae ?_);refine dC 2 aa ?_;exact⟨((A.length:Int) -((M+1))).toNat,ae,(M+1),⟨rfl,rfl,rfl,rfl,rfl,rfl,rfl,rfl,rfl,trivial⟩,⟨rfl,rfl,trivial⟩,rfl,ae,(by first|assumption|exact okRs_take0|exact okRs_takeS (by assumption) ae (by assumption) (aj (by assumption) (aj (ok_lm (by assumption) ae) (aj (by assumption) (aj (by assumption) (aj (by assumption) (aj (aM (by assumption) ae (by assumption)) bm)))))))⟩
 refine rc 5 aa ?_;have kl:=mvI_le (z:=G) ae ae;refine aq (aA aa (CheckN (aI:=L) (nv:=nv+G.toNat) (mv:=xg G.toNat) F ae ae Sh ae Y I ae U Si Sj Sk ae ae gV iq fo) ?_);rintro _ _⟨_,rfl,Ib,rfl,SW,SX⟩;refine ro 4 aa (rp 3 aa ?_);refine ay aa ?_ ?_<;>intro Yt
 ·exact W
 refine aB 5 aa (bB aa aa ae ae ?_);refine ro 5 aa ?_;skip;exact rpx 5 aa (bN aa aa ⟨(L+1),Z,O,A,Mr,Ms,Mt,0,aa,⟨ae,ae,trivial⟩,Sh,I,ae,(okRs_takeA dZ ae),ae,Y,Si,Sj,Sk,⟨ae,ae,ae⟩⟩)
end Go.Ev.Rp
namespace Go.Ev.Rp
open Go Go.Ev.Pp
attribute [local irreducible] VC VO VQ VI Sound bW
theorem keptY{T:aL}(F:FT T){a0 a1 a2 a3 a4 a5 a6 a7 a8 a9 Y Z:DC}(cV:(Ty.x).ok a0)(bX:(Ty.x).ok a1)(cK:(Ty.x).ok a2)(cw:tJ.ok a3){G:ah}(A:au G a4)(e9:G.length≤13)(I:af iW G)(cq:(Ty.x).ok a5)(fC:tJ.ok a6)(gn:(Ty.l 1000000000 cB).ok a7)(gp:tJ.ok a8)(il:tJ.ok a9)(nk:tJ.ok Y)(qb:tJ.ok Z):Sound T 136 [.agg [.d a0,.d a1,.d a2,.d a3,.d a4,.d a5],.agg [.d a6,.d a7,.d a8,.d a9,.d Y,.d Z]] fun r=>∃y0,r= .d y0∧(Ty.b).ok y0:=by
 refine bk F.ajf aa ?_;rcases cw,fC,gn,gp,il,nk,qb with⟨⟨aZ,rfl,kC,kD⟩,⟨bE,rfl,o0,o4⟩,⟨wV,Eu,OK,Ew⟩,⟨gS,rfl,wb,wg⟩,⟨hZ,rfl,BI,BJ⟩,⟨Pc,rfl,Ni,Nj⟩,⟨fh,rfl,U0,U1⟩⟩
 refine r0 16 aa ?_;refine bu aa ?_ ?_<;>intro g1
 ·refine ro 2 aa (bw aa aa (aA aa (pB F al al) ?_));rintro _ _⟨_,rfl,by2_0,rfl⟩;refine ro 2 aa ?_;refine cF aa ?_ ?_<;>intro h3
  ·exact W
  refine rc 7 aa (bh [18,4,3,2,1,0] [3,2] aa aa (fun e0 b0 k VE B=>∃z,ak ((5,.d (dJ z))::e0) VE∧ak b0 B∧eg k 0 z (G.length:Int)) ?_ fin);rintro _ VE B⟨z,hV,hB,rfl,bU⟩;refine aT _ _ hV hB (aB 6 aa (aR aa A ?_));refine ro 2 aa ?_;refine ay aa ?_ ?_<;>intro g4
  ·refine rc 10 aa ?_;obtain⟨Ey,A6,B5,L,Jt,M,eW⟩:=qI z I;refine aU (aH aa aa A ae eW aa ?_);refine rq 1 aa (cE aa aa (ia aa (aV aa) (aV aa) ?_));refine aO aa (aA aa (Dl F al al L M) ?_);rintro _ _⟨lP,yN,uw,rfl,t6,vK,DZ⟩;exact W
  exact W
 refine ro 5 aa (dn aa aa (rc 7 aa (bh [18,4,3,2,1,0] [3,2] aa aa (fun e0 b0 k VE B=>∃z,ak ((5,.d (dJ z))::e0) VE∧ak b0 B∧eg k 0 z (G.length:Int)) ?_ fin)));rintro _ VE B⟨z,hV,hB,rfl,bU⟩;refine aT _ _ hV hB (aB 6 aa (aR aa A ?_));refine ro 2 aa ?_;refine ay aa ?_ ?_<;>intro g8
 ·refine rc 10 aa ?_;obtain⟨n7,kW,pX,O,Ca,U,fw⟩:=qI z I;refine aU (aH aa aa A ae fw aa ?_);refine rq 1 aa (cE aa aa (ia aa (aV aa) (aV aa) ?_));refine aO aa (aA aa (Dl F al al O U) ?_);rintro _ _⟨nO,A7,DM,rfl,Av,SJ,hy10_2⟩;exact W
 exact W
theorem afN{T:aL}(F:FT T){nv mv:Nat}{P5:Ty}{a1 a2 a4 a5:DC}{aI:Int}(jL:0≤aI)(jf:aI≤40)(bX:tJ.ok a1){O:ah}(cr:au O a2)(cY:O.length≤16)(bY:af (d8 nv mv) O){aZ:Int}(ij:0≤aZ)(ik:aZ≤aI){M:ah}(EJ:0≤M.length)(Pq:M=[]→a4= .nil)(dE:au M a4)(e9:M.length≤13)(dk:af iW M)(cq:(P5).ok a5)(jY:nv≤99)(mL:mv≤100000)(fo:P5.ok .nil):Sound T 82 [.agg [.d (dJ aI),.d a1,.d a2,.d (dJ aZ),.d a4,.d a5]] fun r=>∃y0 y1 U y3 Y y5,r= .agg [.d (dJ aI),.d y0,.d y1,.d (dJ aZ),.d y3,.d y5]∧tJ.ok y0∧au U y1∧(U.length:Int)≤16∧af (d8 nv mv) U∧0≤(U.length:Int)∧(U=[]→y1= .nil)∧au Y y3∧(Y.length:Int)≤M.length∧af iW Y∧0≤(Y.length:Int)∧(Y=[]→y3= .nil)∧(P5).ok y5:=by
 refine bk F.q82 aa ?_;obtain⟨aN,rfl,eD,eo⟩:=bX;refine r0 15 aa (dz 3 90 43 136 6 aa aa (bh [2,1,0] [2,1] aa aa (fun e0 b0 k VE B=>∃z I,ak ((3,.ac 90 I.length 6)::(4,.d (dJ z))::e0) VE∧ak ((90,.acc 43 136 6 I)::b0) B∧k=((O.length:Int) -z).toNat∧(0≤z∧(z≤(O.length:Int)∨z=0))∧((I.length:Int)≤z)∧(af (d8 nv mv) I)) ?_ fin));rintro _ VE B⟨z,I,hV,hB,rfl,bU,cN,Dh⟩;refine aT _ _ hV hB (aB 6 aa (aR aa cr ?_));refine ro 2 aa ?_;refine ay aa ?_ ?_<;>intro g1
 ·refine rc 8 aa ?_;obtain⟨_,⟨Z,rfl,Hd⟩,fJ,⟨nh,pD,mZ,pE⟩,fW,⟨NA,afO,AD,Ha⟩,lD,⟨No,Md,Me,Dq⟩,wI,⟨wx2_4,afP,hnx2_4,afQ⟩,Pe,⟨D2,L,afp,TL⟩,bQ⟩:=qI z bY;refine aq (aH aa aa cr ae bQ aa ?_);refine ro 14 aa (dz 6 91 48 64 6 aa aa (bh [12,5,4,3,2,1,0] [90,5,2,1] aa aa (fun e0 b0 k VE B=>∃A G,ak ((6,.ac 91 G.length 6)::(7,.d (dJ A))::e0) VE∧ak ((91,.acc 48 64 6 G)::b0) B∧k=((D2.length:Int) -A).toNat∧(0≤A∧(A≤(D2.length:Int)∨A=0))∧((G.length:Int)≤A)∧(af gj G)) ?_ fin));rintro _ VE B⟨A,G,hV,hB,rfl,fi,gl,hrw6_1⟩;refine aT _ _ hV hB (aB 6 aa (aR aa L ?_));refine ro 2 aa ?_;refine ay aa ?_ ?_<;>intro g3
  ·refine rc 9 aa ?_;obtain⟨o5,kx,fr,jT,pU,oO,Jc,sq,Xf,yv,Xg,D5,dh⟩:=qI A TL;refine aU (aH aa aa L ae dh aa ?_);refine cE aa aa (ia aa (aV aa) (aV aa) ?_);refine aO aa (aA aa (keptY F cg cg cg al dE ae dk cg kx jT oO sq yv D5) ?_);rintro _ _⟨_,rfl,Ih,rfl⟩;refine rq 1 aa ?_;refine cF aa ?_ ?_<;>intro h6
   ·refine aB 5 aa (aH aa aa L ae dh aa ?_);rcases Ty.dV kx,Ty.aM jT,Ty.dV oO,Ty.dV sq,Ty.dV yv,Ty.dV D5 with⟨⟨q7,rfl,qK,qL⟩,⟨IH,He,G7,Hf⟩,⟨ahR,rfl,hzx4_2,kzx4_2⟩,⟨ahS,rfl,hzx4_3,kzx4_3⟩,⟨H5,rfl,hzx4_4,kzx4_4⟩,⟨H6,rfl,hzx4_5,kzx4_5⟩⟩
    refine ro 2 aa ?_;refine aq (aY (rows:=G) (ys:=[[(dJ q7),fr,(dJ ahR),(dJ ahS),(dJ H5),(dJ H6)]]) rfl rfl rfl (.bs (rows:=[[(dJ q7),fr,(dJ ahR),(dJ ahS),(dJ H5),(dJ H6)]]) rfl) ao ae (fun h=>by rw[h];rfl) (fun h=>by rw[h];rfl) ?_);exact W
   exact W
  refine rc 5 aa (eL 42 91 aa aa (fun _=>⟨aa,aa⟩) (ro 3 aa (rp 3 aa ?_)));refine aq (aY (rows:=I) (ys:=[[(aw Z),fJ,fW,lD,wI,(.cR G)]]) rfl rfl rfl (.bs (rows:=[[(aw Z),fJ,fW,lD,wI,(.cR G)]]) rfl) ao ae (fun h=>by rw[h];rfl) (fun h=>by rw[h];rfl) ?_);exact W
 exact rc 5 aa (eL 48 90 aa aa (fun _=>⟨aa,aa⟩) (W))
theorem ForgetY{T:aL}(F:FT T){nv mv:Nat}{P5:Ty}{a1 a2 a4 a5 a6:DC}{aI:Int}(jL:0≤aI)(jf:aI≤40)(bX:tJ.ok a1){I:ah}(L:au I a2)(cY:I.length≤16)(M:af (d8 nv mv) I){aZ:Int}(ij:0≤aZ)(ik:aZ≤aI){z:ah}(EJ:0≤z.length)(O:z=[]→a4= .nil)(U:au z a4)(e9:z.length≤13)(Y:af iW z)(cq:(P5).ok a5)(fC:tJ.ok a6)(jY:nv≤99)(mL:mv≤100000)(fo:P5.ok .nil):Sound T 52 [.agg [.d (dJ aI),.d a1,.d a2,.d (dJ aZ),.d a4,.d a5],.d a6] fun r=>∃Z y1 y2 A y4 y5 G y7 y8,r= .tuple [.agg [.d (dJ Z),.d y1,.d y2,.d (dJ y4),.d y5,.d y7],.d (dJ y8)]∧(0≤Z∧Z≤40∧(True))∧tJ.ok y1∧au A y2∧(A.length:Int)≤16∧af (d8 nv mv) A∧0≤(A.length:Int)∧(A=[]→y2= .nil)∧(0≤y4∧y4≤40∧(True))∧au G y5∧(G.length:Int)≤z.length∧af iW G∧0≤(G.length:Int)∧(G=[]→y5= .nil)∧(P5).ok y7∧((-9223372036854775808)≤y8∧y8≤9223372036854775807∧(y8=0→Z=aI∧y4≤aI)):=by
 refine bk F.q52 aa ?_;rcases bX,fC with⟨⟨aN,rfl,eD,eo⟩,⟨bE,rfl,o0,o4⟩⟩
 refine r0 12 aa ?_;refine bu aa ?_ ?_<;>intro h1
 ·exact W
 refine ro 6 aa ?_;refine ay aa ?_ ?_<;>intro h2
 ·exact W
 refine rc 9 aa ?_;refine ay aa ?_ ?_<;>intro h3
 ·exact W
 refine aB 10 aa (aA aa (afN (aI:=aI) (aZ:=bE) (nv:=nv) (mv:=mv) (P5:=P5) F ae ae al L ae M ae ae ae O U ae Y cq ae ae fo) ?_);rintro _ _⟨gk,sR,wy4_1,Wm,wy4_3,EI,rfl,t8,hdy4_1,hny4_1,hry4_1,hmy4_1,hey4_1,hdy4_3,hny4_3,hry4_3,hmy4_3,hey4_3,Nz⟩;exact W
theorem ReleaseY{T:aL}(F:FT T){nv mv:Nat}{P5:Ty}{a1 a2 a4 a5 a6:DC}{aI:Int}(jL:0≤aI)(jf:aI≤40)(bX:tJ.ok a1){Y:ah}(Z:au Y a2)(cY:Y.length≤16)(bY:af (d8 nv mv) Y){aZ:Int}(ij:0≤aZ)(ik:aZ≤aI){A:ah}(EJ:0≤A.length)(U:A=[]→a4= .nil)(I:au A a4)(e9:A.length≤13)(L:af iW A)(cq:(P5).ok a5)(fC:tJ.ok a6)(jY:nv≤99)(mL:mv≤100000)(fo:P5.ok .nil):Sound T 51 [.agg [.d (dJ aI),.d a1,.d a2,.d (dJ aZ),.d a4,.d a5],.d a6] fun r=>∃y0 y1 y2 M y4 y5 O y7 y8,r= .tuple [.agg [.d (dJ y0),.d y1,.d y2,.d (dJ y4),.d y5,.d y7],.d (dJ y8)]∧(0≤y0∧y0≤40∧(True))∧tJ.ok y1∧au M y2∧(M.length:Int)≤16∧af (d8 nv mv) M∧0≤(M.length:Int)∧(M=[]→y2= .nil)∧(0≤y4∧y4≤40∧(True))∧au O y5∧(O.length:Int)≤A.length∧af iW O∧0≤(O.length:Int)∧(O=[]→y5= .nil)∧(P5).ok y7∧((-9223372036854775808)≤y8∧y8≤9223372036854775807∧(y8=0→y0=aI∧y4=aZ)):=by
 refine bk F.q51 aa ?_;rcases bX,fC with⟨⟨aN,rfl,eD,eo⟩,⟨bE,rfl,o0,o4⟩⟩
 refine r0 12 aa (bh [5,4,2,1,0] [4,2] aa aa (fun e0 b0 k VE B=>∃G,ak ((6,.d (dJ G))::e0) VE∧ak b0 B∧eg k 0 G (A.length:Int)) ?_ fin);rintro _ VE B⟨G,hV,hB,rfl,bU⟩;refine aT _ _ hV hB (aB 6 aa (aR aa I ?_));refine ro 2 aa ?_;refine ay aa ?_ ?_<;>intro g1
 ·refine rc 8 aa ?_;obtain⟨_,⟨oU,rfl,qJ,sd⟩,fJ,iX,fW,iC,bQ⟩:=qI G L;refine aq (aH aa aa I ae bQ aa ?_);refine ro 5 aa ?_;refine ay aa ?_ ?_<;>intro g3
  ·refine rc 5 aa ?_;obtain⟨j4,ov,lG⟩:=bx (z:=G) (n:=A.length+1) ae ae;refine aU (eC (l:=0) (h:=j4) rfl I L rfl U ⟨_,(by rw[←ov];rfl)⟩ rfl ae ae (fun d5 w5 mM Fq lH=>?_));refine aO aa (VI.fresh aa (ed (ys:=w5) 26 aa aa aa aa aa (.sD mM (cC lH aa)) ao ae ?_));refine db 3 aa (bB aa aa ae ae ?_);obtain⟨j6,ts,qy⟩:=bx (z:=(G+1)) (n:=A.length+1) ae ae;refine aU (eC (l:=j6) (h:=A.length) rfl I L rfl U rfl ⟨_,(by rw[←ts];rfl)⟩ ae ae (fun d7 w7 hd7 Fm PR=>?_));refine aO aa (aY (rows:=w5) (ys:=w7) aa aa aa (.sD hd7 (cC PR aa)) ao ae bP bP ?_);refine rq 1 aa (l9 32 26 aa aa (fun _=>⟨aa,aa⟩) (rq 5 aa ?_));refine aq (aA rfl (afN (aI:=aI) (aZ:=aZ) (nv:=nv) (mv:=mv) (P5:=P5) F ae ae al Z ae bY ae ae ae (fun h=>by rw[h];rfl) (.acc _) BD (eB lH PR) cq ae ae fo) ?_);rintro _ _⟨sQ,JK,wy8_1,y8_3,wy8_3,akk,rfl,Bd,TH,hny8_1,TI,hmy8_1,hey8_1,hdy8_3,hny8_3,hry8_3,hmy8_3,hey8_3,hy8_5⟩;exact W
  exact W
 exact W
end Go.Ev.Rp
namespace Go.Ev.Rp
open Go Go.Ev.Pp
attribute [local irreducible] VC VO VQ VI Sound bW
theorem SubC{T:aL}(F:FT T){a0 a1 a2 a3:DC}(U:tJ.ok a0)(Y:tJ.ok a1)(Z:tJ.ok a2)(cw:tJ.ok a3):Sound T 190 [.agg [.d a0,.d a1],.agg [.d a2,.d a3]] fun r=>∃y0 G,r= .d y0∧au G y0∧(G.length:Int)≤2∧af ez G:=by
 refine bk F.q190 aa ?_;rcases U,Y,Z,cw with⟨⟨aI,rfl,iF,iG⟩,⟨aN,rfl,eD,eo⟩,⟨bo,rfl,lA,lB⟩,⟨aZ,rfl,kC,kD⟩⟩
 refine bV 10 aa (aA aa (pB F al al) ?_);rintro _ _⟨_,rfl,UM,rfl⟩;refine ro 2 aa ?_;refine cF aa ?_ ?_<;>intro h2
 ·exact W
 refine aB 5 aa (aA aa (Dl F al al al al) ?_);rintro _ _⟨_,_,_,rfl,⟨A,rfl,I,L⟩,⟨z,rfl,M,O⟩,ahC,rfl⟩;refine ro 10 aa (rp 3 aa ?_);refine cF aa ?_ ?_<;>intro h4
 ·refine rc 6 aa ?_;have Cv:af ez [[(dJ aI),(dJ aN)]]:=(cI (aj al (aj al bm)) cj);exact kN 4 20 aa aa (fun _=>⟨aa,aa⟩) (W)
 refine rc 8 aa (rp 6 aa ?_);refine ay aa ?_ ?_<;>intro g6
 ·refine aB 8 aa (ed (ys:=[[(dJ aI),(dJ A)]]) 33 aa aa aa aa aa (.bs (rows:=[[(dJ aI),(dJ A)]]) aa) ao ae ?_);refine ro 5 aa (rp 6 aa ?_);refine ay aa ?_ ?_<;>intro g7
  ·refine aB 8 aa (aY (rows:=[[(dJ aI),(dJ A)]]) (ys:=[[(dJ z),(dJ aN)]]) aa aa aa (.bs (rows:=[[(dJ z),(dJ aN)]]) aa) ao ae (fun h=>absurd h bI) (fun h=>absurd h bI) ?_);exact ro 7 aa (ct 4 33 aa aa (fun _=>⟨aa,aa⟩) (fE 1 aa (bN aa aa ⟨(.cR ([[(dJ aI),(dJ A)]]++[[(dJ z),(dJ aN)]])),([[(dJ aI),(dJ A)]]++[[(dJ z),(dJ aN)]]),aa,(.acc _),BC,(eB (ee (aj al (aj al bm))) (ee (aj al (aj al bm))))⟩)))
  exact rc 6 aa (ct 4 33 aa aa (fun _=>⟨aa,aa⟩) (W))
 refine rc 4 aa (rp 6 aa ?_);refine ay aa ?_ ?_<;>intro g8
 ·refine aB 8 aa (ed (ys:=[[(dJ z),(dJ aN)]]) 46 aa aa aa aa aa (.bs (rows:=[[(dJ z),(dJ aN)]]) aa) ao ae ?_);exact ro 7 aa (ct 4 46 aa aa (fun _=>⟨aa,aa⟩) (W))
 exact W
end Go.Ev.Rp
namespace Go.Ev.Rp
open Go Go.Ev.Pp
attribute [local irreducible] VC VO VQ VI Sound bW
def dd(z:Int):Int:=2^z.toNat
theorem dd_0:dd 0=1:=rfl
theorem akl{z:Int}(h:0≤z):dd (z+1)=2*dd z:=by
 unfold dd;rw[show(z+1).toNat=z.toNat+1 by omega,Int.pow_succ,Int.mul_comm]
theorem dd_le{z:Int}(h:0≤z)(h2:z≤13):1≤dd z∧dd z≤8192:=by
 unfold dd;have:z.toNat≤13:=by omega
 generalize z.toNat=n at this;have:∀m:Nat,m≤13→1≤(2:Int)^m∧(2:Int)^m≤8192:=by decide
 exact this n dZ
theorem SubSC{T:aL}(F:FT T){a0 a1:DC}{bM:ah}(cJ:au bM a0)(cM:bM.length≤1)(bO:af ez bM){M:ah}(cO:au M a1)(dm:M.length≤13)(cl:af ez M):Sound T 131 [.d a0,.d a1] fun r=>∃y0 bt,r= .d y0∧au bt y0∧(bt.length:Int)≤8192∧af ez bt:=by
 refine bk F.q131 aa (r0 6 aa ?_);have k0:=dd_0;refine hY 1 aa (aA aa (Nw F cJ ae bO) ?_);rintro _ _⟨dG,fq,rfl,Y,jP,Z,nJ,pC⟩;refine ro 8 aa (bh [4,1,0] [] aa aa (fun e0 b0 k VE B=>∃O G A,ak ((5,.d O)::(6,.d (dJ A))::e0) VE∧ak b0 B∧k=((M.length:Int) -A).toNat∧(au G O)∧((G.length:Int)≤dd A)∧(af ez G)∧(G=[]→O= .nil)∧(0≤A∧(A≤(M.length:Int)∨A=0))) ?_ (k:=((M.length:Int) -0).toNat) ⟨dG,fq,0,⟨aa,aa,aa,aa,aa,trivial⟩,trivial,aa,Y,ae,Z,pC,ae⟩);rintro _ VE B⟨O,G,A,hV,hB,rfl,U,cN,Tb,aeR,wu⟩;refine aT _ _ hV hB (rc 4 aa ?_);have k9:=dd_le (z:=A) ae ae;refine hY 1 aa (aR aa cO ?_);refine ro 2 aa ?_;refine ay aa ?_ ?_<;>intro g2
 ·refine rc 5 aa ?_;have k1:=akl (z:=A) ae;refine rp 8 aa (dz 7 90 46 16 2 aa aa (bh [14,6,5,4,1,0] [] aa aa (fun e0 b0 k VE B=>∃I L,ak ((7,.ac 90 L.length 2)::(8,.d (dJ I))::e0) VE∧ak ((90,.acc 46 16 2 L)::b0) B∧k=((G.length:Int) -I).toNat∧(0≤I∧(I≤(G.length:Int)∨I=0))∧((L.length:Int)≤2*I)∧(af ez L)) ?_ fin));rintro _ VE B⟨I,L,hV,hB,rfl,fi,gl,TO⟩;refine aT _ _ hV hB (aB 5 aa (aR aa U ?_));refine ro 2 aa ?_;refine ay aa ?_ ?_<;>intro g3
  ·refine rc 7 aa ?_;obtain⟨o5,kx,fr,jT,dh⟩:=qI I Tb;refine aU (aH aa aa U ae dh aa ?_);refine cE aa aa (ia aa (aV aa) (aV aa) ?_);refine rq 2 aa ?_;obtain⟨Ey,A6,B5,yp,eW⟩:=qI A cl;refine aU (aH aa aa cO ae eW aa ?_);refine cE aa aa (ia aa (aV aa) (aV aa) ?_);refine aO aa (aA aa (SubC F kx jT A6 yp) ?_);rintro _ _⟨lP,q8,rfl,sg,xM,nL⟩;refine aO rfl (aY (rows:=L) (ys:=q8) rfl rfl rfl (.sD sg (cC nL rfl)) ao ae (fun h=>by rw[h];rfl) (fun h=>by rw[h];rfl) ?_);have k1:=akl (z:=A) ae;exact W
  refine rc 1 aa (ct 7 90 aa aa (fun _=>⟨aa,aa⟩) (aB 6 aa (bB aa aa ae ae ?_)));refine dC 2 aa ?_;exact⟨((M.length:Int) -((A+1))).toNat,ae,(.cR L),L,(A+1),⟨rfl,rfl,rfl,rfl,rfl,trivial⟩,trivial,rfl,(.acc _),ae,TO,(fun h=>by rw[h];rfl),ae⟩
 exact W
end Go.Ev.Rp
namespace Go.Ev.Rp
open Go Go.Ev.Pp
attribute [local irreducible] VC VO VQ VI Sound bW
theorem ahT{T:aL}(F:FT T){a0 a1 a2 a3 a4 a5:DC}(cV:(Ty.x).ok a0)(bX:(Ty.x).ok a1)(cK:(Ty.x).ok a2)(cw:tJ.ok a3){G:ah}(O:au G a4)(e9:G.length≤13)(Y:af iW G)(cq:(Ty.x).ok a5):Sound T 81 [.agg [.d a0,.d a1,.d a2,.d a3,.d a4,.d a5]] fun r=>∃y0 U,r= .d y0∧au U y0∧(U.length:Int)≤8192∧af ez U:=by
 refine bk F.q81 aa ?_;obtain⟨aZ,rfl,kC,kD⟩:=cw;refine r0 15 aa (dz 3 90 46 16 2 aa aa (bh [2,1,0] [1] aa aa (fun e0 b0 k VE B=>∃z A,ak ((3,.ac 90 A.length 2)::(4,.d (dJ z))::e0) VE∧ak ((90,.acc 46 16 2 A)::b0) B∧k=((G.length:Int) -z).toNat∧(0≤z∧(z≤(G.length:Int)∨z=0))∧((A.length:Int)≤z)∧(af ez A)) ?_ fin));rintro _ VE B⟨z,A,hV,hB,rfl,bU,cN,M⟩;refine aT _ _ hV hB (aB 6 aa (aR aa O ?_));refine ro 2 aa ?_;refine ay aa ?_ ?_<;>intro g1
 ·refine rc 8 aa ?_;obtain⟨gC,jm,_,⟨I,rfl,Z,oG⟩,_,⟨L,rfl,vt,vu⟩,bQ⟩:=qI z Y;refine aq (aH aa aa O ae bQ aa ?_);refine ro 3 aa ?_;refine aq (aY (rows:=A) (ys:=[[(dJ I),(dJ L)]]) rfl rfl rfl (.bs (rows:=[[(dJ I),(dJ L)]]) rfl) ao ae (fun h=>by rw[h];rfl) (fun h=>by rw[h];rfl) ?_);exact W
 refine rc 1 aa (ct 3 90 aa aa (fun _=>⟨aa,aa⟩) (rc 7 aa ?_));have qo:af ez [[i0,(dJ aZ)]]:=(cI (aj al (aj al bm)) cj);refine eS 24 24 aa aa (fun _=>⟨aa,aa⟩) (aq (aA aa (SubSC F (.inl aa) ae qo (.acc _) ae M) ?_));rintro _ _⟨gk,kX,rfl,tV,sa,sb⟩;exact W
theorem IntSC{T:aL}(F:FT T){a0 a1:DC}{bM:ah}(cJ:au bM a0)(cM:bM.length≤1)(bO:af ez bM){bD:ah}(cO:au bD a1)(dm:bD.length≤8192)(cl:af ez bD):Sound T 80 [.d a0,.d a1] fun r=>∃y0 bt,r= .d y0∧au bt y0∧(bt.length:Int)≤8192∧af ez bt:=by
 refine bk F.q80 aa (bV 7 aa (aA aa (Nw F cJ ae bO) ?_));rintro _ _⟨dG,O,rfl,L,jP,fF,nJ,pC⟩;refine aP 1 aa (aA aa (Nw F cO ae cl) ?_);rintro _ _⟨n6,U,rfl,M,Di,tW,afR,afS⟩;refine ro 13 aa (dz 5 90 46 16 2 aa aa (bh [4,1,0] [] aa aa (fun e0 b0 k VE B=>∃z I,ak ((5,.ac 90 I.length 2)::(6,.d (dJ z))::e0) VE∧ak ((90,.acc 46 16 2 I)::b0) B∧k=((O.length:Int) -z).toNat∧(0≤z∧(z≤(O.length:Int)∨z=0))∧((I.length:Int)≤8192*z)∧(af ez I)) ?_ fin));rintro _ VE B⟨z,I,hV,hB,rfl,bU,cN,pA⟩;refine aT _ _ hV hB (aB 5 aa (aR aa L ?_));refine ro 2 aa ?_;refine ay aa ?_ ?_<;>intro g3
 ·refine rc 8 aa (bh [17,6,4,1,0] [] aa aa (fun e0 b0 k VE B=>∃A G,ak ((5,.ac 90 G.length 2)::(7,.d (dJ A))::e0) VE∧ak ((90,.acc 46 16 2 G)::b0) B∧k=((U.length:Int) -A).toNat∧(0≤A∧(A≤(U.length:Int)∨A=0))∧((G.length:Int)≤8192*z+A)∧(af ez G)) ?_ fin);rintro _ VE B⟨A,G,hV,hB,rfl,fi,gl,GR⟩;refine aT _ _ hV hB (aB 5 aa (aR aa M ?_));refine ro 2 aa ?_;refine ay aa ?_ ?_<;>intro g4
  ·refine rc 7 aa ?_;obtain⟨Ey,A6,B5,yp,eW⟩:=qI z fF;refine aU (aH aa aa L ae eW aa ?_);refine cE aa aa (ia aa (aV aa) (aV aa) ?_);refine rq 2 aa ?_;obtain⟨Ju,Be,yQ,yo,eX⟩:=qI A tW;refine aU (aH aa aa M ae eX aa ?_);refine cE aa aa (ia aa (aV aa) (aV aa) ?_);refine aO aa (aA aa (Dl F A6 yp Be yo) ?_);rintro _ _⟨_,_,_,rfl,⟨Y,rfl,aez,aeA⟩,⟨Z,rfl,aeB,aeC⟩,by7_2,rfl⟩;refine rq 11 aa ?_;refine cF aa ?_ ?_<;>intro h8
   ·refine rc 1 aa (rp 3 aa ?_);refine aq (aY (rows:=G) (ys:=[[(dJ Y),(dJ Z)]]) rfl rfl rfl (.bs (rows:=[[(dJ Y),(dJ Z)]]) rfl) ao ae (fun h=>by rw[h];rfl) (fun h=>by rw[h];rfl) ?_);exact W
   exact W
  exact W
 exact rc 6 aa (ct 4 90 aa aa (fun _=>⟨aa,aa⟩) (W))
end Go.Ev.Rp
namespace Go.Ev.Rp
open Go Go.Ev.Pp
attribute [local irreducible] VC VO VQ VI Sound bW
theorem HoldC{T:aL}(F:FT T){P2 P5:Ty}{a1 a2 a4 a5 a6 a7 a8:DC}{aI:Int}(jL:0≤aI)(jf:aI≤40)(bX:tJ.ok a1)(cK:(P2).ok a2){aZ:Int}(ij:0≤aZ)(ik:aZ≤aI){G:ah}(EJ:0≤G.length)(Pq:G=[]→a4= .nil)(I:au G a4)(e9:G.length≤12)(M:af iW G)(cq:(P5).ok a5)(fC:(Ty.i .i64 0 4).ok a6)(gn:tJ.ok a7)(gp:tJ.ok a8)(Ks:P2.ok .nil)(fo:P5.ok .nil):Sound T 50 [.agg [.d (dJ aI),.d a1,.d a2,.d (dJ aZ),.d a4,.d a5],.agg [.d a6,.d a7,.d a8]] fun r=>∃y0 y1 y2 y3 y4 O y6 y7,r= .tuple [.agg [.d (dJ y0),.d y1,.d y2,.d (dJ y3),.d y4,.d y6],.d (dJ y7)]∧(0≤y0∧y0≤40∧(True))∧tJ.ok y1∧(P2).ok y2∧(0≤y3∧y3≤40∧(True))∧au O y4∧(O.length:Int)≤G.length+1∧af iW O∧0≤(O.length:Int)∧(O=[]→y4= .nil)∧(P5).ok y6∧((-9223372036854775808)≤y7∧y7≤9223372036854775807∧(y7=0→y0=aI∧y3=aZ)):=by
 refine bk F.q50 aa ?_;rcases bX,fC,gn,gp with⟨⟨aN,rfl,eD,eo⟩,⟨bE,rfl,o0,o4⟩,⟨ca,rfl,sT,sU⟩,⟨gS,rfl,wb,wg⟩⟩
 refine r0 14 aa ?_;refine bu aa ?_ ?_<;>intro h1
 ·exact W
 refine ro 2 aa (bw aa aa (aA aa (pB F al al) ?_));rintro _ _⟨_,rfl,by2_0,rfl⟩;refine ro 3 aa ?_;refine cF aa ?_ ?_<;>intro h3
 ·exact W
 refine rc 11 aa (bh [16,5,4,3,2,1,0] [4,3,2] aa aa (fun e0 b0 k VE B=>∃L A,ak ((6,.d (dJ L))::(7,.d (dJ A))::e0) VE∧ak b0 B∧k=((G.length:Int) -A).toNat∧(0≤L∧L≤A)∧(0≤A∧(A≤(G.length:Int)∨A=0))) ?_ fin);rintro _ VE B⟨L,A,hV,hB,rfl,bU,cN⟩;refine aT _ _ hV hB (aB 6 aa (aR aa I ?_));refine ro 2 aa ?_;refine ay aa ?_ ?_<;>intro g4
 ·refine rc 9 aa ?_;obtain⟨_,⟨t7,rfl,xK,xL⟩,B5,yp,Jt,Nd,eW⟩:=qI A M;refine aU (aH aa aa I ae eW aa ?_);refine rq 1 aa (cE aa aa (dy aa aa ?_));refine rq 4 aa ?_;refine ay aa ?_ ?_<;>intro h6
  ·exact W
  refine rc 6 aa (aU (aH aa aa I ae eW aa ?_));refine rq 1 aa (cE aa aa (dy aa aa ?_));exact W
 refine aB 6 aa (aR aa I ?_);refine ro 2 aa ?_;refine ay aa ?_ ?_<;>intro h8
 ·exact W
 refine rc 8 aa (aO aa (aA aa (ahT F cg cg cg al I ae M cg) ?_));rintro _ _⟨O6,wy9_0,rfl,Y,hny9_0,Z⟩;have OX:af ez [[(dJ ca),(dJ gS)]]:=(cI (aj al (aj al bm)) cj);refine SB 53 53 aa aa (fun _=>⟨aa,aa⟩) (aO aa (aA aa (IntSC F (.inl aa) ae OX Y ae Z) ?_));rintro _ _⟨ng,L3,rfl,U,Lm,Ah⟩;refine aU (aR aa U ?_);refine rq 2 aa ?_;refine ay aa ?_ ?_<;>intro nB
 ·exact W
 refine rc 6 aa ?_;obtain⟨Fo,B6,JB⟩:=bx (z:=L) (n:=G.length+1) ae ae;refine aU (eC (l:=0) (h:=Fo) rfl I M rfl Pq ⟨_,(by rw[←B6];rfl)⟩ rfl ae ae (fun d14 zJ hd14 Pd hr14=>?_));refine aO aa (VI.fresh aa (ed (ys:=zJ) 64 aa aa aa aa aa (.sD hd14 (cC hr14 aa)) ao ae ?_));refine rq 2 aa (nI 2 aa (fun p15=>?_));refine Re 2 aa trivial aa aa (aY (rows:=zJ) (ys:=[[(dJ bE),(dJ ca),(dJ gS)]]) aa aa aa (.bs (rows:=[[(dJ bE),(dJ ca),(dJ gS)]]) aa) ao ae bP bP ?_);refine rq 1 aa (Rf aa aa trivial ⟨aa,trivial,trivial,trivial,trivial,trivial⟩ (VI.Us (b:=2) aa (kI (b:=2) aa aa aa ?_)));refine rq 1 aa ?_;obtain⟨lZ,pZ,p0⟩:=bx (z:=L) (n:=G.length+1) ae ae;refine aU (eC (l:=lZ) (h:=G.length) rfl I M rfl Pq rfl ⟨_,(by rw[←pZ];rfl)⟩ ae ae (fun Yc uJ BV EB EC=>?_));refine aO aa (aY (rows:=(zJ++[[(dJ bE),(dJ ca),(dJ gS)]])) (ys:=uJ) aa aa aa (.sD BV (cC EC aa)) ao ae (fun h=>absurd h bI) (fun h=>absurd h bI) ?_);exact rq 1 aa (l9 72 64 aa aa (fun _=>⟨aa,aa⟩) (W))
end Go.Ev.Rp
namespace Go.Ev.Rp
open Go Go.Ev.Pp
attribute [local irreducible] VC VO VQ VI Sound bW
theorem ahU{T:aL}(F:FT T){L M O U Y Z a6 a7 a8 a9:DC}(z:tJ.ok L)(bX:(Ty.x).ok M)(cK:(Ty.x).ok O)(cw:(Ty.x).ok U)(cb:(Ty.x).ok Y)(cq:(Ty.x).ok Z)(A:tJ.ok a6)(G:tJ.ok a7)(I:tJ.ok a8)(il:(Ty.x).ok a9):Sound T 78 [.agg [.d L,.d M,.d O,.d U,.d Y,.d Z],.agg [.d a6,.d a7,.d a8,.d a9]] fun r=>∃y0,r= .d y0∧tJ.ok y0:=by
 refine bk F.q78 aa ?_;rcases z,A,G,I with⟨⟨aI,rfl,iF,iG⟩,⟨bE,rfl,o0,o4⟩,⟨ca,rfl,sT,sU⟩,⟨gS,rfl,wb,wg⟩⟩
 exact W
theorem RetC{T:aL}(F:FT T){a0 a1 a2 a3 a4 a5 a6:DC}(O:tJ.ok a0)(bX:(Ty.x).ok a1)(cK:(Ty.x).ok a2)(U:tJ.ok a3){A:ah}(G:au A a4)(e9:A.length≤13)(M:af iW A)(cq:(Ty.x).ok a5)(Y:tJ.ok a6):Sound T 118 [.agg [.d a0,.d a1,.d a2,.d a3,.d a4,.d a5],.d a6] fun r=>∃y0,r= .d y0∧(Ty.b).ok y0:=by
 refine bk F.q118 aa ?_;rcases O,U,Y with⟨⟨aI,rfl,iF,iG⟩,⟨aZ,rfl,kC,kD⟩,⟨bE,rfl,o0,o4⟩⟩
 refine r0 11 aa ?_;refine bu aa ?_ ?_<;>intro h1
 ·exact W
 refine ro 6 aa ?_;refine ay aa ?_ ?_<;>intro h2
 ·exact W
 refine rc 7 aa (bh [13,4,2,1,0] [2] aa aa (fun e0 b0 k VE B=>∃z,ak ((5,.d (dJ z))::e0) VE∧ak b0 B∧eg k 0 z (A.length:Int)) ?_ fin);rintro _ VE B⟨z,hV,hB,rfl,bU⟩;refine aT _ _ hV hB (aB 6 aa (aR aa G ?_));refine ro 2 aa ?_;refine ay aa ?_ ?_<;>intro g3
 ·refine rc 8 aa ?_;obtain⟨o5,Z,fr,I,pU,L,dh⟩:=qI z M;refine aq (aH aa aa G ae dh aa ?_);refine aP 3 aa (aA aa (M4 F I L al) ?_);rintro _ _⟨jG,rfl,pH⟩;exact W
 exact W
theorem IsDayC{T:aL}(F:FT T){A:DC}(z:tJ.ok A):Sound T 119 [.d A] fun r=>∃G,r= .d G∧(Ty.b).ok G:=by
 refine bk F.q119 aa ?_;obtain⟨aI,rfl,I,L⟩:=z;exact W
theorem usableC{T:aL}(F:FT T){Y Z a2 a3 a4 a5:DC}(z:tJ.ok Y)(A:(Ty.l 1000000000 cB).ok Z)(G:tJ.ok a2)(I:tJ.ok a3)(L:tJ.ok a4)(M:tJ.ok a5):Sound T 186 [.agg [.d Y,.d Z,.d a2,.d a3,.d a4,.d a5]] fun r=>∃y0,r= .d y0∧(Ty.b).ok y0:=by
 refine bk F.q186 aa ?_;rcases z,A,G,I,L,M with⟨⟨aI,rfl,iF,iG⟩,⟨bD,cO,dm,cl⟩,⟨bo,rfl,lA,lB⟩,⟨aZ,rfl,kC,kD⟩,⟨bF,rfl,mw,my⟩,⟨cm,rfl,nq,nr⟩⟩
 refine bV 9 aa (aA aa (GW F al al) ?_);rintro _ _⟨_,rfl,O,rfl⟩;refine ro 1 aa ?_;refine bu aa ?_ ?_<;>intro h2
 ·refine ro 2 aa (bw aa aa (aA aa (pB F al al) ?_));rintro _ _⟨jb,rfl,U⟩;exact W
 exact W
end Go.Ev.Rp
namespace Go.Ev.Rp
open Go Go.Ev.Pp
attribute [local irreducible] VC VO VQ VI Sound bW
theorem ahV{T:aL}(F:FT T){X:List Int}{P:DC→Prop}{a0 a1 a2 a3:DC}(cV:(Ty.q (P)).ok a0)(bX:(Ty.q (fv X)).ok a1)(cK:(Ty.q (P)).ok a2)(cw:(Ty.q (fv X)).ok a3)(hX:X.length≤2000000)(hP:∀d,P d→∃w,au w d∧w.length≤1000000000∧af cB w):Sound T 235 [.agg [.d a0,.d a1],.agg [.d a2,.d a3]] fun r=>∃y0,r= .d y0∧(Ty.b).ok y0:=by
 refine bk F.ajo aa ?_;obtain⟨bM,G,cM,I⟩:=hP _ (Ty.bT cV);obtain⟨bD,L,z⟩:=Ty.bT bX;have M:=z.1;have dm:=cH.len z;obtain⟨bz,O,cY,U⟩:=hP _ (Ty.bT cK);obtain⟨dD,Y,A⟩:=Ty.bT cw;have Z:=A.1;have fO:=cH.len A;refine bV 12 aa (aA aa (ym F (aM G ae I) (aM O ae U)) ?_);rintro _ _⟨_,rfl,ahl,rfl,SU,SV⟩;refine ro 4 aa (rp 3 aa ?_);refine bu aa ?_ ?_<;>intro h2
 ·exact W
 refine ro 3 aa ?_;refine bu aa ?_ ?_<;>intro g3
 ·refine ro 4 aa (bw aa aa (aA aa (ahj F L ae M Y ae Z) ?_));rintro _ _⟨gk,rfl,t8⟩;exact W
 exact W
theorem sortP_{T:aL}{X:List Int}{P:DC→Prop}(F:FT T)(hX:X.length≤2000000)(hP:∀d,P d→∃w,au w d∧w.length≤1000000000∧af cB w)(N:Nat):∀{a0:DC}{O:ah}(Z:au O a0)(cM:O.length≤1000000000)(bO:af [.q (P),.q (fv X)] O)(hN:O.length≤N),Sound T 182 [.d a0] fun r=>∃(y0:DC)(bt:ah),r= .d y0∧au bt y0∧(bt.length:Int)≤O.length∧af [.q (P),.q (fv X)] bt∧0≤(bt.length:Int)∧(bt=[]→y0= .nil):=by
 induction N using Nat.strongRecOn with
 |_ N ih=>
 intro a0 O Z cM bO hN;refine bk F.ajk aa (bV 8 aa (aR aa Z ?_));refine ro 2 aa ?_;refine ay aa ?_ ?_<;>intro g1
 ·refine aB 3 aa (ed (ys:=O) 12 aa aa aa aa aa (.sD Z (cC bO aa)) ao ae ?_);exact ro 2 aa (ct 2 12 aa aa (fun _=>⟨aa,aa⟩) (W))
 refine rc 5 aa (aU (aR aa Z ?_));refine aU (rY aa aa aa aa ae ae ae ao ?_);obtain⟨j2,qh,qu⟩:=bx (z:=((O.length:Int)/2)) (n:=O.length+1) ae ae;refine aU (eC (l:=0) (h:=j2) rfl Z bO rfl (oM ae) ⟨_,(by rw[←qh];rfl)⟩ rfl ae ae (fun d3 w3 Yh P0 Yi=>?_));refine aO aa (aA aa (ih (w3).length ae Yh ae Yi (bd _)) ?_);rintro _ _⟨gk,kX,rfl,A,sa,U,Aw,Dm⟩;refine db 2 aa (aR aa Z ?_);refine aU (rY aa aa aa aa ae ae ae ao ?_);obtain⟨j5,Cw,Cx⟩:=bx (z:=((O.length:Int)/2)) (n:=O.length+1) ae ae;refine aU (eC (l:=j5) (h:=O.length) rfl Z bO rfl (oM ae) rfl ⟨_,(by rw[←Cw];rfl)⟩ ae ae (fun d6 w6 Yj Yk Yl=>?_));refine aO aa (aA aa (ih (w6).length ae Yj ae Yl (bd _)) ?_);rintro _ _⟨sL,Ie,rfl,G,hny7_0,Y,hmy7_0,hey7_0⟩;refine rq 14 aa (dz 5 90 134 48 2 aa aa (bh [10,4,3,2,0] [] aa aa (fun e0 b0 k VE B=>∃L M I,ak ((5,.ac 90 I.length 2)::(6,.d (dJ L))::(7,.d (dJ M))::e0) VE∧ak ((90,.acc 134 48 2 I)::b0) B∧k=((kX.length:Int)+Ie.length-L-M).toNat∧(0≤L∧L≤(kX.length:Int))∧(0≤M∧M≤(Ie.length:Int))∧((I.length:Int)≤L+M)∧(af [.q (P),.q (fv X)] I)) ?_ fin));rintro _ VE B⟨L,M,I,hV,hB,rfl,bU,cN,uC,pA⟩;refine aT _ _ hV hB (aB 5 aa (aR aa A ?_));refine ro 2 aa ?_;refine bu aa ?_ ?_<;>intro g8
 ·refine ro 6 aa (eA aa aa (rc 6 aa (aU (aR aa G ?_))));refine rq 2 aa ?_;refine dL aa ?_ ?_<;>intro g9
  ·refine rq 5 aa (bL aa (bL aa (bL aa (dK aa (bL aa (bL aa (bL aa (dK aa (dK aa ?_)))))))));refine bL aa (rq 3 aa (eA aa aa (rc 5 aa ?_)));obtain⟨oT,qM,qX,AE,gv⟩:=qI L U;refine aq (aH aa aa A ae gv aa ?_);obtain⟨aeS,acB,acC,acD⟩:=hP _ (Ty.bT qM);obtain⟨aes,RM,adu⟩:=Ty.bT AE;have RN:=adu.1;have ach:=cH.len adu;refine ro 2 aa ?_;refine aq (aY (rows:=I) (ys:=[[oT,qX]]) rfl rfl rfl (.bs (rows:=[[oT,qX]]) rfl) ao ae (fun h=>by rw[h];rfl) (fun h=>by rw[h];rfl) ?_);exact W
  refine rq 2 aa (cn aa aa (aR aa A ?_));refine rq 2 aa ?_;refine dL aa ?_ ?_<;>intro lY
  ·refine rq 2 aa ?_;obtain⟨pI,nK,t9,xO,iH⟩:=qI M Y;refine cn aa aa (aH aa aa G ae iH aa ?_);refine rq 3 aa ?_;obtain⟨ra,oH,Ba,Tq,mA⟩:=qI L U;refine cn aa aa (aH aa aa A ae mA aa ?_);refine rq 1 aa (fx aa aa aa (aA aa (ahV (X:=X) (P:=P) F nK xO oH Tq ae hP) ?_));rintro _ _⟨_,rfl,by14_0,rfl⟩;refine rq 4 aa ?_;refine cF aa ?_ ?_<;>intro P1
   ·refine aB 5 aa (aH aa aa A ae mA aa ?_);obtain⟨wx13_0,hdx13_0,hnx13_0,hrx13_0⟩:=hP _ (Ty.bT oH);obtain⟨aeU,Lu,adv⟩:=Ty.bT Tq;have Lv:=adv.1;have acH:=cH.len adv;refine ro 2 aa ?_;refine aq (aY (rows:=I) (ys:=[[ra,Ba]]) rfl rfl rfl (.bs (rows:=[[ra,Ba]]) rfl) ao ae (fun h=>by rw[h];rfl) (fun h=>by rw[h];rfl) ?_);exact W
   refine aB 5 aa (aH aa aa G ae iH aa ?_);obtain⟨aeV,RY,acI,acJ⟩:=hP _ (Ty.bT nK);obtain⟨aeT,acE,adw⟩:=Ty.bT xO;have acG:=adw.1;have acF:=cH.len adw;refine ro 2 aa ?_;refine aq (aY (rows:=I) (ys:=[[pI,t9]]) rfl rfl rfl (.bs (rows:=[[pI,t9]]) rfl) ao ae (fun h=>by rw[h];rfl) (fun h=>by rw[h];rfl) ?_);exact W
  refine rq 13 aa (dn aa aa (rc 5 aa ?_));obtain⟨A9,L4,yl,L5,wt⟩:=qI M Y;refine aq (aH aa aa G ae wt aa ?_);obtain⟨wx16_0,hdx16_0,hnx16_0,hrx16_0⟩:=hP _ (Ty.bT L4);obtain⟨wx16_1,hdx16_1,adx⟩:=Ty.bT L5;have hrx16_1:=adx.1;have hnx16_1:=cH.len adx;refine ro 2 aa ?_;refine aq (aY (rows:=I) (ys:=[[A9,yl]]) rfl rfl rfl (.bs (rows:=[[A9,yl]]) rfl) ao ae (fun h=>by rw[h];rfl) (fun h=>by rw[h];rfl) ?_);exact W
 refine ro 2 aa (bw aa aa (aR aa G ?_));refine ro 3 aa ?_;refine ay aa ?_ ?_<;>intro tn
 ·refine rc 6 aa (aU (aR aa G ?_));refine rq 2 aa ?_;refine dL aa ?_ ?_<;>intro uM
  ·refine rq 5 aa (bL aa (bL aa (bL aa (dK aa (bL aa (bL aa (bL aa (dK aa (dK aa ?_)))))))));refine bL aa (rq 3 aa (eA aa aa (rc 5 aa ?_)));obtain⟨yn,G0,DT,afa,oc⟩:=qI L U;refine aq (aH aa aa A ae oc aa ?_);obtain⟨wx19_0,hdx19_0,hnx19_0,hrx19_0⟩:=hP _ (Ty.bT G0);obtain⟨wx19_1,hdx19_1,ady⟩:=Ty.bT afa;have hrx19_1:=ady.1;have hnx19_1:=cH.len ady;refine ro 2 aa ?_;refine aq (aY (rows:=I) (ys:=[[yn,DT]]) rfl rfl rfl (.bs (rows:=[[yn,DT]]) rfl) ao ae (fun h=>by rw[h];rfl) (fun h=>by rw[h];rfl) ?_);exact W
  refine rq 2 aa (cn aa aa (aR aa A ?_));refine rq 2 aa ?_;refine dL aa ?_ ?_<;>intro g20
  ·refine rq 2 aa ?_;obtain⟨vM,vz,ua,AG,mB⟩:=qI M Y;refine cn aa aa (aH aa aa G ae mB aa ?_);refine rq 3 aa ?_;obtain⟨nR,sf,nT,vB,B3⟩:=qI L U;refine cn aa aa (aH aa aa A ae B3 aa ?_);refine rq 1 aa (fx aa aa aa (aA aa (ahV (X:=X) (P:=P) F vz AG sf vB ae hP) ?_));rintro _ _⟨_,rfl,by23_0,rfl⟩;refine rq 4 aa ?_;refine cF aa ?_ ?_<;>intro Fk
   ·refine aB 5 aa (aH aa aa A ae B3 aa ?_);obtain⟨L8,Lx,RZ,Ly⟩:=hP _ (Ty.bT sf);obtain⟨L7,Gm,adz⟩:=Ty.bT vB;have Gn:=adz.1;have Lw:=cH.len adz;refine ro 2 aa ?_;refine aq (aY (rows:=I) (ys:=[[nR,nT]]) rfl rfl rfl (.bs (rows:=[[nR,nT]]) rfl) ao ae (fun h=>by rw[h];rfl) (fun h=>by rw[h];rfl) ?_);exact W
   refine aB 5 aa (aH aa aa G ae mB aa ?_);obtain⟨wx21_0,hdx21_0,hnx21_0,hrx21_0⟩:=hP _ (Ty.bT vz);obtain⟨wx21_1,acK,adA⟩:=Ty.bT AG;have acL:=adA.1;have hnx21_1:=cH.len adA;refine ro 2 aa ?_;refine aq (aY (rows:=I) (ys:=[[vM,ua]]) rfl rfl rfl (.bs (rows:=[[vM,ua]]) rfl) ao ae (fun h=>by rw[h];rfl) (fun h=>by rw[h];rfl) ?_);exact W
  refine rq 13 aa (dn aa aa (rc 5 aa ?_));obtain⟨DU,afl,DV,Tu,wD⟩:=qI M Y;refine aq (aH aa aa G ae wD aa ?_);obtain⟨wx25_0,hdx25_0,hnx25_0,hrx25_0⟩:=hP _ (Ty.bT afl);obtain⟨wx25_1,hdx25_1,adB⟩:=Ty.bT Tu;have hrx25_1:=adB.1;have hnx25_1:=cH.len adB;refine ro 2 aa ?_;refine aq (aY (rows:=I) (ys:=[[DU,DV]]) rfl rfl rfl (.bs (rows:=[[DU,DV]]) rfl) ao ae (fun h=>by rw[h];rfl) (fun h=>by rw[h];rfl) ?_);exact W
 exact rc 6 aa (ct 2 90 aa aa (fun _=>⟨aa,aa⟩) (W))
theorem ahW{T:aL}(F:FT T){X:List Int}{P:DC→Prop}{O:DC}{A:ah}(G:au A O)(I:A.length≤1000000000)(L:af [.q (P),.q (fv X)] A)(U:X.length≤2000000)(Y:∀d,P d→∃w,au w d∧w.length≤1000000000∧af cB w):Sound T 182 [.d O] fun r=>∃M z,r= .d M∧au z M∧(z.length:Int)≤A.length∧af [.q (P),.q (fv X)] z∧0≤(z.length:Int)∧(z=[]→M= .nil):=sortP_ F U Y _ G I L (bd _)
theorem Ve{T:aL}(F:FT T){X:List Int}{m:Nat}{Y:DC}{A:ah}(G:au A Y)(I:A.length≤1000000000)(L:af (dR X m) A)(Z:X.length≤2000000)(hm:m≤100000000):Sound T 182 [.d Y] fun r=>∃M z,r= .d M∧au z M∧(z.length:Int)≤A.length∧af (dR X m) z∧0≤(z.length:Int)∧(z=[]→M= .nil):=Sound.mono (ahW (P:=(Ty.l m cB).ok) F G I (rowP_of L) Z (fun d h=>by obtain⟨w,O,h2,U⟩:=Ty.aM h;exact⟨w,O,eT h2 ae,U⟩)) fun r hp=>by
 obtain⟨M,z,O,h2,U,h4,h5,h6⟩:=hp;exact⟨M,z,O,h2,U,rowW_of h4,h5,h6⟩
theorem multM{T:aL}(F:FT T){X:List Int}{m:Nat}{a0 a1:DC}{G:ah}(M:au G a0)(cM:G.length≤1000000000)(U:af (dR X m) G){O:ah}(Y:au O a1)(dm:O.length≤1000000000)(Z:af cB O)(hX:X.length≤2000000)(hm:m≤100000000):Sound T 266 [.d a0,.d a1] fun r=>∃y0,r= .d y0∧(Ty.i .i64 0 1000000000).ok y0:=by
 refine bk F.q266 aa (r0 14 aa (bh [4,1,0] [] aa aa (fun e0 b0 k VE B=>∃A z,ak ((5,.d (dJ A))::(6,.d (dJ z))::e0) VE∧ak b0 B∧k=((G.length:Int) -z).toNat∧(0≤A∧A≤z)∧(0≤z∧(z≤(G.length:Int)∨z=0))) ?_ fin));rintro _ VE B⟨A,z,hV,hB,rfl,bU,cN⟩;refine aT _ _ hV hB (aB 5 aa (aR aa M ?_));refine ro 2 aa ?_;refine ay aa ?_ ?_<;>intro g1
 ·refine rc 7 aa ?_;obtain⟨gC,⟨pJ,I,vw,L⟩,fJ,iX,bQ⟩:=qI z U;refine aq (aH aa aa M ae bQ aa ?_);refine aP 3 aa (aA aa (ym F (aM I ae L) (aM Y ae Z)) ?_);rintro _ _⟨jb,rfl,nP⟩;exact W
 exact W
theorem UnionM{T:aL}(F:FT T){X:List Int}{m:Nat}{U Y:DC}{z:ah}(I:au z U)(Z:z.length≤4096)(L:af (dR X m) z){A:ah}(M:au A Y)(dm:A.length≤4096)(O:af (dR X m) A)(hX:X.length≤2000000)(hm:m≤100000000):Sound T 178 [.d U,.d Y] fun r=>∃y0 G,r= .d y0∧au G y0∧(G.length:Int)≤8192∧af (dR X m) G:=by
 refine bk F.q178 aa (bV 7 aa (ed (ys:=z) 6 aa aa aa aa aa (.sD I (cC L aa)) ao ae ?_));refine ro 1 aa ?_;refine aq (aY (rows:=z) (ys:=A) rfl rfl rfl (.sD M (cC O rfl)) ao ae (fun h=>by rw[h];rfl) (fun h=>by rw[h];rfl) ?_);exact ro 2 aa (ct 4 6 aa aa (fun _=>⟨aa,aa⟩) (W))
theorem SelectX{T:aL}(F:FT T){X:List Int}{m:Nat}{a0 a1 a2:DC}{I:ah}(U:au I a0)(cM:I.length≤1000000000)(bO:af (dR X m) I){bD:ah}(cO:au bD a1)(dm:bD.length≤200)(cl:af ey bD)(cK:tJ.ok a2)(hX:X.length≤2000000)(hm:m≤100000000):Sound T 175 [.d a0,.d a1,.d a2] fun r=>∃y0 L,r= .d y0∧au L y0∧(L.length:Int)≤I.length∧af (dR X m) L∧0≤(L.length:Int)∧(L=[]→y0= .nil):=by
 refine bk F.q175 aa ?_;obtain⟨bo,rfl,lA,lB⟩:=cK;refine bV 12 aa (aR aa U ?_);refine ro 3 aa (dz 7 90 134 48 2 aa aa (bh [11,10,6,2,1,0] [] aa aa (fun e0 b0 k VE B=>∃z A,ak ((7,.ac 90 A.length 2)::(12,.d (dJ z))::e0) VE∧ak ((90,.acc 134 48 2 A)::b0) B∧k=((I.length:Int) -z).toNat∧(0≤z∧(z≤(I.length:Int)∨z=0))∧((A.length:Int)≤z)∧(af (dR X m) A)) ?_ fin));rintro _ VE B⟨z,A,hV,hB,rfl,bU,cN,G3⟩;refine aT _ _ hV hB (rc 5 aa ?_);refine ay aa ?_ ?_<;>intro g1
 ·refine rc 5 aa ?_;obtain⟨Y,⟨pJ,M,vw,O⟩,Z,iX,bQ⟩:=qI z bO;refine aq (aH aa aa U ae bQ aa ?_);refine aP 10 aa (aA aa (Bg F cO ae cl al M ae O) ?_);rintro _ _⟨jb,BR,OV,rfl,nP,Nc,IK⟩;refine aq (aA aa (M6 F nP Nc IK) ?_);rintro _ _⟨_,rfl,by4_0,rfl⟩;refine ro 1 aa ?_;refine cF aa ?_ ?_<;>intro h5
  ·refine rc 1 aa ?_;obtain⟨nh,pD,G⟩:=Ty.bT iX;have pE:=G.1;have mZ:=cH.len G;refine rp 3 aa ?_;refine aq (aY (rows:=A) (ys:=[[Y,Z]]) rfl rfl rfl (.bs (rows:=[[Y,Z]]) rfl) ao ae (fun h=>by rw[h];rfl) (fun h=>by rw[h];rfl) ?_);exact W
  exact W
 exact rc 6 aa (ct 6 90 aa aa (fun _=>⟨aa,aa⟩) (W))
end Go.Ev.Rp
namespace Go.Ev.Rp
open Go Go.Ev.Pp
attribute [local irreducible] VC VO VQ VI Sound bW
theorem AsOfX{T:aL}(F:FT T){X:List Int}{a0 a1:DC}{U:ah}(cJ:au U a0)(cM:U.length≤100000)(bO:af (Uw X) U)(bX:tJ.ok a1)(hX:X.length≤2000000):Sound T 236 [.d a0,.d a1] fun r=>∃y0 Y,r= .d y0∧au Y y0∧(Y.length:Int)≤100000∧af (MQ X) Y∧0≤(Y.length:Int)∧(Y=[]→y0= .nil):=by
 refine bk F.q236 aa ?_;obtain⟨aN,rfl,eD,eo⟩:=bX;refine bV 12 aa (aR aa cJ ?_);refine ro 3 aa (dz 5 90 203 64 4 aa aa (bh [9,8,4,1,0] [] aa aa (fun e0 b0 k VE B=>∃z A,ak ((5,.ac 90 A.length 4)::(10,.d (dJ z))::e0) VE∧ak ((90,.acc 203 64 4 A)::b0) B∧k=((U.length:Int) -z).toNat∧(0≤z∧(z≤(U.length:Int)∨z=0))∧((A.length:Int)≤z)∧(af (MQ X) A)) ?_ fin));rintro _ VE B⟨z,A,hV,hB,rfl,bU,cN,pA⟩;refine aT _ _ hV hB (rc 5 aa ?_);refine ay aa ?_ ?_<;>intro g1
 ·refine rc 5 aa ?_;obtain⟨gC,jm,Z,⟨nh,M,mZ,O⟩,fW,iC,lD,lL,wI,yq,Pe,Vf,bQ⟩:=qI z bO;refine aq (aH aa aa cJ ae bQ aa ?_);refine ro 7 aa ?_;obtain⟨G,rfl,qJ,hqx2_0⟩:=Ty.bT jm;refine aq (aA aa (usableC F al (aM M ae O) iC lL yq Vf) ?_);rintro _ _⟨_,rfl,Bc,rfl⟩;refine ro 1 aa ?_;refine bu aa ?_ ?_<;>intro h4
  ·refine ro 3 aa (bw aa aa (aA aa (M4 F yq Vf al) ?_));rintro _ _⟨_,rfl,Ih,rfl⟩;refine ro 2 aa ?_;refine cF aa ?_ ?_<;>intro h6
   ·refine rc 9 aa ?_;have Cu:af bn [[(dJ G)]]:=(cI (aj al bm) cj);refine eS 29 29 aa aa (fun _=>⟨aa,aa⟩) ?_;rcases Ty.dV iC,Ty.dV lL with⟨⟨I,rfl,vt,vu⟩,⟨L,rfl,ae7,ae8⟩⟩
    refine ro 2 aa ?_;refine aq (aY (rows:=A) (ys:=[[Z,(dJ I),(dJ L),(.sl [[(dJ G)]])]]) rfl rfl rfl (.bs (rows:=[[Z,(dJ I),(dJ L),(.sl [[(dJ G)]])]]) rfl) ao ae (fun h=>by rw[h];rfl) (fun h=>by rw[h];rfl) ?_);refine aP 3 aa (bB aa aa ae ae ?_);exact dC 2 aa (⟨((U.length:Int) -((z+1))).toNat,ae,(z+1),(A++[[Z,(dJ I),(dJ L),(.sl [[(dJ G)]])]]),⟨aa,aa,aa,aa,aa,aa,aa,trivial⟩,⟨aa,trivial⟩,aa,ae,dj,(eB pA (ee (aj (aM M ae O) (aj al (aj al (aj (bT (fv.one hqx2_0 qJ)) bm))))))⟩)
   exact W
  exact W
 exact rc 6 aa (ct 4 90 aa aa (fun _=>⟨aa,aa⟩) (W))
theorem TAsX{T:aL}(F:FT T){X:List Int}{a0 a1:DC}{G:ah}(U:au G a0)(cM:G.length≤16)(bO:af (Ux X) G)(bX:tJ.ok a1)(hX:X.length≤2000000):Sound T 184 [.d a0,.d a1] fun r=>∃y0 I,r= .d y0∧au I y0∧(I.length:Int)≤16∧af (MR X) I∧0≤(I.length:Int)∧(I=[]→y0= .nil):=by
 refine bk F.q184 aa ?_;obtain⟨aN,rfl,eD,eo⟩:=bX;refine bV 12 aa (aR aa U ?_);refine ro 3 aa (dz 5 90 303 64 3 aa aa (bh [9,8,4,1,0] [] aa aa (fun e0 b0 k VE B=>∃z A,ak ((5,.ac 90 A.length 3)::(10,.d (dJ z))::e0) VE∧ak ((90,.acc 303 64 3 A)::b0) B∧k=((G.length:Int) -z).toNat∧(0≤z∧(z≤(G.length:Int)∨z=0))∧((A.length:Int)≤z)∧(af (MR X) A)) ?_ fin));rintro _ VE B⟨z,A,hV,hB,rfl,bU,cN,pA⟩;refine aT _ _ hV hB (rc 5 aa ?_);refine ay aa ?_ ?_<;>intro g1
 ·refine rc 5 aa ?_;obtain⟨_,⟨L,rfl,Hd⟩,Y,⟨nh,pD,mZ,pE⟩,fW,⟨NA,M,AD,O⟩,bQ⟩:=qI z bO;refine aq (aH aa aa U ae bQ aa ?_);refine ro 11 aa (aO aa (aA aa (AsOfX (X:=X) F M ae O al ae) ?_));rintro _ _⟨Z,oS,rfl,AB,Dj,vx,L6,TB⟩;refine rq 2 aa ?_;refine aO rfl (aY (rows:=A) (ys:=[[(aw L),Y,Z]]) rfl rfl rfl (.bs (rows:=[[(aw L),Y,Z]]) rfl) ao ae (fun h=>by rw[h];rfl) (fun h=>by rw[h];rfl) ?_);exact W
 exact rc 6 aa (ct 4 90 aa aa (fun _=>⟨aa,aa⟩) (W))
theorem TimeX{T:aL}(F:FT T){X:List Int}{a0 a1:DC}{I:ah}(O:au I a0)(cM:I.length≤100000)(bO:af (MQ X) I)(bX:tJ.ok a1)(hX:X.length≤2000000):Sound T 183 [.d a0,.d a1] fun r=>∃y0 L,r= .d y0∧au L y0∧(L.length:Int)≤I.length∧af (dR X 13) L∧0≤(L.length:Int)∧(L=[]→y0= .nil):=by
 refine bk F.q183 aa ?_;obtain⟨aN,rfl,eD,eo⟩:=bX;refine bV 12 aa (aR aa O ?_);refine ro 3 aa (dz 5 90 134 48 2 aa aa (bh [9,8,4,1,0] [] aa aa (fun e0 b0 k VE B=>∃z A,ak ((5,.ac 90 A.length 2)::(10,.d (dJ z))::e0) VE∧ak ((90,.acc 134 48 2 A)::b0) B∧k=((I.length:Int) -z).toNat∧(0≤z∧(z≤(I.length:Int)∨z=0))∧((A.length:Int)≤z)∧(af (dR X 13) A)) ?_ fin));rintro _ VE B⟨z,A,hV,hB,rfl,bU,cN,M⟩;refine aT _ _ hV hB (rc 5 aa ?_);refine ay aa ?_ ?_<;>intro g1
 ·refine rc 5 aa ?_;obtain⟨U,⟨pJ,Hg,vw,AH⟩,fJ,Z,fW,iC,Y,lL,bQ⟩:=qI z bO;refine aq (aH aa aa O ae bQ aa ?_);refine aP 9 aa (aA aa (M4 F Z iC al) ?_);rintro _ _⟨_,rfl,Bc,rfl⟩;refine ro 1 aa ?_;refine cF aa ?_ ?_<;>intro h4
  ·refine rc 1 aa ?_;obtain⟨No,Md,G⟩:=Ty.bT lL;have Dq:=G.1;have Me:=cH.len G;refine rp 7 aa ?_;refine aq (aY (rows:=A) (ys:=[[U,Y]]) rfl rfl rfl (.bs (rows:=[[U,Y]]) rfl) ao ae (fun h=>by rw[h];rfl) (fun h=>by rw[h];rfl) ?_);exact W
  exact W
 refine rc 1 aa (ct 5 90 aa aa (fun _=>⟨aa,aa⟩) (aB 3 aa (aA aa (Ve (X:=X) (m:=13) F (.acc _) ae M ae ae) ?_)));rintro _ _⟨jG,iY,rfl,me,sh,kQ,tY,tZ⟩;exact W
theorem rowsOnX{T:aL}(F:FT T){X:List Int}{a0 a1:DC}{G:ah}(I:au G a0)(cM:G.length≤16)(bO:af (MR X) G)(bX:tJ.ok a1)(hX:X.length≤2000000):Sound T 125 [.d a0,.d a1] fun r=>∃y0 L,r= .d y0∧au L y0∧(L.length:Int)≤16∧af (HZ X) L∧0≤(L.length:Int)∧(L=[]→y0= .nil):=by
 refine bk F.q125 aa ?_;obtain⟨aN,rfl,eD,eo⟩:=bX;refine r0 14 aa (dz 5 90 235 64 3 aa aa (bh [4,1,0] [] aa aa (fun e0 b0 k VE B=>∃z A,ak ((5,.ac 90 A.length 3)::(6,.d (dJ z))::e0) VE∧ak ((90,.acc 235 64 3 A)::b0) B∧k=((G.length:Int) -z).toNat∧(0≤z∧(z≤(G.length:Int)∨z=0))∧((A.length:Int)≤z)∧(af (HZ X) A)) ?_ fin));rintro _ VE B⟨z,A,hV,hB,rfl,bU,cN,pA⟩;refine aT _ _ hV hB (aB 5 aa (aR aa I ?_));refine ro 2 aa ?_;refine ay aa ?_ ?_<;>intro g1
 ·refine rc 7 aa ?_;obtain⟨_,⟨M,rfl,Hd⟩,Y,⟨nh,pD,mZ,pE⟩,fW,⟨NA,O,AD,U⟩,bQ⟩:=qI z bO;refine aU (aH aa aa I ae bQ aa ?_);refine rq 1 aa (cE aa aa (ia aa (aV aa) (aV aa) ?_));refine db 2 aa (aH aa aa I ae bQ aa ?_);refine rq 1 aa (cE aa aa (dy aa aa ?_));refine rq 1 aa (aO aa (aA aa (TimeX (X:=X) F O ae U al ae) ?_));rintro _ _⟨Z,oS,rfl,AB,Dj,vx,L6,TB⟩;refine rq 2 aa ?_;refine aO rfl (aY (rows:=A) (ys:=[[(aw M),Y,Z]]) rfl rfl rfl (.bs (rows:=[[(aw M),Y,Z]]) rfl) ao ae (fun h=>by rw[h];rfl) (fun h=>by rw[h];rfl) ?_);exact W
 exact rc 6 aa (ct 4 90 aa aa (fun _=>⟨aa,aa⟩) (W))
end Go.Ev.Rp
