/- Part 34 of walks through the code of a program. -/
import Derived.Test.YtdaamclhcpjdpaaGreatDoorT33
set_option linter.unusedVariables false
set_option linter.unusedSimpArgs false
noncomputable section
set_option maxRecDepth 100000
set_option maxHeartbeats 4000000
namespace Go.Ev.Rp
open Go Go.Ev.Pp
attribute [local irreducible] VC VO VQ VI Sound cF
theorem ok_lm{n m:Nat}{row:List Ty}{d:DC}(h:(Ty.l n row).ok d)(k:n≤m):(Ty.l m row).ok d:=by
 obtain⟨w,a,b,c⟩:=h;exact aL a (eZ b k) c
def wQ:Nat→Nat
 |0=>4096
 |n+1=>4*wQ n+1
theorem mvI_s{z:Int}(h:0≤z):wQ (z+1).toNat=4*wQ z.toNat+1:=by rw[show(z+1).toNat=z.toNat+1 by omega];rfl
theorem mvI_lt{z:Int}(h0:0≤z)(h:z<2):wQ z.toNat≤24000:=by
 rcases(by omega:z=0∨z=1) with rfl|rfl<;>decide
theorem mvI_le{z:Int}(h0:0≤z)(h:z≤2):wQ z.toNat≤100000:=by
 rcases(by omega:z=0∨z=1∨z=2) with rfl|rfl|rfl<;>decide
theorem mvI_0:wQ (0:Int).toNat=4096:=rfl
theorem okRs_take0{R:List Ty}{w:aj}:af R (w.take (0:Int).toNat):=fun r h=>by simp at h
theorem okRs_takeS{R:List Ty}{w:aj}{z:Int}{r:List DC}(h:af R (w.take z.toNat))(h0:0≤z)(A:w[z.toNat]?=some r)(G:fK R r):af R (w.take (z+1).toNat):=by
 rw[show(z+1).toNat=z.toNat+1 by omega,Be,A];exact df h (c9 G)
theorem okRs_takeA{R:List Ty}{w:aj}{z:Int}(h:af R (w.take z.toNat))(A:(w.length:Int)≤z):af R w:=by rwa [o5 aq] at h
theorem StepN{T:aO}(F:FT T){nv mv:Nat}{P3 P4 P5:Ty}{a1 a2 a3 a4 a5 a6 a7 a8 a9 i9 oG oH sC sE sF zX zY zZ Aa Ab Ac:DC}{aK:Int}(ld:0≤aK)(kR:aK≤40)(bX:tJ.ok a1){bu:aj}(wu:0≤bu.length)(U:bu=[]→a2= .nil)(z:ao bu a2)(cX:bu.length≤16)(M:af (fG nv mv) bu)(ch:(P3).ok a3)(bY:(P4).ok a4)(cB:(P5).ok a5)(fE:tJ.ok a6)(fX:(Ty.s 1000).ok a7)(gq:(Ty.l 1000000000 cn).ok a8)(jr:tJ.ok a9)(lT:tJ.ok i9)(pv:(Ty.l 100 eB).ok oG)(Ca:tJ.ok oH)(Cb:(Ty.l 10 eC).ok sC)(Cc:(Ty.s 1000).ok sE)(Cd:(Ty.l 100 dk).ok sF)(Jr:(Ty.l 200 bc).ok zX)(Js:(Ty.l 4 dy).ok zY)(Jt:(Ty.l 4 dj).ok zZ)(Ju:tJ.ok Aa)(Jv:(Ty.s 1000).ok Ab)(Jw:tJ.ok Ac)(oy:nv≤99)(CK:mv≤24000)(CA:1≤nv)(fY:P3.ok i0)(iA:P4.ok .nil)(gH:P5.ok .nil):Sound T 42 [.agg [.d (dJ aK),.d a1,.d a2,.d a3,.d a4,.d a5],.agg [.d a6,.d a7,.d a8,.d a9,.d i9,.d oG,.d oH,.d sC,.d sE,.d sF,.d zX,.d zY,.d zZ,.d Aa,.d Ab,.d Ac]] fun r=>∃y0 y1 y2 ee y4 y5 y6 y7,r= .tuple [.agg [.d (dJ y0),.d y1,.d y2,.d y4,.d y5,.d y6],.d (dJ y7)]∧(0≤y0∧y0≤40∧(True))∧tJ.ok y1∧ao ee y2∧(ee.length:Int)≤16∧af (fG (nv+1) (4*mv+1)) ee∧0≤(ee.length:Int)∧(ee=[]→y2= .nil)∧(P3).ok y4∧(P4).ok y5∧(P5).ok y6∧((-9223372036854775808)≤y7∧y7≤9223372036854775807∧(y7=0→y0=aK)):=by
 refine bg F.q42 aa ?_;rcases bX,fE,fX,gq,jr,lT,pv,Ca,Cb,Cc,Cd,Jr,Js,Jt,Ju,Jv,Jw with⟨⟨aH,rfl,ey,dW⟩,⟨bx,rfl,oe,og⟩,⟨Pq,rfl,OE⟩,⟨qX,ou,zo,pw⟩,⟨fP,rfl,EK,EL⟩,⟨OF,rfl,Ni,Nj⟩,⟨ajm,Nk,agT,Nl⟩,⟨za12,rfl,hza12,kza12⟩,⟨ajn,hda13,hna13,Nm⟩,⟨sa14,rfl,hsa14⟩,⟨wa15,UG,hna15,UH⟩,⟨ajo,Io,agU,Ip⟩,⟨ajp,Iq,agV,Ir⟩,⟨ajq,Is,agW,Iu⟩,⟨za19,rfl,hza19,kza19⟩,⟨sa20,rfl,hsa20⟩,⟨za21,rfl,hza21,kza21⟩⟩
 refine r0 14 aa ?_;refine bk aa ?_ ?_<;>intro h1
 ·exact W
 refine ro 5 aa ?_;refine ax aa ?_ ?_<;>intro h2
 ·exact W
 refine rc 8 aa ?_;refine ax aa ?_ ?_<;>intro g3
 ·refine aB 5 aa (aA aa (createN (aK:=aK) (nv:=nv) (mv:=mv) (P3:=P3) (P4:=P4) (P5:=P5) F ae ae ai ae U z ae M ch bY cB (bC aq) UG ae UH (aL Io ae Ip) (aL Iq ae Ir) (aL Is ae Iu) ae ae ae fY iA gH) ?_);rintro _ _⟨gh,rR,ua,BA,Ci,EV,JH,OM,rfl,qf,vB,A4,Tq,A5,afb,Hj,Nx,Ny,UZ,hy4_7⟩;exact dR 6 aa (bD aa aa ⟨gh,rR,ua,BA,Ci,EV,JH,OM,aa,⟨ae,ae,trivial⟩,vB,A4,ae,(oI A5 ae ae),ae,Hj,Nx,Ny,UZ,⟨ae,ae,ae⟩⟩)
 refine aB 6 aa (aA aa (Ns (aK:=aK) (nv:=nv) (mv:=mv) (P3:=P3) (P4:=P4) (P5:=P5) F ae ae ai ae U z ae M ch bY cB (bC aq) ae ae fY iA gH) ?_);rintro _ _⟨Y,rfl,kS⟩;refine ro 8 aa ?_;refine ax aa ?_ ?_<;>intro h6
 ·exact W
 refine rc 6 aa ?_;obtain⟨jY,lD,oi,⟨Up,xC,Sh,xD⟩,zj,yi,ajP,Nz,ajQ,NA,ajR,Eg,eL⟩:=qI Y M;refine aw (aF aa aa z ae eL aa ?_);refine ro 20 aa ?_;refine ax aa ?_ ?_<;>intro g8
 ·refine aB 7 aa (uM aa aa (fun z9 hz9=>?_));refine aw (aA aa (AddColC (nv:=nv) F lD xC ae xD yi Nz NA ai (bC aq) ai ai ae) ?_);rintro _ _⟨iF,Bm,ad9,agn,M7,M8,_,rfl,AM,Lj,abN,Lk,hy10_3,afc,hy10_5,zy10_6,rfl,hzy10_6,kzy10_6⟩;refine ro 10 aa (rp 3 aa ?_);refine ax aa ?_ ?_<;>intro sk
  ·exact W
  refine rc 6 aa ?_;obtain⟨U0,G,Ts,I,L⟩:=Ty.bE Eg;refine aw (aA aa (yq (aK:=aK) (bx:=Y) (nv:=nv) (mv:=mv) (qY:=nv+1) (qZ:=4*mv+1) F ae ae ai ae U z ae M ch bY cB ae ae AM (aL Lj ae Lk) hy10_3 afc hy10_5 (bE ⟨_,G,ae,I,L⟩) ae ae fY iA gH) ?_);rintro _ _⟨Ec,ag6,aeK,ag7,ag8,ag9,rfl,G',ab3,ab4,ab5,hmy12_1,hey12_1,aeL,aeM,aeN⟩;exact W
 refine rc 5 aa ?_;refine ax aa ?_ ?_<;>intro ur
 ·refine aB 9 aa (uM aa aa (fun z14 OL=>?_));refine aw (aA aa (DropColC (nv:=nv) F lD xC ae xD yi Nz NA ai ai ae) ?_);rintro _ _⟨Nt,y15_1,wy15_1,y15_3,y15_4,y15_5,_,rfl,afd,Z,hny15_1,acI,afe,aff,afg,zy15_6,rfl,hzy15_6,kzy15_6⟩;refine ro 12 aa (bd [64,50,43,35,23,19,7,6,5,4,3,2,1,0] [7,4,3,2] aa aa (fun e0 b0 k VE B=>∃ON O,an ((8,.d (dJ ON))::(9,.d (dJ O))::e0) VE∧an b0 B∧k=((bu.length:Int) -O).toNat∧(-9223372036854775808≤ON∧ON≤9223372036854775807)∧(0≤O∧(O≤(bu.length:Int)∨O=0))) ?_ fin);rintro _ VE B⟨ON,O,hV,hB,rfl,bR,cM⟩;refine aS _ _ hV hB (aB 6 aa (aM aa z ?_));refine ro 2 aa ?_;refine bk aa ?_ ?_<;>intro nz
  ·refine ro 4 aa ?_;refine ax aa ?_ ?_<;>intro su
   ·refine rc 8 aa ?_;obtain⟨agN,SX,ag4,S0,ag5,S1,x18_3,⟨afh,acJ,hnx18_3,hrx18_3⟩,x18_4,hx18_4,x18_5,hx18_5,ni⟩:=qI O M;refine bd [87,64,50,43,35,23,19,9,7,6,5,4,3,2,1,0] [7,4,3,2] aa aa (fun e0 b0 k VE B=>∃OO A,an ((8,.d (dJ OO))::(10,.d (dJ A))::e0) VE∧an b0 B∧k=((afh.length:Int) -A).toNat∧(-9223372036854775808≤OO∧OO≤9223372036854775807)∧(0≤A∧(A≤(afh.length:Int)∨A=0))) ?_ fin;rintro _ VE B⟨OO,A,hV,hB,rfl,fh,gn⟩;refine aS _ _ hV hB (aB 7 aa (aF aa aa z ae ni aa ?_));refine aJ 3 aa (aM aa acJ ?_);refine ro 2 aa ?_;refine ax aa ?_ ?_<;>intro X4
    ·refine aB 8 aa (aF aa aa z ae ni aa ?_);refine ro 4 aa ?_;obtain⟨Ng,G5,_,⟨sx20_1,rfl,hsx20_1⟩,_,rfl,mD⟩:=qI A hrx18_3;refine aw (aF aa aa acJ ae mD aa ?_);refine ro 10 aa ?_;refine bk aa ?_ ?_<;>intro Kf
     ·refine ro 4 aa (bw aa aa (Ar aa aa ?_));refine ro 2 aa ?_;refine bk aa ?_ ?_<;>intro Pk
      ·refine ro 5 aa (bw aa aa (aA aa (D2 F (.inl aa) ae sW ai) ?_));rintro _ _⟨ID,rfl,Tt⟩;exact W
      exact W
     exact W
    exact W
   refine rc 7 aa ?_;refine ax aa ?_ ?_<;>intro h26
   ·exact W
   refine rc 6 aa ?_;obtain⟨U0,G,Ts,I,L⟩:=Ty.bE Eg;refine aw (aA aa (yq (aK:=aK) (bx:=Y) (nv:=nv) (mv:=mv) (qY:=nv+1) (qZ:=4*mv+1) F ae ae ai ae U z ae M ch bY cB ae ae afd (aL Z ae acI) afe aff afg (bE ⟨_,G,ae,I,L⟩) ae ae fY iA gH) ?_);rintro _ _⟨ag0,y27_1,wy27_1,y27_3,y27_4,y27_5,rfl,hy27_0,hdy27_1,hny27_1,hry27_1,hmy27_1,hey27_1,hy27_3,hy27_4,hy27_5⟩;exact W
  refine ro 4 aa (dc aa aa (rc 7 aa ?_));refine ax aa ?_ ?_<;>intro h28
  ·exact W
  refine rc 6 aa ?_;obtain⟨U0,G,Ts,I,L⟩:=Ty.bE Eg;refine aw (aA aa (yq (aK:=aK) (bx:=Y) (nv:=nv) (mv:=mv) (qY:=nv+1) (qZ:=4*mv+1) F ae ae ai ae U z ae M ch bY cB ae ae afd (aL Z ae acI) afe aff afg (bE ⟨_,G,ae,I,L⟩) ae ae fY iA gH) ?_);rintro _ _⟨y29_0,y29_1,wy29_1,y29_3,y29_4,y29_5,rfl,hy29_0,hdy29_1,hny29_1,hry29_1,hmy29_1,hey29_1,hy29_3,hy29_4,hy29_5⟩;exact W
 refine aB 5 aa (aA aa (modifyN (aK:=aK) (bx:=Y) (nv:=nv) (mv:=mv) (P3:=P3) (P4:=P4) (P5:=P5) F ae ae ai ae U z ae M ch bY cB ae ae ai (bC aq) (aL ou ae pw) ai ai (aL Nk ae Nl) ai (aL hda13 ae Nm) (bC aq) (aL UG ae UH) (aL Io ae Ip) (aL Iq ae Ir) (aL Is ae Iu) ai (bC aq) ai ae ae fY iA gH) ?_);rintro _ _⟨Bz,ahk,y30_2,wy30_2,ahl,ahm,y30_6,y30_7,rfl,Te,hy30_1,hdy30_2,hny30_2,hry30_2,hmy30_2,hey30_2,ae2,ae3,hy30_6,hy30_7⟩;exact dR 6 aa (bD aa aa ⟨Bz,ahk,y30_2,wy30_2,ahl,ahm,y30_6,y30_7,aa,⟨ae,ae,trivial⟩,hy30_1,hdy30_2,ae,(oI hry30_2 ae ae),ae,hey30_2,ae2,ae3,hy30_6,⟨ae,ae,ae⟩⟩)
theorem CheckN{T:aO}(F:FT T){nv mv:Nat}{P3 P4 P5:Ty}{a1 a2 a3 a4 a5:DC}{aK:Int}(ld:0≤aK)(kR:aK≤40)(bX:tJ.ok a1){Z:aj}(wu:0≤Z.length)(jC:Z=[]→a2= .nil)(z:ao Z a2)(cX:Z.length≤16)(bS:af (fG nv mv) Z)(ch:(P3).ok a3)(bY:(P4).ok a4)(cB:(P5).ok a5)(oy:nv≤99)(CK:mv≤100000)(fY:P3.ok i0)(iA:P4.ok .nil)(gH:P5.ok .nil):Sound T 43 [.agg [.d (dJ aK),.d a1,.d a2,.d a3,.d a4,.d a5]] fun r=>∃y0,r= .d y0∧tJ.ok y0:=by
 refine bg F.q43 aa ?_;obtain⟨aH,rfl,ey,dW⟩:=bX;refine r0 11 aa (bd [2,1,0] [1] aa aa (fun e0 b0 k VE B=>∃wh,an ((3,.d (dJ wh))::e0) VE∧an b0 B∧dT k 0 wh (Z.length:Int)) ?_ fin);rintro _ VE B⟨wh,hV,hB,rfl,bR⟩;refine aS _ _ hV hB (aB 6 aa (aM aa z ?_));refine ro 2 aa ?_;refine ax aa ?_ ?_<;>intro g1
 ·refine rc 8 aa ?_;obtain⟨gm,gx,ff,⟨jy,ia,jg,gk⟩,fg,⟨yg,I,p5,p7⟩,jB,iV,pn,mX,I9,yh,bM⟩:=qI wh bS;refine aw (aF aa aa z ae bM aa ?_);refine ro 6 aa (rp 3 aa (aT (aM aa I ?_)));refine rq 2 aa ?_;refine dK aa ?_ ?_<;>intro g3
  ·refine rq 1 aa ?_;obtain⟨wx2_5,L',ad3,G1,hvx2_5⟩:=Ty.bE yh;refine eD aa aa aa (aA aa (Iw F gx (aL ia ae gk) (aL I ae p7) iV mX L' ae G1) ?_);rintro _ _⟨gh,lE,rfl,xF,va,vb,AV,AW⟩;refine rq 3 aa (eD aa aa aa (aA aa (CZ F I ae p7) ?_));rintro _ _⟨gM,gV,rfl,lu,pZ,kr,ry,sZ⟩;refine eD aa aa aa (aA aa (acC F xF ae vb lu ae kr) ?_);rintro _ _⟨jW,oX,rfl,oP,u9,lz⟩;refine cb aa aa (aM aa oP ?_);exact rq 2 aa (W)
  exact rq 10 aa (W)
 refine rc 7 aa (bd [19,3,2,1,0] [1] aa aa (fun e0 b0 k VE B=>∃iL,an ((5,.d (dJ iL))::e0) VE∧an b0 B∧dT k 0 iL (Z.length:Int)) ?_ fin);rintro _ VE B⟨iL,hV,hB,rfl,fh⟩;refine aS _ _ hV hB (aB 6 aa (aM aa z ?_));refine ro 2 aa ?_;refine ax aa ?_ ?_<;>intro g8
 ·refine rc 8 aa ?_;obtain⟨pj,lB,oh,⟨M3,u6,L6,u7⟩,Ce,tv,Jy,⟨ahp,A,hnx9_3,L⟩,ER,tp,ES,tq,eW⟩:=qI iL bS;refine aw (aF aa aa z ae eW aa ?_);refine ro 9 aa (bd [47,19,6,5,3,2,1,0] [6,1] aa aa (fun e0 b0 k VE B=>∃OP,an ((7,.d (dJ OP))::e0) VE∧an b0 B∧dT k 0 OP (ahp.length:Int)) ?_ fin);rintro _ VE B⟨OP,hV,hB,rfl,ot⟩;refine aS _ _ hV hB (aB 7 aa (aM aa A ?_));refine ro 2 aa ?_;refine ax aa ?_ ?_<;>intro uq
  ·refine rc 9 aa ?_;obtain⟨_,rfl,UB,DE,_,rfl,wk⟩:=qI OP L;refine aw (aF aa aa A ae wk aa ?_);refine aJ 14 aa (aA aa (Ns (aK:=aK) (nv:=nv) (mv:=mv) (P3:=P3) (P4:=P4) (P5:=P5) F ae ae ai ae jC z ae bS ch bY cB DE ae ae fY iA gH) ?_);rintro _ _⟨Ec,rfl,G'⟩;refine ro 7 aa ?_;refine ax aa ?_ ?_<;>intro ur
   ·refine rc 4 aa ?_;obtain⟨UE,Mp,UL,⟨wx14_1,hdx14_1,hnx14_1,hrx14_1⟩,Nw,Hi,x14_3,hx14_3,x14_4,hx14_4,x14_5,hx14_5,iZ⟩:=qI Ec bS;refine aw (aF aa aa z ae iZ aa ?_);refine ro 1 aa ?_;obtain⟨wx14_5,hdx14_5,hnx14_5,hrx14_5,hvx14_5⟩:=Ty.bE hx14_5;refine aw (aA aa (Iw F Mp (aL hdx14_1 ae hrx14_1) Hi hx14_3 hx14_4 hdx14_5 ae hrx14_5) ?_);rintro _ _⟨Nt,Hf,rfl,AB,Rw,AD,hmy15_0,hey15_0⟩;refine ro 5 aa ?_;obtain⟨wx9_5,M,hnx9_5,O,hvx9_5⟩:=Ty.bE tq;refine aP aa (aA aa (Iw F lB (aL u6 ae u7) tv (aL A ae L) tp M ae O) ?_);rintro _ _⟨Nd,Tu,rfl,Gx,acK,Gy,acL,acM⟩;refine rq 3 aa (aP aa (aA aa (CZ F (.inl aa) ae sW) ?_));rintro _ _⟨y17_0,wy17_0,rfl,acN,hny17_0,acO,hmy17_0,hey17_0⟩;refine rq 2 aa (aP aa (aA aa (CZ F (.inl aa) ae sW) ?_));rintro _ _⟨ahq,afi,rfl,RA,hny18_0,RB,hmy18_0,hey18_0⟩;refine aP aa (aA aa (ae7 F Gx ae Gy AB ae AD acN ae acO RA ae RB) ?_);rintro _ _⟨Eb,wy19_0,rfl,acm,hny19_0,hry19_0⟩;refine aT (aM aa acm ?_);exact W
   refine rc 4 aa ?_;obtain⟨wx9_5,M,hnx9_5,O,hvx9_5⟩:=Ty.bE tq;refine aP aa (aA aa (Iw F lB (aL u6 ae u7) tv (aL A ae L) tp M ae O) ?_);rintro _ _⟨UI,wy21_0,rfl,hdy21_0,hny21_0,hry21_0,hmy21_0,hey21_0⟩;refine rq 3 aa (aP aa (aA aa (CZ F (.inl aa) ae sW) ?_));rintro _ _⟨Ik,Td,rfl,Db,Rn,Dc,acv,acw⟩;refine rq 2 aa (aP aa (aA aa (CZ F (.inl aa) ae sW) ?_));rintro _ _⟨Nh,SY,rfl,C9,Rg,Da,Rh,hey23_0⟩;refine aP aa (aA aa (ae7 F hdy21_0 ae hry21_0 (.inr ⟨aa,aa⟩) ae ca Db ae Dc C9 ae Da) ?_);rintro _ _⟨ID,Tf,rfl,Dd,acq,Lz⟩;refine aT (aM aa Dd ?_);exact W
  exact W
 refine rc 7 aa (bd [47,19,5,3,2,1,0] [1] aa aa (fun e0 b0 k VE B=>∃U,an ((11,.d (dJ U))::e0) VE∧an b0 B∧dT k 0 U (Z.length:Int)) ?_ fin);rintro _ VE B⟨U,hV,hB,rfl,Jn⟩;refine aS _ _ hV hB (aB 6 aa (aM aa z ?_));refine ro 2 aa ?_;refine ax aa ?_ ?_<;>intro g26
 ·refine rc 8 aa ?_;obtain⟨x27_0,hx27_0,x27_1,⟨wx27_1,hdx27_1,hnx27_1,hrx27_1⟩,x27_2,hx27_2,x27_3,hx27_3,x27_4,⟨wx27_4,G,hnx27_4,acP⟩,x27_5,hx27_5,WY⟩:=qI U bS;refine aw (aF aa aa z ae WY aa ?_);refine ro 9 aa (bd [97,47,19,12,11,5,3,2,1,0] [12,1] aa aa (fun e0 b0 k VE B=>∃Y,an ((13,.d (dJ Y))::e0) VE∧an b0 B∧dT k 0 Y (wx27_4.length:Int)) ?_ fin);rintro _ VE B⟨Y,hV,hB,rfl,Jo⟩;refine aS _ _ hV hB (aB 7 aa (aM aa G ?_));refine ro 2 aa ?_;refine ax aa ?_ ?_<;>intro Pu
  ·refine rc 9 aa ?_;obtain⟨Iy,vd,vF,⟨wx29_1,Lv,hnx29_1,Lw⟩,nj⟩:=qI Y acP;refine aw (aF aa aa G ae nj aa ?_);refine ro 7 aa ?_;obtain⟨wx27_5,hdx27_5,hnx27_5,hrx27_5,hvx27_5⟩:=Ty.bE hx27_5;refine aP aa (aA aa (Iw F hx27_0 (aL hdx27_1 ae hrx27_1) hx27_2 hx27_3 (aL G ae acP) hdx27_5 ae hrx27_5) ?_);rintro _ _⟨Bz,Tm,rfl,Gv,acx,Gw,acy,acz⟩;refine rq 4 aa (aP aa (aA aa (CZ F Lv ae Lw) ?_));rintro _ _⟨Uw,aed,rfl,Ll,abO,Lm,hmy31_0,hey31_0⟩;refine aP aa (aA aa (ConVioC F Gv ae Gw vd Ll ae Lm) ?_);rintro _ _⟨agK,wy32_0,rfl,hdy32_0,hny32_0,hry32_0⟩;refine aT (aM aa hdy32_0 ?_);exact W
  exact W
 exact W
theorem CommitN{T:aO}(F:FT T){nv:Nat}{P3 P4 P5:Ty}{a1 a2 a3 a4 a5 a6:DC}{aK:Int}(ld:0≤aK)(kR:aK≤30)(bX:tJ.ok a1){bu:aj}(wu:0≤bu.length)(jC:bu=[]→a2= .nil)(cu:ao bu a2)(cX:bu.length≤16)(bS:af (fG nv 4096) bu)(ch:(P3).ok a3)(bY:(P4).ok a4)(cB:(P5).ok a5){gG:aj}(gi:ao gG a6)(zn:gG.length≤2)(iN:af MV gG)(oy:nv≤97)(CA:1≤nv)(fY:P3.ok i0)(iA:P4.ok .nil)(gH:P5.ok .nil):Sound T 21 [.agg [.d (dJ aK),.d a1,.d a2,.d a3,.d a4,.d a5],.d a6] fun r=>∃y0 y1 y2 ee y4 y5 y6 y7,r= .tuple [.agg [.d (dJ y0),.d y1,.d y2,.d y4,.d y5,.d y6],.d (dJ y7)]∧(0≤y0∧y0≤40∧(True))∧tJ.ok y1∧ao ee y2∧(ee.length:Int)≤16∧af (fG (nv+2) 4096) ee∧0≤(ee.length:Int)∧(ee=[]→y2= .nil)∧(P3).ok y4∧(P4).ok y5∧(P5).ok y6∧((-9223372036854775808)≤y7∧y7≤9223372036854775807∧(y7=0→y0=aK+1)):=by
 refine bg F.q21 aa ?_;obtain⟨aH,rfl,ey,dW⟩:=bX;refine r0 10 aa ?_;have k0:=mvI_0;refine aw (aM aa gi ?_);refine ro 2 aa ?_;refine ax aa ?_ ?_<;>intro h1
 ·exact W
 refine rc 7 aa (bd [13,5,4,2,1,0] [4] aa aa (fun e0 b0 k VE B=>∃G L Z O A My Mz MA,an ((6,.d (dJ G))::e0) VE∧an ((2,.one 29 96 [.d (dJ L),.d Z,.d O,.d My,.d Mz,.d MA])::b0) B∧k=((gG.length:Int) -G).toNat∧(0≤G∧(G≤(gG.length:Int)∨G=0))∧(L=aK)∧(tJ.ok Z)∧(ao A O)∧((A.length:Int)≤16)∧(af (fG (nv+G.toNat) (wQ G.toNat)) A)∧(A=[]→O= .nil)∧((P3).ok My)∧((P4).ok Mz)∧((P5).ok MA)) ?_ fin);rintro _ VE B⟨G,L,Z,O,A,My,Mz,MA,hV,hB,rfl,bR,cM,RC,I,tZ,U,Y,RD,RE,RF⟩;refine aS _ _ hV hB (aB 5 aa (aM aa gi ?_));refine ro 2 aa ?_;refine ax aa ?_ ?_<;>intro g2
 ·refine rc 8 aa ?_;obtain⟨ng,U1,qF,tw,vX,qo,VY,U2,ajy,Nn,ajz,No,x3_6,U3,x3_7,U4,x3_8,U5,x3_9,U6,x3_10,hx3_10,x3_11,hx3_11,x3_12,hx3_12,x3_13,hx3_13,x3_14,hx3_14,x3_15,hx3_15,eS⟩:=qI G iN;refine aT (aF aa aa gi ae eS aa ?_);refine cr aa aa (gr aa (aV aa) (aV aa) ?_);have km:=mvI_lt (z:=G) ae ae;have ks:=mvI_s (z:=G) ae;refine aP aa (aA aa (StepN (aK:=L) (nv:=nv+G.toNat) (mv:=wQ G.toNat) F ae ae RC ae Y I ae U RD RE RF U1 tw qo U2 Nn No U3 U4 U5 U6 hx3_10 hx3_11 hx3_12 hx3_13 hx3_14 hx3_15 ae ae ae fY iA gH) ?_);rintro _ _⟨gh,rR,ua,BA,Ci,EV,JH,OM,rfl,qf,vB,A4,Tq,A5,afb,Hj,Nx,Ny,UZ,hy4_7⟩;refine rq 13 aa ?_;refine ax aa ?_ ?_<;>intro h5
  ·exact W
  refine aB 7 aa (bB aa aa ae ae ?_);exact cA 2 aa (⟨((gG.length:Int) -((G+1))).toNat,ae,(G+1),gh,rR,ua,BA,Ci,EV,JH,⟨aa,aa,aa,aa,aa,aa,aa,trivial⟩,⟨aa,aa,trivial⟩,aa,ae,ae,vB,A4,ae,(oI A5 ae ae),Hj,Nx,Ny,UZ⟩)
 refine rc 7 aa (bd [18,13,6,5,4,2,1,0] [4,2] aa aa (fun e0 b0 k VE B=>∃M,an ((9,.d (dJ M))::e0) VE∧an b0 B∧k=((A.length:Int) -M).toNat∧(0≤M∧(M≤(A.length:Int)∨M=0))∧(af (fG (nv+2) 4096) (A.take M.toNat))) ?_ fin);rintro _ VE B⟨M,hV,hB,rfl,fh,gn⟩;refine aS _ _ hV hB (aB 6 aa (aM aa I ?_));refine ro 2 aa ?_;refine ax aa ?_ ?_<;>intro g6
 ·refine rc 8 aa ?_;obtain⟨jY,lD,oi,th,zj,yi,ajP,Nz,ajQ,NA,ajR,Eg,eL⟩:=qI M U;refine aw (aF aa aa I ae eL aa ?_);obtain⟨U0,hdx7_5,Ts,hrx7_5,hvx7_5⟩:=Ty.bE Eg;refine aJ 2 aa (aM aa hdx7_5 ?_);refine ro 2 aa ?_;refine ax aa ?_ ?_<;>intro h8
  ·exact W
  refine aB 3 aa (bB aa aa ae ae ?_);refine cA 2 aa ?_;exact⟨((A.length:Int) -((M+1))).toNat,ae,(M+1),⟨rfl,rfl,rfl,rfl,rfl,rfl,rfl,rfl,rfl,trivial⟩,⟨rfl,rfl,trivial⟩,rfl,ae,(by first|assumption|exact okRs_take0|exact okRs_takeS (by assumption) ae (by assumption) (ah (by assumption) (ah (ok_lm (by assumption) ae) (ah (by assumption) (ah (by assumption) (ah (by assumption) (ah (bE ⟨_,(by assumption),ae,(by assumption),(by assumption)⟩) bf)))))))⟩
 refine rc 5 aa ?_;have kl:=mvI_le (z:=G) ae ae;refine aw (aA aa (CheckN (aK:=L) (nv:=nv+G.toNat) (mv:=wQ G.toNat) F ae ae RC ae Y I ae U RD RE RF ae ae fY iA gH) ?_);rintro _ _⟨_,rfl,Ie,rfl,Sw,Sx⟩;refine ro 4 aa (rp 3 aa ?_);refine ax aa ?_ ?_<;>intro Po
 ·exact W
 refine aB 5 aa (bB aa aa ae ae ?_);refine ro 5 aa ?_;skip;exact rpx 5 aa (bD aa aa ⟨(L+1),Z,O,A,My,Mz,MA,0,aa,⟨ae,ae,trivial⟩,RC,I,ae,(okRs_takeA dz ae),ae,Y,RD,RE,RF,⟨ae,ae,ae⟩⟩)
end Go.Ev.Rp
namespace Go.Ev.Rp
open Go Go.Ev.Pp
attribute [local irreducible] VC VO VQ VI Sound cF
theorem keptY{T:aO}(F:FT T){a0 a1 a2 a3 a4 a5 a6 a7 a8 a9 Y Z:DC}(cC:(Ty.x).ok a0)(bX:(Ty.x).ok a1)(cN:(Ty.x).ok a2)(ch:tJ.ok a3){G:aj}(A:ao G a4)(fJ:G.length≤13)(I:af jx G)(cB:(Ty.x).ok a5)(fE:tJ.ok a6)(fX:(Ty.l 1000000000 cn).ok a7)(gq:tJ.ok a8)(jr:tJ.ok a9)(lT:tJ.ok Y)(pv:tJ.ok Z):Sound T 223 [.agg [.d a0,.d a1,.d a2,.d a3,.d a4,.d a5],.agg [.d a6,.d a7,.d a8,.d a9,.d Y,.d Z]] fun r=>∃y0,r= .d y0∧(Ty.b).ok y0:=by
 refine bg F.aiS aa ?_;rcases ch,fE,fX,gq,jr,lT,pv with⟨⟨bn,rfl,mB,mC⟩,⟨bx,rfl,oe,og⟩,⟨wK,EI,Oe,EJ⟩,⟨hY,rfl,zb,zc⟩,⟨fP,rfl,EK,EL⟩,⟨OF,rfl,Ni,Nj⟩,⟨ik,rfl,UP,UQ⟩⟩
 refine r0 16 aa ?_;refine bk aa ?_ ?_<;>intro g1
 ·refine ro 2 aa (bw aa aa (aA aa (oQ F ai ai) ?_));rintro _ _⟨_,rfl,by2_0,rfl⟩;refine ro 2 aa ?_;refine cO aa ?_ ?_<;>intro h3
  ·exact W
  refine rc 7 aa (bd [18,4,3,2,1,0] [3,2] aa aa (fun e0 b0 k VE B=>∃z,an ((5,.d (dJ z))::e0) VE∧an b0 B∧dT k 0 z (G.length:Int)) ?_ fin);rintro _ VE B⟨z,hV,hB,rfl,bR⟩;refine aS _ _ hV hB (aB 6 aa (aM aa A ?_));refine ro 2 aa ?_;refine ax aa ?_ ?_<;>intro g4
  ·refine rc 10 aa ?_;obtain⟨BV,x8,zi,L,EN,M,eQ⟩:=qI z I;refine aT (aF aa aa A ae eQ aa ?_);refine rq 1 aa (cr aa aa (gr aa (aV aa) (aV aa) ?_));refine aP aa (aA aa (DD F ai ai L M) ?_);rintro _ _⟨jW,vU,qD,rfl,qd,rD,Ed⟩;exact W
  exact W
 refine ro 5 aa (dc aa aa (rc 7 aa (bd [18,4,3,2,1,0] [3,2] aa aa (fun e0 b0 k VE B=>∃z,an ((5,.d (dJ z))::e0) VE∧an b0 B∧dT k 0 z (G.length:Int)) ?_ fin)));rintro _ VE B⟨z,hV,hB,rfl,bR⟩;refine aS _ _ hV hB (aB 6 aa (aM aa A ?_));refine ro 2 aa ?_;refine ax aa ?_ ?_<;>intro g8
 ·refine rc 10 aa ?_;obtain⟨pj,lB,oh,O,Ce,U,eW⟩:=qI z I;refine aT (aF aa aa A ae eW aa ?_);refine rq 1 aa (cr aa aa (gr aa (aV aa) (aV aa) ?_));refine aP aa (aA aa (DD F ai ai O U) ?_);rintro _ _⟨iF,Bm,Ia,rfl,AM,R9,hy10_2⟩;exact W
 exact W
theorem afj{T:aO}(F:FT T){nv mv:Nat}{P5:Ty}{a1 a2 a4 a5:DC}{aK:Int}(ld:0≤aK)(kR:aK≤40)(bX:tJ.ok a1){bu:aj}(cu:ao bu a2)(cX:bu.length≤16)(bS:af (fG nv mv) bu){bn:Int}(jG:0≤bn)(jH:bn≤aK){ed:aj}(EW:0≤ed.length)(OQ:ed=[]→a4= .nil)(dY:ao ed a4)(fJ:ed.length≤13)(dw:af jx ed)(cB:(P5).ok a5)(oy:nv≤99)(CK:mv≤100000)(gH:P5.ok .nil):Sound T 129 [.agg [.d (dJ aK),.d a1,.d a2,.d (dJ bn),.d a4,.d a5]] fun r=>∃y0 y1 lZ y3 Kt y5,r= .agg [.d (dJ aK),.d y0,.d y1,.d (dJ bn),.d y3,.d y5]∧tJ.ok y0∧ao lZ y1∧(lZ.length:Int)≤16∧af (fG nv mv) lZ∧0≤(lZ.length:Int)∧(lZ=[]→y1= .nil)∧ao Kt y3∧(Kt.length:Int)≤ed.length∧af jx Kt∧0≤(Kt.length:Int)∧(Kt=[]→y3= .nil)∧(P5).ok y5:=by
 refine bg F.q129 aa ?_;obtain⟨aH,rfl,ey,dW⟩:=bX;refine r0 15 aa (de 3 90 118 136 6 aa aa (bd [2,1,0] [2,1] aa aa (fun e0 b0 k VE B=>∃G L,an ((3,.ac 90 L.length 6)::(4,.d (dJ G))::e0) VE∧an ((90,.acc 118 136 6 L)::b0) B∧k=((bu.length:Int) -G).toNat∧(0≤G∧(G≤(bu.length:Int)∨G=0))∧((L.length:Int)≤G)∧(af (fG nv mv) L)) ?_ fin));rintro _ VE B⟨G,L,hV,hB,rfl,bR,cM,AU⟩;refine aS _ _ hV hB (aB 6 aa (aM aa cu ?_));refine ro 2 aa ?_;refine ax aa ?_ ?_<;>intro g1
 ·refine rc 8 aa ?_;obtain⟨_,⟨U,rfl,rm⟩,ff,⟨jy,ia,jg,gk⟩,fg,⟨yg,uX,p5,p7⟩,jB,⟨DT,uY,Dx,ru⟩,pn,⟨Uo,AP,Se,AQ⟩,I9,yh,bM⟩:=qI G bS;refine aw (aF aa aa cu ae bM aa ?_);refine ro 14 aa ?_;obtain⟨I,M,ad3,G1,hvx2_5⟩:=Ty.bE yh;refine de 6 91 156 64 6 aa aa ?_;refine bd [12,5,4,3,2,1,0] [90,5,2,1] rfl rfl (fun e0 b0 k VE B=>∃z A,an ((6,.ac 91 A.length 6)::(7,.d (dJ z))::e0) VE∧an ((91,.acc 156 64 6 A)::b0) B∧k=((I.length:Int) -z).toNat∧(0≤z∧(z≤(I.length:Int)∨z=0))∧((A.length:Int)≤z)∧(af fC A)∧(fH z I A)) ?_ (k:=((I.length:Int) -0).toNat) ⟨0,[],⟨rfl,rfl,rfl,rfl,rfl,rfl,rfl,rfl,rfl,trivial⟩,⟨rfl,rfl,rfl,rfl,rfl,trivial⟩,rfl,ae,cE,ca,(by first|assumption|exact AL|exact fH.step (by assumption) (by assumption) ae (by assumption)|exact fH.skip (by assumption) ae)⟩;rintro _ VE B⟨z,A,hV,hB,rfl,fh,gn,O,I8⟩;refine aS _ _ hV hB (aB 6 aa (aM aa M ?_));refine ro 2 aa ?_;refine ax aa ?_ ?_<;>intro g3
  ·refine rc 9 aa ?_;obtain⟨po,kB,fu,mo,qE,oW,Og,tc,Oh,td,Oi,Eh,cZ⟩:=qI z G1;refine aT (aF aa aa M ae cZ aa ?_);refine cr aa aa (gr aa (aV aa) (aV aa) ?_);refine aP aa (aA aa (keptY F bP bP bP ai dY ae dw bP kB mo oW tc td Eh) ?_);rintro _ _⟨_,rfl,Na,rfl⟩;refine rq 1 aa ?_;refine cO aa ?_ ?_<;>intro h6
   ·refine aB 5 aa (aF aa aa M ae cZ aa ?_);rcases Ty.dP kB,Ty.aL mo,Ty.dP oW,Ty.dP tc,Ty.dP td,Ty.dP Eh with⟨⟨Y,rfl,sX,sY⟩,⟨DU,xA,Dz,xB⟩,⟨Z,rfl,hzx4_2,kzx4_2⟩,⟨U7,rfl,hzx4_3,kzx4_3⟩,⟨U8,rfl,hzx4_4,kzx4_4⟩,⟨U9,rfl,hzx4_5,kzx4_5⟩⟩
    refine ro 2 aa ?_;refine aw (aW (rows:=A) (ys:=[[(dJ Y),fu,(dJ Z),(dJ U7),(dJ U8),(dJ U9)]]) rfl rfl rfl (.bs (rows:=[[(dJ Y),fu,(dJ Z),(dJ U7),(dJ U8),(dJ U9)]]) rfl) au ae (fun h=>by rw[h];rfl) (fun h=>by rw[h];rfl) ?_);refine aJ 4 aa (bB aa aa ae ae ?_);refine cA 2 aa ?_;exact⟨((I.length:Int) -((z+1))).toNat,ae,(z+1),(A++[[(dJ Y),fu,(dJ Z),(dJ U7),(dJ U8),(dJ U9)]]),⟨rfl,rfl,rfl,rfl,rfl,rfl,rfl,rfl,rfl,trivial⟩,⟨rfl,rfl,rfl,rfl,rfl,trivial⟩,rfl,ae,cE,(df O (c9 (ah ai (ah (aL xA ae xB) (ah ai (ah ai (ah ai (ah ai bf)))))))),(by first|assumption|exact AL|exact fH.step (by assumption) (by assumption) ae (by assumption)|exact fH.skip (by assumption) ae)⟩
   refine aB 3 aa (bB aa aa ae ae ?_);refine cA 2 aa ?_;exact⟨((I.length:Int) -((z+1))).toNat,ae,(z+1),A,⟨rfl,rfl,rfl,rfl,rfl,rfl,rfl,rfl,rfl,trivial⟩,⟨rfl,rfl,rfl,rfl,rfl,trivial⟩,rfl,ae,ae,O,(by first|assumption|exact AL|exact fH.step (by assumption) (by assumption) ae (by assumption)|exact fH.skip (by assumption) ae)⟩
  refine rc 5 aa (eK 42 91 aa aa (fun _=>⟨aa,aa⟩) (ro 3 aa (rp 3 aa ?_)));refine aw (aW (rows:=L) (ys:=[[(al U),ff,fg,jB,pn,(.cm A)]]) rfl rfl rfl (.bs (rows:=[[(al U),ff,fg,jB,pn,(.cm A)]]) rfl) au ae (fun h=>by rw[h];rfl) (fun h=>by rw[h];rfl) ?_);refine aJ 4 aa (bB aa aa ae ae ?_);refine cA 2 aa ?_;exact⟨((bu.length:Int) -((G+1))).toNat,ae,(G+1),(L++[[(al U),ff,fg,jB,pn,(.cm A)]]),⟨rfl,rfl,rfl,rfl,rfl,trivial⟩,⟨rfl,rfl,rfl,trivial⟩,rfl,ae,cE,(df AU (c9 (ah (bC aq) (ah (aL ia ae gk) (ah (aL uX ae p7) (ah (aL uY ae ru) (ah (aL AP ae AQ) (ah (bE ⟨_,(.acc _),ae,O,(by first|assumption|exact gL.fin (by assumption)|exact fH.fin (by assumption) (by assumption))⟩) bf))))))))⟩
 exact rc 5 aa (eK 48 90 aa aa (fun _=>⟨aa,aa⟩) (W))
theorem ForgetY{T:aO}(F:FT T){nv mv:Nat}{P5:Ty}{a1 a2 a4 a5 a6:DC}{aK:Int}(ld:0≤aK)(kR:aK≤40)(bX:tJ.ok a1){I:aj}(L:ao I a2)(cX:I.length≤16)(M:af (fG nv mv) I){bn:Int}(jG:0≤bn)(jH:bn≤aK){z:aj}(EW:0≤z.length)(O:z=[]→a4= .nil)(U:ao z a4)(fJ:z.length≤13)(Y:af jx z)(cB:(P5).ok a5)(fE:tJ.ok a6)(oy:nv≤99)(CK:mv≤100000)(gH:P5.ok .nil):Sound T 72 [.agg [.d (dJ aK),.d a1,.d a2,.d (dJ bn),.d a4,.d a5],.d a6] fun r=>∃Z y1 y2 A y4 y5 G y7 y8,r= .tuple [.agg [.d (dJ Z),.d y1,.d y2,.d (dJ y4),.d y5,.d y7],.d (dJ y8)]∧(0≤Z∧Z≤40∧(True))∧tJ.ok y1∧ao A y2∧(A.length:Int)≤16∧af (fG nv mv) A∧0≤(A.length:Int)∧(A=[]→y2= .nil)∧(0≤y4∧y4≤40∧(True))∧ao G y5∧(G.length:Int)≤z.length∧af jx G∧0≤(G.length:Int)∧(G=[]→y5= .nil)∧(P5).ok y7∧((-9223372036854775808)≤y8∧y8≤9223372036854775807∧(y8=0→Z=aK∧y4≤aK)):=by
 refine bg F.q72 aa ?_;rcases bX,fE with⟨⟨aH,rfl,ey,dW⟩,⟨bx,rfl,oe,og⟩⟩
 refine r0 12 aa ?_;refine bk aa ?_ ?_<;>intro h1
 ·exact W
 refine ro 6 aa ?_;refine ax aa ?_ ?_<;>intro h2
 ·exact W
 refine rc 9 aa ?_;refine ax aa ?_ ?_<;>intro h3
 ·exact W
 refine aB 10 aa (aA aa (afj (aK:=aK) (bn:=bx) (nv:=nv) (mv:=mv) (P5:=P5) F ae ae ai L ae M ae ae ae O U ae Y cB ae ae gH) ?_);rintro _ _⟨gh,rR,wy4_1,V6,wy4_3,EV,rfl,qf,hdy4_1,hny4_1,hry4_1,hmy4_1,hey4_1,hdy4_3,hny4_3,hry4_3,hmy4_3,hey4_3,Ny⟩;exact W
theorem ReleaseY{T:aO}(F:FT T){nv mv:Nat}{P5:Ty}{a1 a2 a4 a5 a6:DC}{aK:Int}(ld:0≤aK)(kR:aK≤40)(bX:tJ.ok a1){Y:aj}(Z:ao Y a2)(cX:Y.length≤16)(bS:af (fG nv mv) Y){bn:Int}(jG:0≤bn)(jH:bn≤aK){A:aj}(EW:0≤A.length)(U:A=[]→a4= .nil)(I:ao A a4)(fJ:A.length≤13)(L:af jx A)(cB:(P5).ok a5)(fE:tJ.ok a6)(oy:nv≤99)(CK:mv≤100000)(gH:P5.ok .nil):Sound T 71 [.agg [.d (dJ aK),.d a1,.d a2,.d (dJ bn),.d a4,.d a5],.d a6] fun r=>∃y0 y1 y2 M y4 y5 O y7 y8,r= .tuple [.agg [.d (dJ y0),.d y1,.d y2,.d (dJ y4),.d y5,.d y7],.d (dJ y8)]∧(0≤y0∧y0≤40∧(True))∧tJ.ok y1∧ao M y2∧(M.length:Int)≤16∧af (fG nv mv) M∧0≤(M.length:Int)∧(M=[]→y2= .nil)∧(0≤y4∧y4≤40∧(True))∧ao O y5∧(O.length:Int)≤A.length∧af jx O∧0≤(O.length:Int)∧(O=[]→y5= .nil)∧(P5).ok y7∧((-9223372036854775808)≤y8∧y8≤9223372036854775807∧(y8=0→y0=aK∧y4=bn)):=by
 refine bg F.q71 aa ?_;rcases bX,fE with⟨⟨aH,rfl,ey,dW⟩,⟨bx,rfl,oe,og⟩⟩
 refine r0 12 aa (bd [5,4,2,1,0] [4,2] aa aa (fun e0 b0 k VE B=>∃G,an ((6,.d (dJ G))::e0) VE∧an b0 B∧dT k 0 G (A.length:Int)) ?_ fin);rintro _ VE B⟨G,hV,hB,rfl,bR⟩;refine aS _ _ hV hB (aB 6 aa (aM aa I ?_));refine ro 2 aa ?_;refine ax aa ?_ ?_<;>intro g1
 ·refine rc 8 aa ?_;obtain⟨_,⟨ml,rfl,mT,nM⟩,ff,iW,fg,fT,bM⟩:=qI G L;refine aw (aF aa aa I ae bM aa ?_);refine ro 5 aa ?_;refine ax aa ?_ ?_<;>intro g3
  ·refine rc 5 aa ?_;obtain⟨j4,ss,qT⟩:=bF (z:=G) (n:=A.length+1) ae ae;refine aT (eO (l:=0) (h:=j4) rfl I L rfl U ⟨_,(by rw[←ss];rfl)⟩ rfl ae ae (fun d5 w5 hd5 Fw Fq=>?_));refine aP aa (VI.fresh aa (dZ (ys:=w5) 26 aa aa aa aa aa (.sD hd5 (cP Fq aa)) au ae ?_));refine c7 3 aa (bB aa aa ae ae ?_);obtain⟨j6,pH,mK⟩:=bF (z:=(G+1)) (n:=A.length+1) ae ae;refine aT (eO (l:=j6) (h:=A.length) rfl I L rfl U rfl ⟨_,(by rw[←pH];rfl)⟩ ae ae (fun d7 w7 hd7 zQ hr7=>?_));refine aP aa (aW (rows:=w5) (ys:=w7) aa aa aa (.sD hd7 (cP hr7 aa)) au ae bW bW ?_);refine rq 1 aa (lk 32 26 aa aa (fun _=>⟨aa,aa⟩) (rq 5 aa ?_));refine aw (aA rfl (afj (aK:=aK) (bn:=bn) (nv:=nv) (mv:=mv) (P5:=P5) F ae ae ai Z ae bS ae ae ae (fun h=>by rw[h];rfl) (.acc _) BP (df Fq hr7) cB ae ae gH) ?_);rintro _ _⟨wi,JG,wy8_1,y8_3,wy8_3,ajS,rfl,Bv,To,hny8_1,Tp,hmy8_1,hey8_1,hdy8_3,hny8_3,hry8_3,hmy8_3,hey8_3,hy8_5⟩;exact W
  exact W
 exact W
end Go.Ev.Rp
namespace Go.Ev.Rp
open Go Go.Ev.Pp
attribute [local irreducible] VC VO VQ VI Sound cF
theorem SubC{T:aO}(F:FT T){a0 a1 a2 a3:DC}(U:tJ.ok a0)(Y:tJ.ok a1)(Z:tJ.ok a2)(ch:tJ.ok a3):Sound T 56 [.agg [.d a0,.d a1],.agg [.d a2,.d a3]] fun r=>∃y0 G,r= .d y0∧ao G y0∧(G.length:Int)≤2∧af eC G:=by
 refine bg F.q56 aa ?_;rcases U,Y,Z,ch with⟨⟨aK,rfl,gZ,hD⟩,⟨aH,rfl,ey,dW⟩,⟨bA,rfl,lN,lO⟩,⟨bn,rfl,mB,mC⟩⟩
 refine cf 10 aa (aA aa (oQ F ai ai) ?_);rintro _ _⟨_,rfl,UA,rfl⟩;refine ro 2 aa ?_;refine cO aa ?_ ?_<;>intro h2
 ·exact W
 refine aB 5 aa (aA aa (DD F ai ai ai ai) ?_);rintro _ _⟨_,_,_,rfl,⟨A,rfl,I,L⟩,⟨z,rfl,M,O⟩,ahb,rfl⟩;refine ro 10 aa (rp 3 aa ?_);refine cO aa ?_ ?_<;>intro h4
 ·refine rc 6 aa ?_;have CB:af eC [[(dJ aK),(dJ aH)]]:=(cJ (ah ai (ah ai bf)) ca);exact mS 4 20 aa aa (fun _=>⟨aa,aa⟩) (W)
 refine rc 8 aa (rp 6 aa ?_);refine ax aa ?_ ?_<;>intro g6
 ·refine aB 8 aa (dZ (ys:=[[(dJ aK),(dJ A)]]) 33 aa aa aa aa aa (.bs (rows:=[[(dJ aK),(dJ A)]]) aa) au ae ?_);refine ro 5 aa (rp 6 aa ?_);refine ax aa ?_ ?_<;>intro g7
  ·refine aB 8 aa (aW (rows:=[[(dJ aK),(dJ A)]]) (ys:=[[(dJ z),(dJ aH)]]) aa aa aa (.bs (rows:=[[(dJ z),(dJ aH)]]) aa) au ae (fun h=>absurd h bh) (fun h=>absurd h bh) ?_);exact ro 7 aa (cl 4 33 aa aa (fun _=>⟨aa,aa⟩) (dH 1 aa (bD aa aa ⟨(.cm ([[(dJ aK),(dJ A)]]++[[(dJ z),(dJ aH)]])),([[(dJ aK),(dJ A)]]++[[(dJ z),(dJ aH)]]),aa,(.acc _),vQ,(df (c9 (ah ai (ah ai bf))) (c9 (ah ai (ah ai bf))))⟩)))
  exact rc 6 aa (cl 4 33 aa aa (fun _=>⟨aa,aa⟩) (W))
 refine rc 4 aa (rp 6 aa ?_);refine ax aa ?_ ?_<;>intro g8
 ·refine aB 8 aa (dZ (ys:=[[(dJ z),(dJ aH)]]) 46 aa aa aa aa aa (.bs (rows:=[[(dJ z),(dJ aH)]]) aa) au ae ?_);exact ro 7 aa (cl 4 46 aa aa (fun _=>⟨aa,aa⟩) (W))
 exact W
end Go.Ev.Rp
namespace Go.Ev.Rp
open Go Go.Ev.Pp
attribute [local irreducible] VC VO VQ VI Sound cF
def dd(z:Int):Int:=2^z.toNat
theorem dd_0:dd 0=1:=rfl
theorem ajT{z:Int}(h:0≤z):dd (z+1)=2*dd z:=by
 unfold dd;rw[show(z+1).toNat=z.toNat+1 by omega,Int.pow_succ,Int.mul_comm]
theorem dd_le{z:Int}(h:0≤z)(h2:z≤13):1≤dd z∧dd z≤8192:=by
 unfold dd;have:z.toNat≤13:=by omega
 generalize z.toNat=n at this;have:∀m:Nat,m≤13→1≤(2:Int)^m∧(2:Int)^m≤8192:=by decide
 exact this n dz
theorem SubSC{T:aO}(F:FT T){a0 a1:DC}{bV:aj}(cg:ao bV a0)(cI:bV.length≤1)(bJ:af eC bV){M:aj}(cW:ao M a1)(dg:M.length≤13)(cq:af eC M):Sound T 26 [.d a0,.d a1] fun r=>∃y0 br,r= .d y0∧ao br y0∧(br.length:Int)≤8192∧af eC br:=by
 refine bg F.q26 aa (r0 6 aa ?_);have k0:=dd_0;refine iw 1 aa (aA aa (Nv F cg ae bJ) ?_);rintro _ _⟨eo,eY,rfl,Y,jh,Z,ku,lv⟩;refine ro 8 aa (bd [4,1,0] [] aa aa (fun e0 b0 k VE B=>∃O G A,an ((5,.d O)::(6,.d (dJ A))::e0) VE∧an b0 B∧k=((M.length:Int) -A).toNat∧(ao G O)∧((G.length:Int)≤dd A)∧(af eC G)∧(G=[]→O= .nil)∧(0≤A∧(A≤(M.length:Int)∨A=0))) ?_ (k:=((M.length:Int) -0).toNat) ⟨eo,eY,0,⟨aa,aa,aa,aa,aa,trivial⟩,trivial,aa,Y,ae,Z,lv,ae⟩);rintro _ VE B⟨O,G,A,hV,hB,rfl,U,cM,SM,aek,tZ⟩;refine aS _ _ hV hB (rc 4 aa ?_);have k9:=dd_le (z:=A) ae ae;refine iw 1 aa (aM aa cW ?_);refine ro 2 aa ?_;refine ax aa ?_ ?_<;>intro g2
 ·refine rc 5 aa ?_;have k1:=ajT (z:=A) ae;refine rp 8 aa (de 7 90 47 16 2 aa aa (bd [14,6,5,4,1,0] [] aa aa (fun e0 b0 k VE B=>∃I L,an ((7,.ac 90 L.length 2)::(8,.d (dJ I))::e0) VE∧an ((90,.acc 47 16 2 L)::b0) B∧k=((G.length:Int) -I).toNat∧(0≤I∧(I≤(G.length:Int)∨I=0))∧((L.length:Int)≤2*I)∧(af eC L)) ?_ fin));rintro _ VE B⟨I,L,hV,hB,rfl,fh,gn,Tv⟩;refine aS _ _ hV hB (aB 5 aa (aM aa U ?_));refine ro 2 aa ?_;refine ax aa ?_ ?_<;>intro g3
  ·refine rc 7 aa ?_;obtain⟨po,kB,fu,mo,cZ⟩:=qI I SM;refine aT (aF aa aa U ae cZ aa ?_);refine cr aa aa (gr aa (aV aa) (aV aa) ?_);refine rq 2 aa ?_;obtain⟨BV,x8,zi,vA,eQ⟩:=qI A cq;refine aT (aF aa aa cW ae eQ aa ?_);refine cr aa aa (gr aa (aV aa) (aV aa) ?_);refine aP aa (aA aa (SubC F kB mo x8 vA) ?_);rintro _ _⟨jW,oX,rfl,oP,u9,lz⟩;refine aP rfl (aW (rows:=L) (ys:=oX) rfl rfl rfl (.sD oP (cP lz rfl)) au ae (fun h=>by rw[h];rfl) (fun h=>by rw[h];rfl) ?_);have k1:=ajT (z:=A) ae;exact W
  refine rc 1 aa (cl 7 90 aa aa (fun _=>⟨aa,aa⟩) (aB 6 aa (bB aa aa ae ae ?_)));refine cA 2 aa ?_;exact⟨((M.length:Int) -((A+1))).toNat,ae,(.cm L),L,(A+1),⟨rfl,rfl,rfl,rfl,rfl,trivial⟩,trivial,rfl,(.acc _),ae,Tv,(fun h=>by rw[h];rfl),ae⟩
 exact W
end Go.Ev.Rp
namespace Go.Ev.Rp
open Go Go.Ev.Pp
attribute [local irreducible] VC VO VQ VI Sound cF
theorem ahr{T:aO}(F:FT T){a0 a1 a2 a3 a4 a5:DC}(cC:(Ty.x).ok a0)(bX:(Ty.x).ok a1)(cN:(Ty.x).ok a2)(ch:tJ.ok a3){G:aj}(O:ao G a4)(fJ:G.length≤13)(Y:af jx G)(cB:(Ty.x).ok a5):Sound T 11 [.agg [.d a0,.d a1,.d a2,.d a3,.d a4,.d a5]] fun r=>∃y0 U,r= .d y0∧ao U y0∧(U.length:Int)≤8192∧af eC U:=by
 refine bg F.q11 aa ?_;obtain⟨bn,rfl,mB,mC⟩:=ch;refine r0 15 aa (de 3 90 47 16 2 aa aa (bd [2,1,0] [1] aa aa (fun e0 b0 k VE B=>∃z A,an ((3,.ac 90 A.length 2)::(4,.d (dJ z))::e0) VE∧an ((90,.acc 47 16 2 A)::b0) B∧k=((G.length:Int) -z).toNat∧(0≤z∧(z≤(G.length:Int)∨z=0))∧((A.length:Int)≤z)∧(af eC A)) ?_ fin));rintro _ VE B⟨z,A,hV,hB,rfl,bR,cM,M⟩;refine aS _ _ hV hB (aB 6 aa (aM aa O ?_));refine ro 2 aa ?_;refine ax aa ?_ ?_<;>intro g1
 ·refine rc 8 aa ?_;obtain⟨gm,gx,_,⟨I,rfl,Z,pY⟩,_,⟨L,rfl,xx,xz⟩,bM⟩:=qI z Y;refine aw (aF aa aa O ae bM aa ?_);refine ro 3 aa ?_;refine aw (aW (rows:=A) (ys:=[[(dJ I),(dJ L)]]) rfl rfl rfl (.bs (rows:=[[(dJ I),(dJ L)]]) rfl) au ae (fun h=>by rw[h];rfl) (fun h=>by rw[h];rfl) ?_);exact W
 refine rc 1 aa (cl 3 90 aa aa (fun _=>⟨aa,aa⟩) (rc 7 aa ?_));have qS:af eC [[i0,(dJ bn)]]:=(cJ (ah ai (ah ai bf)) ca);refine eV 24 24 aa aa (fun _=>⟨aa,aa⟩) (aw (aA aa (SubSC F (.inl aa) ae qS (.acc _) ae M) ?_));rintro _ _⟨gh,lE,rfl,xF,va,vb⟩;exact W
theorem IntSC{T:aO}(F:FT T){a0 a1:DC}{bV:aj}(cg:ao bV a0)(cI:bV.length≤1)(bJ:af eC bV){bN:aj}(cW:ao bN a1)(dg:bN.length≤8192)(cq:af eC bN):Sound T 128 [.d a0,.d a1] fun r=>∃y0 br,r= .d y0∧ao br y0∧(br.length:Int)≤8192∧af eC br:=by
 refine bg F.q128 aa (cf 7 aa (aA aa (Nv F cg ae bJ) ?_));rintro _ _⟨eo,O,rfl,L,jh,fF,ku,lv⟩;refine aJ 1 aa (aA aa (Nv F cW ae cq) ?_);rintro _ _⟨jV,U,rfl,M,AT,uZ,GV,Sf⟩;refine ro 13 aa (de 5 90 47 16 2 aa aa (bd [4,1,0] [] aa aa (fun e0 b0 k VE B=>∃z I,an ((5,.ac 90 I.length 2)::(6,.d (dJ z))::e0) VE∧an ((90,.acc 47 16 2 I)::b0) B∧k=((O.length:Int) -z).toNat∧(0≤z∧(z≤(O.length:Int)∨z=0))∧((I.length:Int)≤8192*z)∧(af eC I)) ?_ fin));rintro _ VE B⟨z,I,hV,hB,rfl,bR,cM,p9⟩;refine aS _ _ hV hB (aB 5 aa (aM aa L ?_));refine ro 2 aa ?_;refine ax aa ?_ ?_<;>intro g3
 ·refine rc 8 aa (bd [17,6,4,1,0] [] aa aa (fun e0 b0 k VE B=>∃A G,an ((5,.ac 90 G.length 2)::(7,.d (dJ A))::e0) VE∧an ((90,.acc 47 16 2 G)::b0) B∧k=((U.length:Int) -A).toNat∧(0≤A∧(A≤(U.length:Int)∨A=0))∧((G.length:Int)≤8192*z+A)∧(af eC G)) ?_ fin);rintro _ VE B⟨A,G,hV,hB,rfl,fh,gn,Mx⟩;refine aS _ _ hV hB (aB 5 aa (aM aa M ?_));refine ro 2 aa ?_;refine ax aa ?_ ?_<;>intro g4
  ·refine rc 7 aa ?_;obtain⟨BV,x8,zi,vA,eQ⟩:=qI z fF;refine aT (aF aa aa L ae eQ aa ?_);refine cr aa aa (gr aa (aV aa) (aV aa) ?_);refine rq 2 aa ?_;obtain⟨zg,rF,vV,rG,e6⟩:=qI A uZ;refine aT (aF aa aa M ae e6 aa ?_);refine cr aa aa (gr aa (aV aa) (aV aa) ?_);refine aP aa (aA aa (DD F x8 vA rF rG) ?_);rintro _ _⟨_,_,_,rfl,⟨Y,rfl,hzy7_0,kzy7_0⟩,⟨Z,rfl,hzy7_1,kzy7_1⟩,by7_2,rfl⟩;refine rq 11 aa ?_;refine cO aa ?_ ?_<;>intro h8
   ·refine rc 1 aa (rp 3 aa ?_);refine aw (aW (rows:=G) (ys:=[[(dJ Y),(dJ Z)]]) rfl rfl rfl (.bs (rows:=[[(dJ Y),(dJ Z)]]) rfl) au ae (fun h=>by rw[h];rfl) (fun h=>by rw[h];rfl) ?_);exact W
   exact W
  exact W
 exact rc 6 aa (cl 4 90 aa aa (fun _=>⟨aa,aa⟩) (W))
end Go.Ev.Rp
