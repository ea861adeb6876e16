/- Part 40 of rules for walks through the code of a program, and of such walks; what each part proves is said by its theorems. -/
import Derived.Test.YtmpoloiempjdpaaGreatR24
import Derived.Test.YtmpoloiempjdpaaGreatR25
import Derived.Test.YtmpoloiempjdpaaGreatR33
import Derived.Test.YtmpoloiempjdpaaGreatR34
import Derived.Test.YtmpoloiempjdpaaGreatR36
import Derived.Test.YtmpoloiempjdpaaGreatR38
import Derived.Test.YtmpoloiempjdpaaGreatR39
set_option linter.unusedVariables false
set_option linter.unusedSimpArgs false
noncomputable section
set_option maxRecDepth 100000
set_option maxHeartbeats 4000000
namespace Go.Ev.Rp
open Go Go.Ev.Pp
attribute [local irreducible] VC VO VQ VI Sound bY
theorem ok_lm{n m:Nat}{row:List Ty}{d:DC}(h:(Ty.l n row).ok d)(k:n≤m):(Ty.l m row).ok d:=by
 obtain⟨w,a,b,c⟩:=h;exact aL a (eO b k) c
def wR:Nat→Nat
 |0=>4096
 |n+1=>4*wR n+1
theorem mvI_s{z:Int}(h:0≤z):wR (z+1).toNat=4*wR z.toNat+1:=by rw[show(z+1).toNat=z.toNat+1 by omega];rfl
theorem mvI_lt{z:Int}(h0:0≤z)(h:z<2):wR z.toNat≤24000:=by
 rcases(by omega:z=0∨z=1) with rfl|rfl<;>decide
theorem mvI_le{z:Int}(h0:0≤z)(h:z≤2):wR z.toNat≤100000:=by
 rcases(by omega:z=0∨z=1∨z=2) with rfl|rfl|rfl<;>decide
theorem mvI_0:wR (0:Int).toNat=4096:=rfl
theorem okRs_take0{R:List Ty}{w:ai}:af R (w.take (0:Int).toNat):=fun r h=>by simp at h
theorem okRs_takeS{R:List Ty}{w:ai}{z:Int}{r:List DC}(h:af R (w.take z.toNat))(h0:0≤z)(A:w[z.toNat]?=some r)(G:e6 R r):af R (w.take (z+1).toNat):=by
 rw[show(z+1).toNat=z.toNat+1 by omega,oC,A];exact dW h (dG G)
theorem okRs_takeA{R:List Ty}{w:ai}{z:Int}(h:af R (w.take z.toNat))(A:(w.length:Int)≤z):af R w:=by rwa [pF al] at h
theorem StepN{T:aM}(F:FT T){nv mv:Nat}{P3 P4 P5:Ty}{a1 a2 a3 a4 a5 a6 a7 a8 a9 ky o7 o8 sY sZ s0 zp zq zs zu zw zx:DC}{aJ:Int}(iY:0≤aJ)(ic:aJ≤40)(bV:tJ.ok a1){bo:ai}(wx:0≤bo.length)(U:bo=[]→a2= .nil)(z:au bo a2)(df:bo.length≤16)(M:af (fq nv mv) bo)(cr:(P3).ok a3)(ca:(P4).ok a4)(cj:(P5).ok a5)(fi:tJ.ok a6)(fX:(Ty.s 1000).ok a7)(gk:(Ty.l 1000000000 cu).ok a8)(ig:tJ.ok a9)(mV:tJ.ok ky)(pV:(Ty.l 100 ey).ok o7)(BL:tJ.ok o8)(yJ:(Ty.l 10 ez).ok sY)(BM:(Ty.s 1000).ok sZ)(BN:(Ty.l 100 dV).ok s0)(Jb:(Ty.l 200 bn).ok zp)(Jc:(Ty.l 4 ep).ok zq)(Jd:(Ty.l 4 dT).ok zs)(Je:tJ.ok zu)(Jf:(Ty.s 1000).ok zw)(Jg:tJ.ok zx)(mw:nv≤99)(ru:mv≤24000)(Pj:1≤nv)(gP:P3.ok i0)(iH:P4.ok .nil)(fY:P5.ok .nil):Sound T 36 [.agg [.d (dJ aJ),.d a1,.d a2,.d a3,.d a4,.d a5],.agg [.d a6,.d a7,.d a8,.d a9,.d ky,.d o7,.d o8,.d sY,.d sZ,.d s0,.d zp,.d zq,.d zs,.d zu,.d zw,.d zx]] fun r=>∃y0 y1 y2 dE y4 y5 y6 y7,r= .tuple [.agg [.d (dJ y0),.d y1,.d y2,.d y4,.d y5,.d y6],.d (dJ y7)]∧(0≤y0∧y0≤40∧(True))∧tJ.ok y1∧au dE y2∧(dE.length:Int)≤16∧af (fq (nv+1) (4*mv+1)) dE∧0≤(dE.length:Int)∧(dE=[]→y2= .nil)∧(P3).ok y4∧(P4).ok y5∧(P5).ok y6∧((-9223372036854775808)≤y7∧y7≤9223372036854775807∧(y7=0→y0=aJ)):=by
 refine bm F.q36 aa ?_;rcases bV,fi,fX,gk,ig,mV,pV,BL,yJ,BM,BN,Jb,Jc,Jd,Je,Jf,Jg with⟨⟨aS,rfl,eB,ee⟩,⟨bu,rfl,nP,nQ⟩,⟨PB,rfl,ON⟩,⟨rA,lj,t9,lH⟩,⟨fQ,rfl,yH,yI⟩,⟨jj,rfl,MV,MW⟩,⟨aj4,MX,ahD,MY⟩,⟨za12,rfl,hza12,kza12⟩,⟨aj5,hda13,hna13,MZ⟩,⟨sa14,rfl,hsa14⟩,⟨wa15,UQ,hna15,UR⟩,⟨aj6,HW,ahE,HX⟩,⟨aj7,HY,ahF,HZ⟩,⟨aj8,H3,ahG,H4⟩,⟨za19,rfl,hza19,kza19⟩,⟨sa20,rfl,hsa20⟩,⟨za21,rfl,hza21,kza21⟩⟩
 refine r0 14 aa ?_;refine br aa ?_ ?_<;>intro h1
 ·exact W
 refine ro 5 aa ?_;refine ay aa ?_ ?_<;>intro h2
 ·exact W
 refine rc 8 aa ?_;refine ay aa ?_ ?_<;>intro g3
 ·refine aA 5 aa (aB aa (createN (aJ:=aJ) (nv:=nv) (mv:=mv) (P3:=P3) (P4:=P4) (P5:=P5) F ae ae ak ae U z ae M cr ca cj (bB al) UQ ae UR (aL HW ae HX) (aL HY ae HZ) (aL H3 ae H4) ae ae ae gP iH fY) ?_);rintro _ _⟨gp,sr,ub,A5,BR,Ez,Jr,OV,rfl,tH,vu,Av,Tz,Aw,afL,G0,Nd,Nf,U8,hy4_7⟩;exact eJ 6 aa (bL aa aa ⟨gp,sr,ub,A5,BR,Ez,Jr,OV,aa,⟨ae,ae,trivial⟩,vu,Av,ae,(o9 Aw ae ae),ae,G0,Nd,Nf,U8,⟨ae,ae,ae⟩⟩)
 refine aA 6 aa (aB aa (M' (aJ:=aJ) (nv:=nv) (mv:=mv) (P3:=P3) (P4:=P4) (P5:=P5) F ae ae ak ae U z ae M cr ca cj (bB al) ae ae gP iH fY) ?_);rintro _ _⟨Y,rfl,pw⟩;refine ro 8 aa ?_;refine ay aa ?_ ?_<;>intro h6
 ·exact W
 refine rc 6 aa ?_;obtain⟨nT,oI,oT,⟨wx7_1,L8,hnx7_1,L9⟩,yL,xX,V2,HL,V3,HM,V4,AT,eK⟩:=qI Y M;refine aw (aH aa aa z ae eK aa ?_);refine ro 20 aa ?_;refine ay aa ?_ ?_<;>intro g8
 ·refine aA 7 aa (qh aa aa (fun z9 hz9=>?_));refine aw (aB aa (AddColC (nv:=nv) F oI L8 ae L9 xX HL HM ak (bB al) ak ak ae) ?_);rintro _ _⟨nD,AS,aeG,ag9,MG,MH,_,rfl,Aj,K7,acv,K8,hy10_3,afM,hy10_5,zy10_6,rfl,hzy10_6,kzy10_6⟩;refine ro 10 aa (rp 3 aa ?_);refine ay aa ?_ ?_<;>intro ur
  ·exact W
  refine rc 6 aa ?_;obtain⟨U9,G,TA,I,L⟩:=Ty.bC AT;refine aw (aB aa (yh (aJ:=aJ) (bu:=Y) (nv:=nv) (mv:=mv) (rB:=nv+1) (rD:=4*mv+1) F ae ae ak ae U z ae M cr ca cj ae ae Aj (aL K7 ae K8) hy10_3 afM hy10_5 (bC ⟨_,G,ae,I,L⟩) ae ae gP iH fY) ?_);rintro _ _⟨DS,ahN,aff,ahO,ahP,ahQ,rfl,GP,acN,acO,acP,hmy12_1,hey12_1,afg,afh,afi⟩;exact W
 refine rc 5 aa ?_;refine ay aa ?_ ?_<;>intro sT
 ·refine aA 9 aa (qh aa aa (fun z14 OU=>?_));refine aw (aB aa (DropColC (nv:=nv) F oI L8 ae L9 xX HL HM ak ak ae) ?_);rintro _ _⟨Na,y15_1,wy15_1,y15_3,y15_4,y15_5,_,rfl,afN,Z,hny15_1,adr,afO,afP,afQ,zy15_6,rfl,hzy15_6,kzy15_6⟩;refine ro 12 aa (bj [64,50,43,35,23,19,7,6,5,4,3,2,1,0] [7,4,3,2] aa aa (fun e0 b0 k VE B=>∃OW O,an ((8,.d (dJ OW))::(9,.d (dJ O))::e0) VE∧an b0 B∧k=((bo.length:Int) -O).toNat∧(-9223372036854775808≤OW∧OW≤9223372036854775807)∧(0≤O∧(O≤(bo.length:Int)∨O=0))) ?_ fin);rintro _ VE B⟨OW,O,hV,hB,rfl,bU,cS⟩;refine aU _ _ hV hB (aA 6 aa (aQ aa z ?_));refine ro 2 aa ?_;refine br aa ?_ ?_<;>intro o5
  ·refine ro 4 aa ?_;refine ay aa ?_ ?_<;>intro ux
   ·refine rc 8 aa ?_;obtain⟨ahz,S3,ahL,S8,ahM,S9,x18_3,⟨afR,ads,hnx18_3,hrx18_3⟩,x18_4,hx18_4,x18_5,hx18_5,nV⟩:=qI O M;refine bj [87,64,50,43,35,23,19,9,7,6,5,4,3,2,1,0] [7,4,3,2] aa aa (fun e0 b0 k VE B=>∃OX A,an ((8,.d (dJ OX))::(10,.d (dJ A))::e0) VE∧an b0 B∧k=((afR.length:Int) -A).toNat∧(-9223372036854775808≤OX∧OX≤9223372036854775807)∧(0≤A∧(A≤(afR.length:Int)∨A=0))) ?_ fin;rintro _ VE B⟨OX,A,hV,hB,rfl,fu,gL⟩;refine aU _ _ hV hB (aA 7 aa (aH aa aa z ae nV aa ?_));refine aN 3 aa (aQ aa ads ?_);refine ro 2 aa ?_;refine ay aa ?_ ?_<;>intro Yu
    ·refine aA 8 aa (aH aa aa z ae nV aa ?_);refine ro 4 aa ?_;obtain⟨MS,GK,_,⟨sx20_1,rfl,hsx20_1⟩,_,rfl,nd⟩:=qI A hrx18_3;refine aw (aH aa aa ads ae nd aa ?_);refine ro 10 aa ?_;refine br aa ?_ ?_<;>intro E5
     ·refine ro 4 aa (bM aa aa (pb aa aa ?_));refine ro 2 aa ?_;refine br aa ?_ ?_<;>intro Px
      ·refine ro 5 aa (bM aa aa (aB aa (DH F (.inl aa) ae tp ak) ?_));rintro _ _⟨Ie,rfl,TB⟩;exact W
      exact W
     exact W
    exact W
   refine rc 7 aa ?_;refine ay aa ?_ ?_<;>intro h26
   ·exact W
   refine rc 6 aa ?_;obtain⟨U9,G,TA,I,L⟩:=Ty.bC AT;refine aw (aB aa (yh (aJ:=aJ) (bu:=Y) (nv:=nv) (mv:=mv) (rB:=nv+1) (rD:=4*mv+1) F ae ae ak ae U z ae M cr ca cj ae ae afN (aL Z ae adr) afO afP afQ (bC ⟨_,G,ae,I,L⟩) ae ae gP iH fY) ?_);rintro _ _⟨ah4,y27_1,wy27_1,y27_3,y27_4,y27_5,rfl,afS,hdy27_1,hny27_1,hry27_1,hmy27_1,hey27_1,hy27_3,hy27_4,hy27_5⟩;exact W
  refine ro 4 aa (dq aa aa (rc 7 aa ?_));refine ay aa ?_ ?_<;>intro h28
  ·exact W
  refine rc 6 aa ?_;obtain⟨U9,G,TA,I,L⟩:=Ty.bC AT;refine aw (aB aa (yh (aJ:=aJ) (bu:=Y) (nv:=nv) (mv:=mv) (rB:=nv+1) (rD:=4*mv+1) F ae ae ak ae U z ae M cr ca cj ae ae afN (aL Z ae adr) afO afP afQ (bC ⟨_,G,ae,I,L⟩) ae ae gP iH fY) ?_);rintro _ _⟨y29_0,y29_1,wy29_1,y29_3,y29_4,y29_5,rfl,hy29_0,hdy29_1,hny29_1,hry29_1,hmy29_1,hey29_1,hy29_3,hy29_4,hy29_5⟩;exact W
 refine aA 5 aa (aB aa (modifyN (aJ:=aJ) (bu:=Y) (nv:=nv) (mv:=mv) (P3:=P3) (P4:=P4) (P5:=P5) F ae ae ak ae U z ae M cr ca cj ae ae ak (bB al) (aL lj ae lH) ak ak (aL MX ae MY) ak (aL hda13 ae MZ) (bB al) (aL UQ ae UR) (aL HW ae HX) (aL HY ae HZ) (aL H3 ae H4) ak (bB al) ak ae ae gP iH fY) ?_);rintro _ _⟨A4,ah5,y30_2,wy30_2,ah6,ah7,y30_6,y30_7,rfl,Tl,hy30_1,hdy30_2,hny30_2,hry30_2,hmy30_2,hey30_2,afC,afD,hy30_6,hy30_7⟩;exact eJ 6 aa (bL aa aa ⟨A4,ah5,y30_2,wy30_2,ah6,ah7,y30_6,y30_7,aa,⟨ae,ae,trivial⟩,hy30_1,hdy30_2,ae,(o9 hry30_2 ae ae),ae,hey30_2,afC,afD,hy30_6,⟨ae,ae,ae⟩⟩)
theorem CheckN{T:aM}(F:FT T){nv mv:Nat}{P3 P4 P5:Ty}{a1 a2 a3 a4 a5:DC}{aJ:Int}(iY:0≤aJ)(ic:aJ≤40)(bV:tJ.ok a1){Z:ai}(wx:0≤Z.length)(jT:Z=[]→a2= .nil)(z:au Z a2)(df:Z.length≤16)(bQ:af (fq nv mv) Z)(cr:(P3).ok a3)(ca:(P4).ok a4)(cj:(P5).ok a5)(mw:nv≤99)(ru:mv≤100000)(gP:P3.ok i0)(iH:P4.ok .nil)(fY:P5.ok .nil):Sound T 37 [.agg [.d (dJ aJ),.d a1,.d a2,.d a3,.d a4,.d a5]] fun r=>∃y0,r= .d y0∧tJ.ok y0:=by
 refine bm F.q37 aa ?_;obtain⟨aS,rfl,eB,ee⟩:=bV;refine r0 11 aa (bj [2,1,0] [1] aa aa (fun e0 b0 k VE B=>∃wg,an ((3,.d (dJ wg))::e0) VE∧an b0 B∧d9 k 0 wg (Z.length:Int)) ?_ fin);rintro _ VE B⟨wg,hV,hB,rfl,bU⟩;refine aU _ _ hV hB (aA 6 aa (aQ aa z ?_));refine ro 2 aa ?_;refine ay aa ?_ ?_<;>intro g1
 ·refine rc 8 aa ?_;obtain⟨gW,jt,fH,⟨nF,oA,nz,oB⟩,gf,⟨Ng,I,Ao,Dc⟩,lk,lC,wu,yf,Xi,A6,bS⟩:=qI wg bQ;refine aw (aH aa aa z ae bS aa ?_);refine ro 6 aa (rp 3 aa (aV (aQ aa I ?_)));refine rq 2 aa ?_;refine dL aa ?_ ?_<;>intro g3
  ·refine rq 1 aa ?_;obtain⟨wx2_5,hdx2_5,hnx2_5,TC,hvx2_5⟩:=Ty.bC A6;refine fL aa aa aa (aB aa (H7 F jt (aL oA ae oB) (aL I ae Dc) lC yf hdx2_5 ae TC) ?_);rintro _ _⟨gp,lD,rfl,va,tq,ts,Ak,C1⟩;refine rq 3 aa (fL aa aa aa (aB aa (Cx F I ae Dc) ?_));rintro _ _⟨jz,iR,rfl,lV,rP,kK,tw,tz⟩;refine fL aa aa aa (aB aa (adl F va ae ts lV ae kK) ?_);rintro _ _⟨lg,qK,rfl,oy,xB,nA⟩;refine cl aa aa (aQ aa oy ?_);exact rq 2 aa (W)
  exact rq 10 aa (W)
 refine rc 7 aa (bj [19,3,2,1,0] [1] aa aa (fun e0 b0 k VE B=>∃iV,an ((5,.d (dJ iV))::e0) VE∧an b0 B∧d9 k 0 iV (Z.length:Int)) ?_ fin);rintro _ VE B⟨iV,hV,hB,rfl,fu⟩;refine aU _ _ hV hB (aA 6 aa (aQ aa z ?_));refine ro 2 aa ?_;refine ay aa ?_ ?_<;>intro g8
 ·refine rc 8 aa ?_;obtain⟨pP,lX,q7,⟨aib,G1,afT,G2⟩,BO,tO,Ji,⟨aic,A,hnx9_3,L⟩,Et,tK,Eu,tL,fw⟩:=qI iV bQ;refine aw (aH aa aa z ae fw aa ?_);refine ro 9 aa (bj [47,19,6,5,3,2,1,0] [6,1] aa aa (fun e0 b0 k VE B=>∃OY,an ((7,.d (dJ OY))::e0) VE∧an b0 B∧d9 k 0 OY (aic.length:Int)) ?_ fin);rintro _ VE B⟨OY,hV,hB,rfl,na⟩;refine aU _ _ hV hB (aA 7 aa (aQ aa A ?_));refine ro 2 aa ?_;refine ay aa ?_ ?_<;>intro uw
  ·refine rc 9 aa ?_;obtain⟨_,rfl,UM,C2,_,rfl,wi⟩:=qI OY L;refine aw (aH aa aa A ae wi aa ?_);refine aN 14 aa (aB aa (M' (aJ:=aJ) (nv:=nv) (mv:=mv) (P3:=P3) (P4:=P4) (P5:=P5) F ae ae ak ae jT z ae bQ cr ca cj C2 ae ae gP iH fY) ?_);rintro _ _⟨DS,rfl,GP⟩;refine ro 7 aa ?_;refine ay aa ?_ ?_<;>intro sT
   ·refine rc 4 aa ?_;obtain⟨UO,LY,M4,⟨wx14_1,hdx14_1,hnx14_1,hrx14_1⟩,Ih,Da,x14_3,afU,x14_4,afV,x14_5,afW,gX⟩:=qI DS bQ;refine aw (aH aa aa z ae gX aa ?_);refine ro 1 aa ?_;obtain⟨wx14_5,hdx14_5,hnx14_5,hrx14_5,hvx14_5⟩:=Ty.bC afW;refine aw (aB aa (H7 F LY (aL hdx14_1 ae hrx14_1) Da afU afV hdx14_5 ae hrx14_5) ?_);rintro _ _⟨Na,GV,rfl,zY,RQ,zZ,hmy15_0,hey15_0⟩;refine ro 5 aa ?_;obtain⟨wx9_5,M,hnx9_5,O,hvx9_5⟩:=Ty.bC tL;refine aP aa (aB aa (H7 F lX (aL G1 ae G2) tO (aL A ae L) tK M ae O) ?_);rintro _ _⟨HR,TD,rfl,Gg,adt,Gh,adu,adv⟩;refine rq 3 aa (aP aa (aB aa (Cx F (.inl aa) ae tp) ?_));rintro _ _⟨y17_0,wy17_0,rfl,adw,hny17_0,adx,hmy17_0,hey17_0⟩;refine rq 2 aa (aP aa (aB aa (Cx F (.inl aa) ae tp) ?_));rintro _ _⟨U',afX,rfl,RV,hny18_0,RW,hmy18_0,hey18_0⟩;refine aP aa (aB aa (afH F Gg ae Gh zY ae zZ adw ae adx RV ae RW) ?_);rintro _ _⟨H5,wy19_0,rfl,ac4,hny19_0,hry19_0⟩;refine aV (aQ aa ac4 ?_);exact W
   refine rc 4 aa ?_;obtain⟨wx9_5,M,hnx9_5,O,hvx9_5⟩:=Ty.bC tL;refine aP aa (aB aa (H7 F lX (aL G1 ae G2) tO (aL A ae L) tK M ae O) ?_);rintro _ _⟨ah0,wy21_0,rfl,hdy21_0,hny21_0,hry21_0,hmy21_0,hey21_0⟩;refine rq 3 aa (aP aa (aB aa (Cx F (.inl aa) ae tp) ?_));rintro _ _⟨HS,Tk,rfl,CJ,RI,CK,ade,adf⟩;refine rq 2 aa (aP aa (aB aa (Cx F (.inl aa) ae tp) ?_));rintro _ _⟨MU,S4,rfl,CH,RB,CI,RC,hey23_0⟩;refine aP aa (aB aa (afH F hdy21_0 ae hry21_0 (.inr ⟨aa,aa⟩) ae cb CJ ae CK CH ae CI) ?_);rintro _ _⟨Ie,Tm,rfl,CL,ac8,Ll⟩;refine aV (aQ aa CL ?_);exact W
  exact W
 refine rc 7 aa (bj [47,19,5,3,2,1,0] [1] aa aa (fun e0 b0 k VE B=>∃U,an ((11,.d (dJ U))::e0) VE∧an b0 B∧d9 k 0 U (Z.length:Int)) ?_ fin);rintro _ VE B⟨U,hV,hB,rfl,Ep⟩;refine aU _ _ hV hB (aA 6 aa (aQ aa z ?_));refine ro 2 aa ?_;refine ay aa ?_ ?_<;>intro YO
 ·refine rc 8 aa ?_;obtain⟨x27_0,hx27_0,x27_1,⟨wx27_1,hdx27_1,hnx27_1,hrx27_1⟩,x27_2,hx27_2,x27_3,hx27_3,x27_4,⟨wx27_4,G,hnx27_4,ady⟩,x27_5,hx27_5,Xj⟩:=qI U bQ;refine aw (aH aa aa z ae Xj aa ?_);refine ro 9 aa (bj [97,47,19,12,11,5,3,2,1,0] [12,1] aa aa (fun e0 b0 k VE B=>∃Y,an ((13,.d (dJ Y))::e0) VE∧an b0 B∧d9 k 0 Y (wx27_4.length:Int)) ?_ fin);rintro _ VE B⟨Y,hV,hB,rfl,I7⟩;refine aU _ _ hV hB (aA 7 aa (aQ aa G ?_));refine ro 2 aa ?_;refine ay aa ?_ ?_<;>intro PF
  ·refine rc 9 aa ?_;obtain⟨H9,vg,vB,⟨wx29_1,Lh,hnx29_1,Li⟩,nW⟩:=qI Y ady;refine aw (aH aa aa G ae nW aa ?_);refine ro 7 aa ?_;obtain⟨wx27_5,hdx27_5,hnx27_5,hrx27_5,hvx27_5⟩:=Ty.bC hx27_5;refine aP aa (aB aa (H7 F hx27_0 (aL hdx27_1 ae hrx27_1) hx27_2 hx27_3 (aL G ae ady) hdx27_5 ae hrx27_5) ?_);rintro _ _⟨A4,Tu,rfl,Ge,adg,Gf,adh,adi⟩;refine rq 4 aa (aP aa (aB aa (Cx F Lh ae Li) ?_));rintro _ _⟨ahd,aeK,rfl,K9,acw,La,hmy31_0,hey31_0⟩;refine aP aa (aB aa (ConVioC F Ge ae Gf vg K9 ae La) ?_);rintro _ _⟨y32_0,wy32_0,rfl,hdy32_0,hny32_0,hry32_0⟩;refine aV (aQ aa hdy32_0 ?_);exact W
  exact W
 exact W
theorem CommitN{T:aM}(F:FT T){nv:Nat}{P3 P4 P5:Ty}{a1 a2 a3 a4 a5 a6:DC}{aJ:Int}(iY:0≤aJ)(ic:aJ≤30)(bV:tJ.ok a1){bo:ai}(wx:0≤bo.length)(jT:bo=[]→a2= .nil)(ct:au bo a2)(df:bo.length≤16)(bQ:af (fq nv 4096) bo)(cr:(P3).ok a3)(ca:(P4).ok a4)(cj:(P5).ok a5){gQ:ai}(gu:au gQ a6)(yP:gQ.length≤2)(iW:af Mz gQ)(mw:nv≤97)(Pj:1≤nv)(gP:P3.ok i0)(iH:P4.ok .nil)(fY:P5.ok .nil):Sound T 17 [.agg [.d (dJ aJ),.d a1,.d a2,.d a3,.d a4,.d a5],.d a6] fun r=>∃y0 y1 y2 dE y4 y5 y6 y7,r= .tuple [.agg [.d (dJ y0),.d y1,.d y2,.d y4,.d y5,.d y6],.d (dJ y7)]∧(0≤y0∧y0≤40∧(True))∧tJ.ok y1∧au dE y2∧(dE.length:Int)≤16∧af (fq (nv+2) 4096) dE∧0≤(dE.length:Int)∧(dE=[]→y2= .nil)∧(P3).ok y4∧(P4).ok y5∧(P5).ok y6∧((-9223372036854775808)≤y7∧y7≤9223372036854775807∧(y7=0→y0=aJ+1)):=by
 refine bm F.q17 aa ?_;obtain⟨aS,rfl,eB,ee⟩:=bV;refine r0 10 aa ?_;have k0:=mvI_0;refine aw (aQ aa gu ?_);refine ro 2 aa ?_;refine ay aa ?_ ?_<;>intro h1
 ·exact W
 refine rc 7 aa (bj [13,5,4,2,1,0] [4] aa aa (fun e0 b0 k VE B=>∃G L Z O A L' Ma Mb,an ((6,.d (dJ G))::e0) VE∧an ((2,.one 29 96 [.d (dJ L),.d Z,.d O,.d L',.d Ma,.d Mb])::b0) B∧k=((gQ.length:Int) -G).toNat∧(0≤G∧(G≤(gQ.length:Int)∨G=0))∧(L=aJ)∧(tJ.ok Z)∧(au A O)∧((A.length:Int)≤16)∧(af (fq (nv+G.toNat) (wR G.toNat)) A)∧(A=[]→O= .nil)∧((P3).ok L')∧((P4).ok Ma)∧((P5).ok Mb)) ?_ fin);rintro _ VE B⟨G,L,Z,O,A,L',Ma,Mb,hV,hB,rfl,bU,cS,RX,I,vZ,U,Y,RY,RZ,R0⟩;refine aU _ _ hV hB (aA 5 aa (aQ aa gu ?_));refine ro 2 aa ?_;refine ay aa ?_ ?_<;>intro g2
 ·refine rc 8 aa ?_;obtain⟨pS,Va,ud,tP,Br,qL,akh,Vb,aki,M6,akj,M7,x3_6,Vc,x3_7,Vd,x3_8,Ve,x3_9,Vf,x3_10,hx3_10,x3_11,hx3_11,x3_12,hx3_12,x3_13,hx3_13,x3_14,hx3_14,x3_15,hx3_15,fJ⟩:=qI G iW;refine aV (aH aa aa gu ae fJ aa ?_);refine cJ aa aa (iJ aa (aX aa) (aX aa) ?_);have km:=mvI_lt (z:=G) ae ae;have ks:=mvI_s (z:=G) ae;refine aP aa (aB aa (StepN (aJ:=L) (nv:=nv+G.toNat) (mv:=wR G.toNat) F ae ae RX ae Y I ae U RY RZ R0 Va tP qL Vb M6 M7 Vc Vd Ve Vf hx3_10 hx3_11 hx3_12 hx3_13 hx3_14 hx3_15 ae ae ae gP iH fY) ?_);rintro _ _⟨gp,sr,ub,A5,BR,Ez,Jr,OV,rfl,tH,vu,Av,Tz,Aw,afL,G0,Nd,Nf,U8,hy4_7⟩;refine rq 13 aa ?_;refine ay aa ?_ ?_<;>intro h5
  ·exact W
  refine aA 7 aa (bx aa aa ae ae ?_);exact cL 2 aa (⟨((gQ.length:Int) -((G+1))).toNat,ae,(G+1),gp,sr,ub,A5,BR,Ez,Jr,⟨aa,aa,aa,aa,aa,aa,aa,trivial⟩,⟨aa,aa,trivial⟩,aa,ae,ae,vu,Av,ae,(o9 Aw ae ae),G0,Nd,Nf,U8⟩)
 refine rc 7 aa (bj [18,13,6,5,4,2,1,0] [4,2] aa aa (fun e0 b0 k VE B=>∃M,an ((9,.d (dJ M))::e0) VE∧an b0 B∧k=((A.length:Int) -M).toNat∧(0≤M∧(M≤(A.length:Int)∨M=0))∧(af (fq (nv+2) 4096) (A.take M.toNat))) ?_ fin);rintro _ VE B⟨M,hV,hB,rfl,fu,gL⟩;refine aU _ _ hV hB (aA 6 aa (aQ aa I ?_));refine ro 2 aa ?_;refine ay aa ?_ ?_<;>intro g6
 ·refine rc 8 aa ?_;obtain⟨nT,oI,oT,tG,yL,xX,V2,HL,V3,HM,V4,AT,eK⟩:=qI M U;refine aw (aH aa aa I ae eK aa ?_);obtain⟨U9,hdx7_5,TA,hrx7_5,hvx7_5⟩:=Ty.bC AT;refine aN 2 aa (aQ aa hdx7_5 ?_);refine ro 2 aa ?_;refine ay aa ?_ ?_<;>intro h8
  ·exact W
  refine aA 3 aa (bx aa aa ae ae ?_);refine cL 2 aa ?_;exact⟨((A.length:Int) -((M+1))).toNat,ae,(M+1),⟨rfl,rfl,rfl,rfl,rfl,rfl,rfl,rfl,rfl,trivial⟩,⟨rfl,rfl,trivial⟩,rfl,ae,(by first|assumption|exact okRs_take0|exact okRs_takeS (by assumption) ae (by assumption) (ah (by assumption) (ah (ok_lm (by assumption) ae) (ah (by assumption) (ah (by assumption) (ah (by assumption) (ah (bC ⟨_,(by assumption),ae,(by assumption),(by assumption)⟩) bl)))))))⟩
 refine rc 5 aa ?_;have kl:=mvI_le (z:=G) ae ae;refine aw (aB aa (CheckN (aJ:=L) (nv:=nv+G.toNat) (mv:=wR G.toNat) F ae ae RX ae Y I ae U RY RZ R0 ae ae gP iH fY) ?_);rintro _ _⟨_,rfl,HO,rfl,SB,SC⟩;refine ro 4 aa (rp 3 aa ?_);refine ay aa ?_ ?_<;>intro Yy
 ·exact W
 refine aA 5 aa (bx aa aa ae ae ?_);refine ro 5 aa ?_;skip;exact rpx 5 aa (bL aa aa ⟨(L+1),Z,O,A,L',Ma,Mb,0,aa,⟨ae,ae,trivial⟩,RX,I,ae,(okRs_takeA dC ae),ae,Y,RY,RZ,R0,⟨ae,ae,ae⟩⟩)
end Go.Ev.Rp
namespace Go.Ev.Rp
open Go Go.Ev.Pp
attribute [local irreducible] VC VO VQ VI Sound bY
theorem keptY{T:aM}(F:FT T){a0 a1 a2 a3 a4 a5 a6 a7 a8 a9 Y Z:DC}(cP:(Ty.x).ok a0)(bV:(Ty.x).ok a1)(cG:(Ty.x).ok a2)(cr:tJ.ok a3){G:ai}(A:au G a4)(eU:G.length≤13)(I:af iP G)(cj:(Ty.x).ok a5)(fi:tJ.ok a6)(fX:(Ty.l 1000000000 cu).ok a7)(gk:tJ.ok a8)(ig:tJ.ok a9)(mV:tJ.ok Y)(pV:tJ.ok Z):Sound T 136 [.agg [.d a0,.d a1,.d a2,.d a3,.d a4,.d a5],.agg [.d a6,.d a7,.d a8,.d a9,.d Y,.d Z]] fun r=>∃y0,r= .d y0∧(Ty.b).ok y0:=by
 refine bm F.ajz aa ?_;rcases cr,fi,fX,gk,ig,mV,pV with⟨⟨aT,rfl,mf,mg⟩,⟨bu,rfl,nP,nQ⟩,⟨wJ,Ei,Oo,Ej⟩,⟨gC,rfl,t6,t7⟩,⟨fQ,rfl,yH,yI⟩,⟨jj,rfl,MV,MW⟩,⟨eD,rfl,UZ,U0⟩⟩
 refine r0 16 aa ?_;refine br aa ?_ ?_<;>intro g1
 ·refine ro 2 aa (bM aa aa (aB aa (ph F ak ak) ?_));rintro _ _⟨_,rfl,by2_0,rfl⟩;refine ro 2 aa ?_;refine cE aa ?_ ?_<;>intro h3
  ·exact W
  refine rc 7 aa (bj [18,4,3,2,1,0] [3,2] aa aa (fun e0 b0 k VE B=>∃z,an ((5,.d (dJ z))::e0) VE∧an b0 B∧d9 k 0 z (G.length:Int)) ?_ fin);rintro _ VE B⟨z,hV,hB,rfl,bU⟩;refine aU _ _ hV hB (aA 6 aa (aQ aa A ?_));refine ro 2 aa ?_;refine ay aa ?_ ?_<;>intro g4
  ·refine rc 10 aa ?_;obtain⟨Ek,AQ,BG,L,I8,M,e9⟩:=qI z I;refine aV (aH aa aa A ae e9 aa ?_);refine rq 1 aa (cJ aa aa (iJ aa (aX aa) (aX aa) ?_));refine aP aa (aB aa (CZ F ak ak L M) ?_);rintro _ _⟨lg,vU,pO,rfl,qG,rX,DT⟩;exact W
  exact W
 refine ro 5 aa (dq aa aa (rc 7 aa (bj [18,4,3,2,1,0] [3,2] aa aa (fun e0 b0 k VE B=>∃z,an ((5,.d (dJ z))::e0) VE∧an b0 B∧d9 k 0 z (G.length:Int)) ?_ fin)));rintro _ VE B⟨z,hV,hB,rfl,bU⟩;refine aU _ _ hV hB (aA 6 aa (aQ aa A ?_));refine ro 2 aa ?_;refine ay aa ?_ ?_<;>intro g8
 ·refine rc 10 aa ?_;obtain⟨pP,lX,q7,O,BO,U,fw⟩:=qI z I;refine aV (aH aa aa A ae fw aa ?_);refine rq 1 aa (cJ aa aa (iJ aa (aX aa) (aX aa) ?_));refine aP aa (aB aa (CZ F ak ak O U) ?_);rintro _ _⟨nD,AS,HK,rfl,Aj,Sp,hy10_2⟩;exact W
 exact W
theorem afY{T:aM}(F:FT T){nv mv:Nat}{P5:Ty}{a1 a2 a4 a5:DC}{aJ:Int}(iY:0≤aJ)(ic:aJ≤40)(bV:tJ.ok a1){bo:ai}(ct:au bo a2)(df:bo.length≤16)(bQ:af (fq nv mv) bo){aT:Int}(fV:0≤aT)(fW:aT≤aJ){dK:ai}(EA:0≤dK.length)(OZ:dK=[]→a4= .nil)(dx:au dK a4)(eU:dK.length≤13)(dg:af iP dK)(cj:(P5).ok a5)(mw:nv≤99)(ru:mv≤100000)(fY:P5.ok .nil):Sound T 82 [.agg [.d (dJ aJ),.d a1,.d a2,.d (dJ aT),.d a4,.d a5]] fun r=>∃y0 y1 kx y3 E4 y5,r= .agg [.d (dJ aJ),.d y0,.d y1,.d (dJ aT),.d y3,.d y5]∧tJ.ok y0∧au kx y1∧(kx.length:Int)≤16∧af (fq nv mv) kx∧0≤(kx.length:Int)∧(kx=[]→y1= .nil)∧au E4 y3∧(E4.length:Int)≤dK.length∧af iP E4∧0≤(E4.length:Int)∧(E4=[]→y3= .nil)∧(P5).ok y5:=by
 refine bm F.q82 aa ?_;obtain⟨aS,rfl,eB,ee⟩:=bV;refine r0 15 aa (dP 3 90 43 136 6 aa aa (bj [2,1,0] [2,1] aa aa (fun e0 b0 k VE B=>∃G L,an ((3,.ac 90 L.length 6)::(4,.d (dJ G))::e0) VE∧an ((90,.acc 43 136 6 L)::b0) B∧k=((bo.length:Int) -G).toNat∧(0≤G∧(G≤(bo.length:Int)∨G=0))∧((L.length:Int)≤G)∧(af (fq nv mv) L)) ?_ fin));rintro _ VE B⟨G,L,hV,hB,rfl,bU,cS,GG⟩;refine aU _ _ hV hB (aA 6 aa (aQ aa ct ?_));refine ro 2 aa ?_;refine ay aa ?_ ?_<;>intro g1
 ·refine rc 8 aa ?_;obtain⟨_,⟨U,rfl,G3⟩,fH,⟨nF,oA,nz,oB⟩,gf,⟨Ng,TE,Ao,Dc⟩,lk,⟨M3,GO,LZ,Ar⟩,wu,⟨wx2_4,TG,hnx2_4,TH⟩,Xi,A6,bS⟩:=qI G bQ;refine aw (aH aa aa ct ae bS aa ?_);refine ro 14 aa ?_;obtain⟨I,M,hnx2_5,TC,hvx2_5⟩:=Ty.bC A6;refine dP 6 91 48 64 6 aa aa ?_;refine bj [12,5,4,3,2,1,0] [90,5,2,1] rfl rfl (fun e0 b0 k VE B=>∃z A,an ((6,.ac 91 A.length 6)::(7,.d (dJ z))::e0) VE∧an ((91,.acc 48 64 6 A)::b0) B∧k=((I.length:Int) -z).toNat∧(0≤z∧(z≤(I.length:Int)∨z=0))∧((A.length:Int)≤z)∧(af gb A)∧(fG z I A)) ?_ (k:=((I.length:Int) -0).toNat) ⟨0,[],⟨rfl,rfl,rfl,rfl,rfl,rfl,rfl,rfl,rfl,trivial⟩,⟨rfl,rfl,rfl,rfl,rfl,trivial⟩,rfl,ae,cR,cb,(by first|assumption|exact Ai|exact fG.step (by assumption) (by assumption) ae (by assumption)|exact fG.skip (by assumption) ae)⟩;rintro _ VE B⟨z,A,hV,hB,rfl,fu,gL,O,V5⟩;refine aU _ _ hV hB (aA 6 aa (aQ aa M ?_));refine ro 2 aa ?_;refine ay aa ?_ ?_<;>intro g3
  ·refine rc 9 aa ?_;obtain⟨oS,ka,e5,kO,pQ,oH,IQ,rY,Xk,yj,Xl,DY,dj⟩:=qI z TC;refine aV (aH aa aa M ae dj aa ?_);refine cJ aa aa (iJ aa (aX aa) (aX aa) ?_);refine aP aa (aB aa (keptY F bZ bZ bZ ak dx ae dg bZ ka kO oH rY yj DY) ?_);rintro _ _⟨_,rfl,MM,rfl⟩;refine rq 1 aa ?_;refine cE aa ?_ ?_<;>intro h6
   ·refine aA 5 aa (aH aa aa M ae dj aa ?_);rcases Ty.dY ka,Ty.aL kO,Ty.dY oH,Ty.dY rY,Ty.dY yj,Ty.dY DY with⟨⟨Y,rfl,tt,tu⟩,⟨Ig,Dd,GY,De⟩,⟨Z,rfl,hzx4_2,kzx4_2⟩,⟨Vg,rfl,hzx4_3,kzx4_3⟩,⟨DA,rfl,hzx4_4,kzx4_4⟩,⟨DB,rfl,hzx4_5,kzx4_5⟩⟩
    refine ro 2 aa ?_;refine aw (aY (rows:=A) (ys:=[[(dJ Y),e5,(dJ Z),(dJ Vg),(dJ DA),(dJ DB)]]) rfl rfl rfl (.bs (rows:=[[(dJ Y),e5,(dJ Z),(dJ Vg),(dJ DA),(dJ DB)]]) rfl) ao ae (fun h=>by rw[h];rfl) (fun h=>by rw[h];rfl) ?_);refine aN 4 aa (bx aa aa ae ae ?_);refine cL 2 aa ?_;exact⟨((I.length:Int) -((z+1))).toNat,ae,(z+1),(A++[[(dJ Y),e5,(dJ Z),(dJ Vg),(dJ DA),(dJ DB)]]),⟨rfl,rfl,rfl,rfl,rfl,rfl,rfl,rfl,rfl,trivial⟩,⟨rfl,rfl,rfl,rfl,rfl,trivial⟩,rfl,ae,cR,(dW O (dG (ah ak (ah (aL Dd ae De) (ah ak (ah ak (ah ak (ah ak bl)))))))),(by first|assumption|exact Ai|exact fG.step (by assumption) (by assumption) ae (by assumption)|exact fG.skip (by assumption) ae)⟩
   refine aA 3 aa (bx aa aa ae ae ?_);refine cL 2 aa ?_;exact⟨((I.length:Int) -((z+1))).toNat,ae,(z+1),A,⟨rfl,rfl,rfl,rfl,rfl,rfl,rfl,rfl,rfl,trivial⟩,⟨rfl,rfl,rfl,rfl,rfl,trivial⟩,rfl,ae,ae,O,(by first|assumption|exact Ai|exact fG.step (by assumption) (by assumption) ae (by assumption)|exact fG.skip (by assumption) ae)⟩
  refine rc 5 aa (eH 42 91 aa aa (fun _=>⟨aa,aa⟩) (ro 3 aa (rp 3 aa ?_)));refine aw (aY (rows:=L) (ys:=[[(aq U),fH,gf,lk,wu,(.cF A)]]) rfl rfl rfl (.bs (rows:=[[(aq U),fH,gf,lk,wu,(.cF A)]]) rfl) ao ae (fun h=>by rw[h];rfl) (fun h=>by rw[h];rfl) ?_);refine aN 4 aa (bx aa aa ae ae ?_);refine cL 2 aa ?_;exact⟨((bo.length:Int) -((G+1))).toNat,ae,(G+1),(L++[[(aq U),fH,gf,lk,wu,(.cF A)]]),⟨rfl,rfl,rfl,rfl,rfl,trivial⟩,⟨rfl,rfl,rfl,trivial⟩,rfl,ae,cR,(dW GG (dG (ah (bB al) (ah (aL oA ae oB) (ah (aL TE ae Dc) (ah (aL GO ae Ar) (ah (aL TG ae TH) (ah (bC ⟨_,(.acc _),ae,O,(by first|assumption|exact gV.fin (by assumption)|exact fG.fin (by assumption) (by assumption))⟩) bl))))))))⟩
 exact rc 5 aa (eH 48 90 aa aa (fun _=>⟨aa,aa⟩) (W))
theorem ForgetY{T:aM}(F:FT T){nv mv:Nat}{P5:Ty}{a1 a2 a4 a5 a6:DC}{aJ:Int}(iY:0≤aJ)(ic:aJ≤40)(bV:tJ.ok a1){I:ai}(L:au I a2)(df:I.length≤16)(M:af (fq nv mv) I){aT:Int}(fV:0≤aT)(fW:aT≤aJ){z:ai}(EA:0≤z.length)(O:z=[]→a4= .nil)(U:au z a4)(eU:z.length≤13)(Y:af iP z)(cj:(P5).ok a5)(fi:tJ.ok a6)(mw:nv≤99)(ru:mv≤100000)(fY:P5.ok .nil):Sound T 52 [.agg [.d (dJ aJ),.d a1,.d a2,.d (dJ aT),.d a4,.d a5],.d a6] fun r=>∃Z y1 y2 A y4 y5 G y7 y8,r= .tuple [.agg [.d (dJ Z),.d y1,.d y2,.d (dJ y4),.d y5,.d y7],.d (dJ y8)]∧(0≤Z∧Z≤40∧(True))∧tJ.ok y1∧au A y2∧(A.length:Int)≤16∧af (fq nv mv) A∧0≤(A.length:Int)∧(A=[]→y2= .nil)∧(0≤y4∧y4≤40∧(True))∧au G y5∧(G.length:Int)≤z.length∧af iP G∧0≤(G.length:Int)∧(G=[]→y5= .nil)∧(P5).ok y7∧((-9223372036854775808)≤y8∧y8≤9223372036854775807∧(y8=0→Z=aJ∧y4≤aJ)):=by
 refine bm F.q52 aa ?_;rcases bV,fi with⟨⟨aS,rfl,eB,ee⟩,⟨bu,rfl,nP,nQ⟩⟩
 refine r0 12 aa ?_;refine br aa ?_ ?_<;>intro h1
 ·exact W
 refine ro 6 aa ?_;refine ay aa ?_ ?_<;>intro h2
 ·exact W
 refine rc 9 aa ?_;refine ay aa ?_ ?_<;>intro h3
 ·exact W
 refine aA 10 aa (aB aa (afY (aJ:=aJ) (aT:=bu) (nv:=nv) (mv:=mv) (P5:=P5) F ae ae ak L ae M ae ae ae O U ae Y cj ae ae fY) ?_);rintro _ _⟨gp,sr,wy4_1,Wm,wy4_3,Ez,rfl,tH,hdy4_1,hny4_1,hry4_1,hmy4_1,hey4_1,hdy4_3,hny4_3,hry4_3,hmy4_3,hey4_3,Nf⟩;exact W
theorem ReleaseY{T:aM}(F:FT T){nv mv:Nat}{P5:Ty}{a1 a2 a4 a5 a6:DC}{aJ:Int}(iY:0≤aJ)(ic:aJ≤40)(bV:tJ.ok a1){Y:ai}(Z:au Y a2)(df:Y.length≤16)(bQ:af (fq nv mv) Y){aT:Int}(fV:0≤aT)(fW:aT≤aJ){A:ai}(EA:0≤A.length)(U:A=[]→a4= .nil)(I:au A a4)(eU:A.length≤13)(L:af iP A)(cj:(P5).ok a5)(fi:tJ.ok a6)(mw:nv≤99)(ru:mv≤100000)(fY:P5.ok .nil):Sound T 51 [.agg [.d (dJ aJ),.d a1,.d a2,.d (dJ aT),.d a4,.d a5],.d a6] fun r=>∃y0 y1 y2 M y4 y5 O y7 y8,r= .tuple [.agg [.d (dJ y0),.d y1,.d y2,.d (dJ y4),.d y5,.d y7],.d (dJ y8)]∧(0≤y0∧y0≤40∧(True))∧tJ.ok y1∧au M y2∧(M.length:Int)≤16∧af (fq nv mv) M∧0≤(M.length:Int)∧(M=[]→y2= .nil)∧(0≤y4∧y4≤40∧(True))∧au O y5∧(O.length:Int)≤A.length∧af iP O∧0≤(O.length:Int)∧(O=[]→y5= .nil)∧(P5).ok y7∧((-9223372036854775808)≤y8∧y8≤9223372036854775807∧(y8=0→y0=aJ∧y4=aT)):=by
 refine bm F.q51 aa ?_;rcases bV,fi with⟨⟨aS,rfl,eB,ee⟩,⟨bu,rfl,nP,nQ⟩⟩
 refine r0 12 aa (bj [5,4,2,1,0] [4,2] aa aa (fun e0 b0 k VE B=>∃G,an ((6,.d (dJ G))::e0) VE∧an b0 B∧d9 k 0 G (A.length:Int)) ?_ fin);rintro _ VE B⟨G,hV,hB,rfl,bU⟩;refine aU _ _ hV hB (aA 6 aa (aQ aa I ?_));refine ro 2 aa ?_;refine ay aa ?_ ?_<;>intro g1
 ·refine rc 8 aa ?_;obtain⟨_,⟨oM,rfl,tv,ve⟩,fH,iQ,gf,iq,bS⟩:=qI G L;refine aw (aH aa aa I ae bS aa ?_);refine ro 5 aa ?_;refine ay aa ?_ ?_<;>intro g3
  ·refine rc 5 aa ?_;obtain⟨j4,p0,ni⟩:=bD (z:=G) (n:=A.length+1) ae ae;refine aV (eQ (l:=0) (h:=j4) rfl I L rfl U ⟨_,(by rw[←p0];rfl)⟩ rfl ae ae (fun d5 w5 wM Fb sQ=>?_));refine aP aa (VI.fresh aa (eb (ys:=w5) 26 aa aa aa aa aa (.sD wM (cD sQ aa)) ao ae ?_));refine dh 3 aa (bx aa aa ae ae ?_);obtain⟨j6,sX,qc⟩:=bD (z:=(G+1)) (n:=A.length+1) ae ae;refine aV (eQ (l:=j6) (h:=A.length) rfl I L rfl U rfl ⟨_,(by rw[←sX];rfl)⟩ ae ae (fun d7 w7 hd7 E9 Pn=>?_));refine aP aa (aY (rows:=w5) (ys:=w7) aa aa aa (.sD hd7 (cD Pn aa)) ao ae bR bR ?_);refine rq 1 aa (lQ 32 26 aa aa (fun _=>⟨aa,aa⟩) (rq 5 aa ?_));refine aw (aB rfl (afY (aJ:=aJ) (aT:=aT) (nv:=nv) (mv:=mv) (P5:=P5) F ae ae ak Z ae bQ ae ae ae (fun h=>by rw[h];rfl) (.acc _) Bm (dW sQ Pn) cj ae ae fY) ?_);rintro _ _⟨wh,Jq,wy8_1,y8_3,wy8_3,akx,rfl,AY,Tw,hny8_1,Tx,hmy8_1,hey8_1,hdy8_3,hny8_3,hry8_3,hmy8_3,hey8_3,hy8_5⟩;exact W
  exact W
 exact W
end Go.Ev.Rp
namespace Go.Ev.Rp
open Go Go.Ev.Pp
attribute [local irreducible] VC VO VQ VI Sound bY
theorem SubC{T:aM}(F:FT T){a0 a1 a2 a3:DC}(U:tJ.ok a0)(Y:tJ.ok a1)(Z:tJ.ok a2)(cr:tJ.ok a3):Sound T 190 [.agg [.d a0,.d a1],.agg [.d a2,.d a3]] fun r=>∃y0 G,r= .d y0∧au G y0∧(G.length:Int)≤2∧af ez G:=by
 refine bm F.q190 aa ?_;rcases U,Y,Z,cr with⟨⟨aJ,rfl,iv,iw⟩,⟨aS,rfl,eB,ee⟩,⟨bz,rfl,lF,lG⟩,⟨aT,rfl,mf,mg⟩⟩
 refine ch 10 aa (aB aa (ph F ak ak) ?_);rintro _ _⟨_,rfl,UK,rfl⟩;refine ro 2 aa ?_;refine cE aa ?_ ?_<;>intro h2
 ·exact W
 refine aA 5 aa (aB aa (CZ F ak ak ak ak) ?_);rintro _ _⟨_,_,_,rfl,⟨A,rfl,I,L⟩,⟨z,rfl,M,O⟩,ahS,rfl⟩;refine ro 10 aa (rp 3 aa ?_);refine cE aa ?_ ?_<;>intro h4
 ·refine rc 6 aa ?_;have JX:af ez [[(dJ aJ),(dJ aS)]]:=(cH (ah ak (ah ak bl)) cb);exact lz 4 20 aa aa (fun _=>⟨aa,aa⟩) (W)
 refine rc 8 aa (rp 6 aa ?_);refine ay aa ?_ ?_<;>intro g6
 ·refine aA 8 aa (eb (ys:=[[(dJ aJ),(dJ A)]]) 33 aa aa aa aa aa (.bs (rows:=[[(dJ aJ),(dJ A)]]) aa) ao ae ?_);refine ro 5 aa (rp 6 aa ?_);refine ay aa ?_ ?_<;>intro g7
  ·refine aA 8 aa (aY (rows:=[[(dJ aJ),(dJ A)]]) (ys:=[[(dJ z),(dJ aS)]]) aa aa aa (.bs (rows:=[[(dJ z),(dJ aS)]]) aa) ao ae (fun h=>absurd h bH) (fun h=>absurd h bH) ?_);exact ro 7 aa (cA 4 33 aa aa (fun _=>⟨aa,aa⟩) (eA 1 aa (bL aa aa ⟨(.cF ([[(dJ aJ),(dJ A)]]++[[(dJ z),(dJ aS)]])),([[(dJ aJ),(dJ A)]]++[[(dJ z),(dJ aS)]]),aa,(.acc _),vQ,(dW (dG (ah ak (ah ak bl))) (dG (ah ak (ah ak bl))))⟩)))
  exact rc 6 aa (cA 4 33 aa aa (fun _=>⟨aa,aa⟩) (W))
 refine rc 4 aa (rp 6 aa ?_);refine ay aa ?_ ?_<;>intro g8
 ·refine aA 8 aa (eb (ys:=[[(dJ z),(dJ aS)]]) 46 aa aa aa aa aa (.bs (rows:=[[(dJ z),(dJ aS)]]) aa) ao ae ?_);exact ro 7 aa (cA 4 46 aa aa (fun _=>⟨aa,aa⟩) (W))
 exact W
end Go.Ev.Rp
namespace Go.Ev.Rp
open Go Go.Ev.Pp
attribute [local irreducible] VC VO VQ VI Sound bY
def dd(z:Int):Int:=2^z.toNat
theorem dd_0:dd 0=1:=rfl
theorem aky{z:Int}(h:0≤z):dd (z+1)=2*dd z:=by
 unfold dd;rw[show(z+1).toNat=z.toNat+1 by omega,Int.pow_succ,Int.mul_comm]
theorem dd_le{z:Int}(h:0≤z)(h2:z≤13):1≤dd z∧dd z≤8192:=by
 unfold dd;have:z.toNat≤13:=by omega
 generalize z.toNat=n at this;have:∀m:Nat,m≤13→1≤(2:Int)^m∧(2:Int)^m≤8192:=by decide
 exact this n dC
theorem SubSC{T:aM}(F:FT T){a0 a1:DC}{bW:ai}(cM:au bW a0)(cT:bW.length≤1)(bN:af ez bW){M:ai}(cO:au M a1)(dn:M.length≤13)(cq:af ez M):Sound T 131 [.d a0,.d a1] fun r=>∃y0 bw,r= .d y0∧au bw y0∧(bw.length:Int)≤8192∧af ez bw:=by
 refine bm F.q131 aa (r0 6 aa ?_);have k0:=dd_0;refine iD 1 aa (aB aa (Nc F cM ae bN) ?_);rintro _ _⟨dD,fg,rfl,Y,kI,Z,mN,pn⟩;refine ro 8 aa (bj [4,1,0] [] aa aa (fun e0 b0 k VE B=>∃O G A,an ((5,.d O)::(6,.d (dJ A))::e0) VE∧an b0 B∧k=((M.length:Int) -A).toNat∧(au G O)∧((G.length:Int)≤dd A)∧(af ez G)∧(G=[]→O= .nil)∧(0≤A∧(A≤(M.length:Int)∨A=0))) ?_ (k:=((M.length:Int) -0).toNat) ⟨dD,fg,0,⟨aa,aa,aa,aa,aa,trivial⟩,trivial,aa,Y,ae,Z,pn,ae⟩);rintro _ VE B⟨O,G,A,hV,hB,rfl,U,cS,SR,aeR,vZ⟩;refine aU _ _ hV hB (rc 4 aa ?_);have k9:=dd_le (z:=A) ae ae;refine iD 1 aa (aQ aa cO ?_);refine ro 2 aa ?_;refine ay aa ?_ ?_<;>intro g2
 ·refine rc 5 aa ?_;have k1:=aky (z:=A) ae;refine rp 8 aa (dP 7 90 46 16 2 aa aa (bj [14,6,5,4,1,0] [] aa aa (fun e0 b0 k VE B=>∃I L,an ((7,.ac 90 L.length 2)::(8,.d (dJ I))::e0) VE∧an ((90,.acc 46 16 2 L)::b0) B∧k=((G.length:Int) -I).toNat∧(0≤I∧(I≤(G.length:Int)∨I=0))∧((L.length:Int)≤2*I)∧(af ez L)) ?_ fin));rintro _ VE B⟨I,L,hV,hB,rfl,fu,gL,TI⟩;refine aU _ _ hV hB (aA 5 aa (aQ aa U ?_));refine ro 2 aa ?_;refine ay aa ?_ ?_<;>intro g3
  ·refine rc 7 aa ?_;obtain⟨oS,ka,e5,kO,dj⟩:=qI I SR;refine aV (aH aa aa U ae dj aa ?_);refine cJ aa aa (iJ aa (aX aa) (aX aa) ?_);refine rq 2 aa ?_;obtain⟨Ek,AQ,BG,yd,e9⟩:=qI A cq;refine aV (aH aa aa cO ae e9 aa ?_);refine cJ aa aa (iJ aa (aX aa) (aX aa) ?_);refine aP aa (aB aa (SubC F ka kO AQ yd) ?_);rintro _ _⟨lg,qK,rfl,oy,xB,nA⟩;refine aP rfl (aY (rows:=L) (ys:=qK) rfl rfl rfl (.sD oy (cD nA rfl)) ao ae (fun h=>by rw[h];rfl) (fun h=>by rw[h];rfl) ?_);have k1:=aky (z:=A) ae;exact W
  refine rc 1 aa (cA 7 90 aa aa (fun _=>⟨aa,aa⟩) (aA 6 aa (bx aa aa ae ae ?_)));refine cL 2 aa ?_;exact⟨((M.length:Int) -((A+1))).toNat,ae,(.cF L),L,(A+1),⟨rfl,rfl,rfl,rfl,rfl,trivial⟩,trivial,rfl,(.acc _),ae,TI,(fun h=>by rw[h];rfl),ae⟩
 exact W
end Go.Ev.Rp
