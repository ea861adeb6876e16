/- Part 35 of rules for walks through the code of a program, and of such walks; what each part proves is said by its theorems. -/
import Derived.Test.YtmpoloiempjdpaaGreatR21
import Derived.Test.YtmpoloiempjdpaaGreatR24
import Derived.Test.YtmpoloiempjdpaaGreatR25
import Derived.Test.YtmpoloiempjdpaaGreatR33
import Derived.Test.YtmpoloiempjdpaaGreatR34
set_option linter.unusedVariables false
set_option linter.unusedSimpArgs false
noncomputable section
set_option maxRecDepth 100000
set_option maxHeartbeats 4000000
namespace Go.Ev.Rp
open Go Go.Ev.Pp
attribute [local irreducible] VC VO VQ VI Sound bY
theorem aaz{T:aM}(F:FT T){a0 a1 a2 a3 a4:DC}(cP:(Ty.s 1000).ok a0){L:ai}(G:au L a1)(dn:L.length≤100)(Z:af dV L)(cG:(Ty.l 200 bn).ok a2)(cr:(Ty.l 4 ep).ok a3)(ca:(Ty.l 4 dT).ok a4):Sound T 140 [.agg [.d a0,.d a1,.d a2,.d a3,.d a4]] fun r=>∃y0,r=dB y0∧(y0=true→1≤(L.length:Int)∧kG L.length L):=by
 refine bm F.q140 aa ?_;rcases cP,cG,cr,ca with⟨⟨gO,rfl,ki⟩,⟨bo,ct,df,bQ⟩,⟨du,O,fI,et⟩,⟨dK,U,eU,dg⟩⟩
 refine r0 5 aa (dM [2,1,0] [1] aa aa (fun e0 b0 VE B=>an e0 VE∧an b0 B∧(1≤(L.length:Int))) ?_ ?_)
 ·refine aA 4 aa (aB aa (SS F (bB al)) ?_);rintro _ _⟨dD,rfl,mR⟩;exact W
 rintro VE B⟨hV,hB,fj0_0⟩;refine aU _ _ hV hB (rc 10 aa (bj [2,1,0] [1] aa aa (fun e0 b0 k VE B=>∃wg A,an ((3,.d (dJ wg))::(4,.d (dJ A))::e0) VE∧an b0 B∧k=((L.length:Int) -A).toNat∧(0≤wg∧wg≤12)∧(0≤A∧(A≤(L.length:Int)∨A=0))∧(kG A L)) ?_ fin));rintro _ VE B⟨wg,A,hV,hB,rfl,bU,cS,ug⟩;refine aU _ _ hV hB (aA 6 aa (aQ aa G ?_));refine ro 2 aa ?_;refine ay aa ?_ ?_<;>intro g6
 ·refine rc 3 aa ?_;obtain⟨nT,oI,oT,tG,yL,⟨MP,M,hnx7_2,SX⟩,eK⟩:=qI A Z;refine dM [38,4,3,2,1,0] [1] aa aa (fun e0 b0 VE B=>an e0 VE∧an b0 B∧(1≤(MP.length:Int)∧(MP.length:Int)≤12)) ?_ ?_
  ·refine rc 5 aa (aV (aH aa aa G ae eK aa ?_));refine cJ aa aa (iJ aa (aX aa) (aX aa) ?_);refine aP aa (aB aa (vverC F oI tG M ae SX) ?_);rintro _ _⟨wh,rfl,AY⟩;refine rq 2 aa ?_;refine dL aa ?_ ?_<;>intro h9
   ·refine rq 3 aa (bK aa (dF aa (bK aa (bK aa (bK aa (dF aa (bK aa (dF aa (bK aa ?_)))))))));exact bK aa (dF aa (bK aa (dF aa (bK aa (rq 2 aa (W))))))
   have k9:=AY (by simpa using h9);refine rq 3 aa ?_;refine dL aa ?_ ?_<;>intro uw
   ·refine rq 3 aa (cl aa aa (dQ aa aa ae ae ?_));obtain⟨x11_0,ae5,UM,C2,x11_2,hx11_2,wi⟩:=qI (A-1) Z;refine cl aa aa (aH aa aa G ae wi aa ?_);refine rq 4 aa (cl aa aa (aH aa aa G ae eK aa ?_));refine rq 2 aa (fL aa aa aa (aB aa (folC F ae5 C2 hx11_2 oI tG (aL M ae SX) ak) ?_));rintro _ _⟨_,rfl,SW,rfl⟩;exact rq 3 aa (W)
   exact rq 16 aa (W)
  rintro VE B⟨hV,hB,UN⟩;refine aU _ _ hV hB (rc 5 aa (bj [38,4,2,1,0] [1] aa aa (fun e0 b0 k VE B=>∃I5 Y,an ((3,.d (dJ I5))::(5,.d (dJ Y))::e0) VE∧an b0 B∧k=((MP.length:Int) -Y).toNat∧(0≤I5∧I5≤12)∧(0≤Y∧(Y≤(MP.length:Int)∨Y=0))) ?_ fin));rintro _ VE B⟨I5,Y,hV,hB,rfl,fu,gL⟩;refine aU _ _ hV hB (aA 7 aa (aH aa aa G ae eK aa ?_));refine aN 2 aa (aQ aa M ?_);refine ro 2 aa ?_;refine ay aa ?_ ?_<;>intro Cb
  ·refine aA 8 aa (aH aa aa G ae eK aa ?_);refine ro 3 aa ?_;obtain⟨_,⟨zx15_0,rfl,hzx15_0,kzx15_0⟩,DP,GJ,x15_2,hx15_2,BF⟩:=qI Y SX;refine aw (aH aa aa M ae BF aa ?_);refine aN 2 aa (om aa aa (fun z16 hz16=>?_));refine aN 4 aa (bx aa aa ae ae ?_);exact cL 2 aa (⟨_,me fin ae⟩)
  refine aA 3 aa (bx aa aa ae ae ?_);refine cL 2 aa ?_;exact⟨((L.length:Int) -((A+1))).toNat,ae,I5,(A+1),⟨rfl,rfl,rfl,rfl,rfl,trivial⟩,⟨rfl,trivial⟩,rfl,ae,ae,(by first|assumption|exact lensTo_0|exact kG.step (by assumption) ae (by assumption) rfl (by assumption) (by assumption))⟩
 refine rc 1 aa (dM [38,4,3,2,1,0] [1] aa aa (fun e0 b0 VE B=>an e0 VE∧an b0 B∧(kG L.length L)) ?_ ?_)
 ·refine aA 4 aa (aB aa (HQ F ct ae bQ) ?_);rintro _ _⟨_,rfl,by17_0,rfl⟩;refine ro 2 aa ?_;refine br aa ?_ ?_<;>intro Yo
  ·exact W
  refine ro 3 aa (bM aa aa (aB aa (LQ F (bB al) (aL G ae Z) (aL ct ae bQ) (aL O ae et) (aL U ae dg) (aL ct ae bQ)) ?_));rintro _ _⟨_,rfl,by19_0,rfl⟩;refine ro 3 aa ?_;refine br aa ?_ ?_<;>intro h20
  ·exact W
  refine ro 2 aa (bM aa aa (aQ aa O ?_));refine ro 3 aa ?_;refine br aa ?_ ?_<;>intro h21
  ·exact W
  refine ro 2 aa (bM aa aa (aQ aa U ?_));refine ro 3 aa ?_;refine ay aa ?_ ?_<;>intro Yp
  ·exact W
  refine rcl 1 aa ?_;exact⟨⟨rfl,rfl,rfl,rfl,rfl,rfl,trivial⟩,⟨rfl,trivial⟩,(by first|assumption|exact kG.all (by assumption) ae)⟩
 rintro VE B⟨hV,hB,fj7_0⟩;refine aU _ _ hV hB (rc 6 aa (bj [38,4,3,2,1,0] [1] aa aa (fun e0 b0 k VE B=>∃OI,an ((6,.d (dJ OI))::e0) VE∧an b0 B∧d9 k 0 OI (du.length:Int)) ?_ fin));rintro _ VE B⟨OI,hV,hB,rfl,na⟩;refine aU _ _ hV hB (aA 6 aa (aQ aa O ?_));refine ro 2 aa ?_;refine ay aa ?_ ?_<;>intro Px
 ·refine rc 8 aa ?_;obtain⟨_,rfl,x24_1,hx24_1,_,rfl,I6⟩:=qI OI et;refine aw (aH aa aa O ae I6 aa ?_);refine ro 4 aa (dM [118,38,7,6,4,3,2,1,0] [7,1] aa aa (fun e0 b0 VE B=>an e0 VE∧an b0 B) ?_ ?_)
  ·refine rc 2 aa (iD 2 aa (aQ aa (.inl aa) ?_));refine ro 2 aa ?_;refine br aa ?_ ?_<;>intro Py
   ·exact W
   refine ro 2 aa (bM aa aa (aB aa (HQ F (.inl aa) ae tp) ?_));rintro _ _⟨_,rfl,by26_0,rfl⟩;refine ro 3 aa ?_;refine br aa ?_ ?_<;>intro h27
   ·exact W
   refine ro 3 aa (bM aa aa (aB aa (LQ F (bB al) (aL G ae Z) (aL ct ae bQ) (aL O ae et) (aL U ae dg) (aL (.inl aa) ae tp)) ?_));rintro _ _⟨_,rfl,by28_0,rfl⟩;refine ro 3 aa ?_;refine br aa ?_ ?_<;>intro h29
   ·exact W
   refine ro 2 aa (bM aa aa (aB aa (SS F hx24_1) ?_));rintro _ _⟨_,rfl,by30_0,rfl⟩;refine ro 3 aa ?_;refine br aa ?_ ?_<;>intro h31
   ·exact W
   refine ro 2 aa (bM aa aa (aQ aa (.inl aa) ?_));refine ro 2 aa (bM aa aa (aQ aa (.inl aa) ?_));refine ro 3 aa (bM aa bH (QK aa ?_));refine bM aa bH (oe aa aa aa ?_);refine bM aa bH (aB aa (HQ F (.inl aa) ae tp) ?_);rintro _ _⟨y32_0,rfl,hy32_0⟩;exact W
  rintro VE B⟨hV,hB⟩;refine aU _ _ hV hB (rc 5 aa (bj [118,38,7,6,4,3,2,1,0] [7,1] aa aa (fun e0 b0 k VE B=>∃OJ,an ((8,.d (dJ OJ))::e0) VE∧an b0 B∧d9 k 0 OJ (((([[DC.i .i64 1]]:ai)).length:Nat):Int)) ?_ fin));rintro _ VE B⟨OJ,hV,hB,rfl,Ep⟩;refine aU _ _ hV hB (rc 3 aa (iD 3 aa (aQ aa (.inl aa) ?_)));refine ro 2 aa ?_;refine ay aa ?_ ?_<;>intro J3
  ·refine rc 8 aa ?_;obtain⟨_,⟨zx35_0,rfl,hzx35_0,kzx35_0⟩,Er⟩:=qI OJ Dw;refine aw (aH aa aa (.inl aa) ae Er aa ?_);refine ro 3 aa ?_;refine br aa ?_ ?_<;>intro h36
   ·exact W
   refine ro 3 aa (bM aa aa (aH aa aa (.inl aa) ae Er aa ?_));refine ro 4 aa ?_;refine cE aa ?_ ?_<;>intro h37
   ·exact W
   exact W
  exact W
 refine rc 7 aa (bj [118,38,6,4,3,2,1,0] [1] aa aa (fun e0 b0 k VE B=>∃OK,an ((9,.d (dJ OK))::e0) VE∧an b0 B∧d9 k 0 OK (dK.length:Int)) ?_ fin);rintro _ VE B⟨OK,hV,hB,rfl,I7⟩;refine aU _ _ hV hB (aA 6 aa (aQ aa U ?_));refine ro 2 aa ?_;refine ay aa ?_ ?_<;>intro g38
 ·refine rc 8 aa ?_;obtain⟨_,⟨zx39_0,rfl,hzx39_0,kzx39_0⟩,x39_1,⟨wx39_1,z,hnx39_1,I⟩,WQ⟩:=qI OK dg;refine aw (aH aa aa U ae WQ aa ?_);refine ro 6 aa (rp 4 aa ?_);refine br aa ?_ ?_<;>intro Yq
  ·refine ro 5 aa ?_;refine br aa ?_ ?_<;>intro h41
   ·exact W
   refine ro 2 aa (bM aa aa (aQ aa z ?_));refine ro 3 aa ?_;refine br aa ?_ ?_<;>intro h42
   ·exact W
   refine ro 2 aa (bM aa aa (aB aa (HQ F z ae I) ?_));rintro _ _⟨_,rfl,by43_0,rfl⟩;refine ro 3 aa ?_;refine br aa ?_ ?_<;>intro h44
   ·exact W
   refine ro 3 aa (bM aa aa (aB aa (LQ F (bB al) (aL G ae Z) (aL ct ae bQ) (aL O ae et) (aL U ae dg) (aL z ae I)) ?_));rintro _ _⟨y45_0,rfl,hy45_0⟩;exact W
  refine ro 7 aa (bM aa aa (aQ aa z ?_));refine ro 3 aa ?_;refine br aa ?_ ?_<;>intro Pz
  ·exact W
  refine ro 2 aa (bM aa aa (aB aa (HQ F z ae I) ?_));rintro _ _⟨_,rfl,by48_0,rfl⟩;refine ro 3 aa ?_;refine br aa ?_ ?_<;>intro h49
  ·exact W
  refine ro 3 aa (bM aa aa (aB aa (LQ F (bB al) (aL G ae Z) (aL ct ae bQ) (aL O ae et) (aL U ae dg) (aL z ae I)) ?_));rintro _ _⟨y50_0,rfl,hy50_0⟩;exact W
 exact W
theorem CreateSC{T:aM}(F:FT T){a0 a1 a2 a3 a4 a5:DC}(cP:(Ty.s 1000).ok a0){bJ:ai}(z:au bJ a1)(dn:bJ.length≤100)(M:af dV bJ)(cG:(Ty.l 200 bn).ok a2)(cr:(Ty.l 4 ep).ok a3)(ca:(Ty.l 4 dT).ok a4)(cj:tJ.ok a5):Sound T 91 [.agg [.d a0,.d a1,.d a2,.d a3,.d a4],.d a5] fun r=>∃y0 y1 G y3 y4 y5 y6,r= .tuple [.agg [.d y0,.d y1,.d y3,.d y4,.d y5],.d (dJ y6)]∧(Ty.s 1000).ok y0∧au G y1∧(G.length:Int)≤1∧af dV G∧(Ty.l 200 bn).ok y3∧(Ty.l 4 ep).ok y4∧(Ty.l 4 dT).ok y5∧(0≤y6∧y6≤100∧(y6=0→1≤(G.length:Int)∧kG G.length G)):=by
 refine bm F.q91 aa ?_;rcases cP,cG,cr,ca,cj with⟨⟨gO,rfl,ki⟩,⟨bo,O,df,U⟩,⟨du,Y,fI,Z⟩,⟨dK,dx,eU,dg⟩,⟨cg,rfl,mY,mZ⟩⟩
 refine r0 12 aa ?_;refine br aa ?_ ?_<;>intro h1
 ·exact W
 refine ro 4 aa ?_;refine ay aa ?_ ?_<;>intro h2
 ·exact W
 refine aA 5 aa (aB aa (aaz F (bB al) z ae M (aL O ae U) (aL Y ae Z) (aL dx ae dg)) ?_);rintro _ _⟨lh,rfl,x9⟩;refine ro 2 aa ?_;refine br aa ?_ ?_<;>intro h4
 ·exact W
 have k4:=x9 (by simpa using h4);refine ro 2 aa (bM aa aa (aQ aa z ?_));refine ro 3 aa ?_;refine br aa ?_ ?_<;>intro h5
 ·exact W
 refine ro 2 aa ?_;obtain⟨_,⟨DI,rfl,LM,LN⟩,BE,yb,I,⟨wx6_2,A,hnx6_2,L⟩,fE⟩:=qI 0 M;refine bM aa aa (aH aa aa z ae fE aa ?_);refine ro 3 aa (rp 3 aa ?_);refine ay aa ?_ ?_<;>intro h7
 ·exact W
 refine aA 7 aa (aH aa aa z ae fE aa ?_);refine ro 2 aa ?_;have kd:=A;have kb:=kG.get (And.right dC) (qA _) fE rfl kd;refine rp 3 aa ?_;have wK:af dV [[(dJ cg),(dJ 1099511627776),I]]:=(cH (ah ak (ah ak (ah (aL A ae L) bl))) cb);refine eZ 40 40 aa aa (fun _=>⟨aa,aa⟩) (eJ 9 aa ?_);exact bL rfl rfl ⟨(aq gO),(.sl [[(dJ cg),(dJ 1099511627776),I]]),[[(dJ cg),(dJ 1099511627776),I]],a2,a3,a4,0,rfl,(bB al),(.inl rfl),vQ,wK,(aL O ae U),(aL Y ae Z),(aL dx ae dg),⟨ae,ae,(by first|(intro hb;exact absurd hb ao)|(intro hb;exact⟨(by simp),lens1 kd kb⟩))⟩⟩
end Go.Ev.Rp
namespace Go.Ev.Rp
open Go Go.Ev.Pp
attribute [local irreducible] VC VO VQ VI Sound bY
theorem LS{T:aM}(F:FT T){a0 a1 a2 a3 a4:DC}(cP:(Ty.s 1000).ok a0){G:ai}(U:au G a1)(dn:G.length≤100)(Z:af dV G)(cG:(Ty.l 200 bn).ok a2)(cr:(Ty.l 4 ep).ok a3)(ca:(Ty.l 4 dT).ok a4):Sound T 96 [.agg [.d a0,.d a1,.d a2,.d a3,.d a4]] fun r=>∃y0,r= .d (dJ y0)∧(0≤y0∧y0≤12∧(gD G.length y0 G∧ql y0 G)):=by
 refine bm F.q96 aa ?_;rcases cP,cG,cr,ca with⟨⟨gO,rfl,ki⟩,⟨bo,ct,df,bQ⟩,⟨du,eS,fI,et⟩,⟨dK,dx,eU,dg⟩⟩
 refine r0 15 aa (bj [2,1,0] [1] aa aa (fun e0 b0 k VE B=>∃L z,an ((3,.d (dJ L))::(4,.d (dJ z))::e0) VE∧an b0 B∧k=((G.length:Int) -z).toNat∧(0≤L∧L≤12)∧(0≤z∧(z≤(G.length:Int)∨z=0))∧(gD z L G)∧(ql L G)) ?_ fin);rintro _ VE B⟨L,z,hV,hB,rfl,bU,cS,ug,mh⟩;refine aU _ _ hV hB (aA 6 aa (aQ aa U ?_));refine ro 2 aa ?_;refine ay aa ?_ ?_<;>intro g1
 ·refine rc 8 aa ?_;obtain⟨gW,jt,fH,iQ,gf,⟨M,O,Ao,Y⟩,bS⟩:=qI z Z;refine bj [10,4,2,1,0] [1] aa aa (fun e0 b0 k VE B=>∃I A,an ((3,.d (dJ I))::(5,.d (dJ A))::e0) VE∧an b0 B∧k=((M.length:Int) -A).toNat∧(0≤I∧I≤12)∧(0≤A∧(A≤(M.length:Int)∨A=0))∧(gD z I G)∧(ql I G)∧(jZ A I M)) ?_ fin;rintro _ VE B⟨I,A,hV,hB,rfl,fu,gL,OL,V5,OE⟩;refine aU _ _ hV hB (aA 7 aa (aH aa aa U ae bS aa ?_));refine aN 2 aa (aQ aa O ?_);refine ro 2 aa ?_;refine ay aa ?_ ?_<;>intro g3
  ·refine aA 8 aa (aH aa aa U ae bS aa ?_);refine ro 3 aa ?_;obtain⟨_,⟨DE,rfl,tt,tu⟩,e5,kO,pQ,oH,dj⟩:=qI A Y;refine aw (aH aa aa O ae dj aa ?_);refine aN 2 aa (om aa aa (fun z5 X4=>?_));refine aN 4 aa (bx aa aa ae ae ?_);refine cL 2 aa ?_;exact⟨((M.length:Int) -((A+1))).toNat,ae,z5,(A+1),⟨rfl,rfl,rfl,rfl,rfl,rfl,rfl,trivial⟩,⟨rfl,trivial⟩,rfl,ae,ae,Uq,(by first|assumption|exact aap|exact ql.max (by assumption) (by assumption) rfl (by assumption) (by assumption) rfl ae),Uq⟩
  refine aA 3 aa (bx aa aa ae ae ?_);refine cL 2 aa ?_;exact⟨((G.length:Int) -((z+1))).toNat,ae,I,(z+1),⟨rfl,rfl,rfl,rfl,rfl,trivial⟩,⟨rfl,trivial⟩,rfl,ae,ae,Uq,(by first|assumption|exact aap|exact ql.max (by assumption) (by assumption) rfl (by assumption) (by assumption) rfl ae)⟩
 refine eA 7 aa ?_;exact bL rfl rfl ⟨L,rfl,⟨ae,ae,⟨gD.all dC ae,by assumption⟩⟩⟩
theorem aj3{T:aM}(F:FT T){a0 a1 a2 a3 a4 a5:DC}(cP:(Ty.s 1000).ok a0){G:ai}(I:au G a1)(dn:G.length≤100)(Z:af dV G)(cG:(Ty.l 200 bn).ok a2)(cr:(Ty.l 4 ep).ok a3)(ca:(Ty.l 4 dT).ok a4)(cj:tJ.ok a5):Sound T 101 [.agg [.d a0,.d a1,.d a2,.d a3,.d a4],.d a5] fun r=>∃y0 y1 y2 A y4,r= .tuple [.agg [.d y0,.d y1,.d y2],.d y4]∧tJ.ok y0∧tJ.ok y1∧au A y2∧(A.length:Int)≤13∧af lE A∧0≤(A.length:Int)∧(A=[]∨∃(q:Nat)(r:List DC)(d:DC),G[q]?=some r∧r[2]?=some d∧au A d)∧(Ty.b).ok y4:=by
 refine bm F.ajw aa ?_;rcases cP,cG,cr,ca,cj with⟨⟨gO,rfl,ki⟩,⟨bo,ct,df,bQ⟩,⟨du,eS,fI,et⟩,⟨dK,dx,eU,dg⟩,⟨cg,rfl,mY,mZ⟩⟩
 refine r0 12 aa (bj [5,4,2,1,0] [4,2] aa aa (fun e0 b0 k VE B=>∃z,an ((6,.d (dJ z))::e0) VE∧an b0 B∧d9 k 0 z (G.length:Int)) ?_ fin);rintro _ VE B⟨z,hV,hB,rfl,bU⟩;refine aU _ _ hV hB (aA 6 aa (aQ aa I ?_));refine ro 2 aa ?_;refine ay aa ?_ ?_<;>intro g1
 ·refine rc 8 aa ?_;obtain⟨_,⟨O,rfl,tv,ve⟩,_,⟨U,rfl,u9,qv⟩,gf,⟨Y,L,Ao,M⟩,bS⟩:=qI z Z;refine aw (aH aa aa I ae bS aa ?_);refine ro 7 aa (rp 5 aa ?_);refine br aa ?_ ?_<;>intro g3
  ·refine ro 3 aa (rp 3 aa ?_);refine ay aa ?_ ?_<;>intro g4
   ·refine aA 5 aa (aH aa aa I ae bS aa ?_);refine ro 5 aa ?_;exact bL rfl rfl ⟨(dJ O),(dJ U),gf,Y,(.b true),rfl,ak,ak,L,ae,M,ae,(by first|exact .inl rfl|exact .inr ⟨_,_,_,(by assumption),rfl,(by assumption)⟩),eI⟩
   exact W
  exact W
 exact W
theorem C3{T:aM}(F:FT T){a0 a1 a2 a3 a4 a5:DC}(cP:(Ty.s 1000).ok a0){O:ai}(cO:au O a1)(dn:O.length≤100)(cq:af dV O)(cG:(Ty.l 200 bn).ok a2)(cr:(Ty.l 4 ep).ok a3)(ca:(Ty.l 4 dT).ok a4)(cj:tJ.ok a5):Sound T 92 [.agg [.d a0,.d a1,.d a2,.d a3,.d a4],.d a5] fun r=>∃y0 U,r= .d y0∧au U y0∧(U.length:Int)≤12∧af bn U∧0≤(U.length:Int)∧(gD O.length U.length O):=by
 refine bm F.q92 aa ?_;rcases cP,cG,cr,ca,cj with⟨⟨gO,rfl,ki⟩,⟨bo,ct,df,bQ⟩,⟨du,eS,fI,et⟩,⟨dK,dx,eU,dg⟩,⟨cg,rfl,mY,mZ⟩⟩
 refine ch 8 aa (aB aa (LS F (bB al) cO ae cq (aL ct ae bQ) (aL eS ae et) (aL dx ae dg)) ?_);rintro _ _⟨dD,rfl,ly1_0,uy1_0,mR⟩;obtain⟨n2,PA⟩:∃n:Nat,dD=n:=⟨(dD).toNat,(AI ae).symm⟩;refine aw (FB (n:=n2) 11 rfl rfl rfl rfl rfl (by rw[←PA];rfl) (by rw[←PA];rfl) ae ae (fun w2 Yr ES=>?_));have uk:af bn w2:=by subst Yr;exact FA (ah ak bl)
 refine aN 6 aa (aB aa (aj3 F (bB al) cO ae cq (aL ct ae bQ) (aL eS ae et) (aL dx ae dg) ak) ?_);rintro _ _⟨lh,En,Ov,Y,y3_4,rfl,x9,MQ,M,hny3_2,Z,hmy3_2,hfy3_2,hy3_4⟩;refine ro 13 aa (bj [6,4,2,1,0] [6,2] aa aa (fun e0 b0 k VE B=>∃G I A,an ((5,.bs 11 I 1)::(8,.d (dJ G))::e0) VE∧an ((11,.arr 3 8 1 I A)::b0) B∧k=((Y.length:Int) -G).toNat∧(0≤G∧(G≤(Y.length:Int)∨G=0))∧(A.length=I)∧(I=w2.length)∧(af bn A)) ?_ fin);rintro _ VE B⟨G,I,A,hV,hB,rfl,bU,rfl,ug,L⟩;refine aU _ _ hV hB (aA 6 aa (aQ aa M ?_));refine ro 2 aa ?_;refine ay aa ?_ ?_<;>intro g4
 ·refine rc 8 aa ?_;obtain⟨_,⟨xZ,rfl,Am,An⟩,BG,yd,I8,MR,e9⟩:=qI G Z;refine aV (aH aa aa M ae e9 aa ?_);refine rq 1 aa (cJ aa aa (dy aa aa ?_));refine aV (dQ aa aa ae ae ?_);refine dh 3 aa (aH aa aa M ae e9 aa ?_);refine rq 1 aa (cJ aa aa (dy aa aa ?_));have kb:=jZ.get (gD.at mR.1 hfy3_2) (qA _) e9 rfl;obtain⟨j6,sX,qc⟩:=bD (z:=(xZ-1)) (n:=A.length) ae ae;obtain⟨I9,AZ,fE⟩:=qN qc L;refine aV (eL rfl (by rw[←sX];rfl) qc ?_);refine iK aa (rF aa aa aa aa aa aa ao ao fE (fun w7 Ka E9=>?_));have JY:af bn w7:=by rw[Ka];exact fk L (ah MR bl)
  rw[←E9];exact W
 exact rc 6 aa (lz 4 11 aa aa (fun _=>⟨aa,aa⟩) (eA 1 aa (bL aa aa ⟨(.sl A),A,aa,(.inl aa),ae,L,ae,(gD.cast (And.left dC) ae)⟩)))
end Go.Ev.Rp
namespace Go.Ev.Rp
open Go Go.Ev.Pp
attribute [local irreducible] VC VO VQ VI Sound bY
theorem Ys{T:aM}(F:FT T){p:Prop}(h:p:=by repeat' (first|refine wp 6 rfl ?_|refine wp 2 rfl ?_|refine wp 1 rfl ?_|(refine Pg ?_;first|exact bL rfl rfl fin|exact sn|exact fin)|(refine Ph ?_;first|exact⟨_,me fin ae⟩|exact fin)|refine wo 1 rfl ?_|refine wc 1 rfl ?_|refine wq 1 rfl ?_|refine qs ?_|refine qE 8 rfl rfl ?_|refine qE 3 rfl rfl ?_|refine qE 1 rfl rfl ?_|refine ew ?_|refine Af ?_|refine qF 8 rfl rfl ?_|refine qF 3 rfl rfl ?_|refine qF 1 rfl rfl ?_|refine Dt ?_|refine te ?_|(refine mM ?_;exact bL rfl rfl fin)|(refine mM ?_;exact sn)|refine eu rfl (by first|with_reducible rfl|assumption) ?_|refine dq rfl (by first|with_reducible rfl|assumption) ?_|(refine ay rfl (fun h=>?_) (fun h=>?_)<;>(try(have h:(_:Bool)=_:=h;subst h)))|refine lv ?_|refine oj ?_|refine kz ?_|refine i7 ?_|refine ff ?_|refine fS rfl ?_|refine bM rfl (by first|with_reducible rfl|assumption) (iI (d:=0) rfl ?_)|refine bM (W:=[]) rfl (by first|with_reducible rfl|assumption) ?_|refine oh rfl (by first|with_reducible exact Bool.not_true.symm|with_reducible exact Bool.not_false.symm|assumption) ?_|(refine br rfl (fun h=>?_) (fun h=>?_)<;>(try(have h:(_:Bool)=_:=h;subst h)))|refine aw (W:=[]) ?_|refine Cp rfl dC rfl ?_|refine zH rfl dC rfl ?_|refine iI (d:=0) rfl ?_|refine bx rfl rfl ae ae ?_|refine dQ rfl rfl ae ae ?_|refine aQ rfl Eh ?_|(refine K4 rfl rfl Eh dC rfl ae ae ?_;repeat intro _)|(refine bG (j:=0) rfl rfl (aX rfl) ?_)|refine c6 rfl rfl rfl ae ae ?_|refine pb rfl rfl ?_|refine pb (b:=[]) rfl rfl ?_|refine kE rfl rfl ?_|refine kE (b:=[]) rfl rfl ?_|refine rM rfl rfl rfl rfl ae ae ae ao ?_|refine fm rfl ao ae ae ?_|refine zV rfl rfl ao (fun _=>?_)|refine qh rfl rfl (fun _ _=>?_)|refine om rfl rfl (fun _ _=>?_)|refine tf rfl rfl (fun _ _=>?_)|refine qg rfl rfl ?_|refine s8 rfl rfl ?_|(refine aB rfl (by apply fitsC F<;>first|assumption|exact ae|exact fin) ?_;rintro _ _⟨_,rfl,_⟩)|(refine aB rfl (by apply aeQ F<;>first|assumption|exact ae|exact fin) ?_;rintro _ _⟨_,rfl,_⟩)|(refine aB rfl (by apply aeP F<;>first|assumption|exact ae|exact fin) ?_;rintro _ _⟨_,rfl,_⟩)|(exfalso;first|omega|((try simp only[eW,gM,gx,mq] at*);first|omega|(simp_all;done)))|exact⟨_,me fin ae⟩|exact fin|refine aV (W:=[]) ?_|(rename (Ty.ok Ty.b _)=>z;obtain⟨_,e⟩:=Ty.eI z;subst e;clear z)|(rename (Ty.ok (Ty.i _ _ _) _)=>z;obtain⟨_,e,_,_⟩:=Ty.dY z;first|(subst e;clear z)|clear z)|(rename (Ty.ok (Ty.s _) _)=>z;obtain⟨_,e,_⟩:=Ty.bB z;first|(subst e;clear z)|clear z)|(rename (Ty.ok (Ty.l _ _) _)=>z;obtain⟨_,_,_,_⟩:=Ty.aL z;clear z))):p:=h
theorem checkC{T:aM}(F:FT T){a0 a2:DC}{bW:ai}(cM:au bW a0)(cT:bW.length≤200)(bN:af ey bW){aS:Int}(mA:0≤aS)(mB:aS≤(bW.length:Int) -1){bo:ai}(ct:au bo a2)(df:bo.length≤1000000000)(bQ:af bn bo){A:ai}(U:af ez A)(hma3:aS+1≤(A.length:Int)):bY T 242 [.d a0,.d (dJ aS),.d a2,.bs 1004 A.length 2] [(1004,.arr 382 16 2 A.length A)] fun r B=>∃y0 y1,r= .agg [.d y0,.d y1]∧B=[(1004,.arr 382 16 2 A.length A)]∧tJ.ok y0∧tJ.ok y1:=by
 refine ij F.q242 aa (r0 8 aa ?_);obtain⟨_,⟨G,rfl,LU,LV⟩,_,⟨M,rfl,SY,SZ⟩,_,⟨O,rfl,S0,S1⟩,_,⟨Y,rfl,hzx1_3,kzx1_3⟩,WR,ahx,I',HU,WS,hx1_6,qd⟩:=qI aS bN;refine aw (aH aa aa cM ae qd aa ?_);refine aN 8 aa (aB aa (ML (aJ:=G) F ae ae) ?_);rintro _ _⟨nR,rfl,DF⟩;refine ro 2 aa (dM [10,9,8,3,2,1,0] [1004,9,8] aa aa (fun e0 b0 VE B=>an e0 VE∧an b0 B) ?_ ?_)
 ·exact Ys F
 rintro VE B⟨hV,hB⟩;refine aU _ _ hV hB (dM [10,9,8,3,2,1,0] [1004,9,8] aa aa (fun e0 b0 VE B=>an e0 VE∧an b0 B∧(((G=10∨G=11∨(3≤G∧G≤9))→0≤M∧M<aS)∧((3≤G∧G≤9)→0≤O∧O<aS)∧(G=2→0≤Y∧Y<bo.length))) ?_ ?_)
 ·exact Ys F
 rintro VE B⟨hV,hB,ahy⟩;refine aU _ _ hV hB (rc 5 aa (dM [12,10,9,8,3,2,1,0] [1004,9,8] aa aa (fun e0 b0 VE B=>∃I,an ((11,.d (dJ I))::e0) VE∧an b0 B∧(-9223372036854775808≤I∧I≤9223372036854775807)) ?_ ?_))
 ·refine rc 5 aa ?_;refine ay aa ?_ ?_<;>intro zj
  ·refine rc 6 aa ?_;obtain⟨Fa,BH,Z⟩:=bD (z:=M) (n:=A.length) ae ae;obtain⟨qJ,ow,_,⟨zx13_1,rfl,hzx13_1,kzx13_1⟩,mj⟩:=qN Z U;refine aw (eL rfl (by rw[←BH];rfl) Z ?_);refine aN 1 aa (jG (rows:=A) aa aa (bf _) (bf _) Z mj aa ?_);refine ro 2 aa ?_;refine ay aa ?_ ?_<;>intro Cb
   ·refine rc 5 aa ?_;obtain⟨Yt,Ja,BI⟩:=bD (z:=M) (n:=A.length) ae ae;obtain⟨HV,LW,DP,GJ,BF⟩:=qN BI U;refine aw (eL rfl (by rw[←Ja];rfl) BI ?_);refine aN 1 aa (jG (rows:=A) aa aa (bf _) (bf _) BI BF aa ?_);exact eJ 4 aa (sn)
   refine rc 5 aa ?_;obtain⟨mE,sA,uf⟩:=bD (z:=M) (n:=A.length) ae ae;obtain⟨_,⟨zx16_0,rfl,hzx16_0,kzx16_0⟩,AW,S2,BD⟩:=qN uf U;refine aw (eL rfl (by rw[←sA];rfl) uf ?_);refine aN 1 aa (jG (rows:=A) aa aa (bf _) (bf _) uf BD aa ?_);exact ro 2 aa (fin)
  exact W
 rintro VE B⟨I,hV,hB,fj2_0⟩;refine aU _ _ hV hB (dM [11,10,9,8,3,2,1,0] [1004,9,8] aa aa (fun e0 b0 VE B=>∃L,an ((12,.d (dJ L))::e0) VE∧an b0 B∧(-9223372036854775808≤L∧L≤9223372036854775807)) ?_ ?_)
 ·refine rc 5 aa ?_;refine ay aa ?_ ?_<;>intro ux
  ·refine rc 6 aa ?_;obtain⟨qe,sB,sC⟩:=bD (z:=O) (n:=A.length) ae ae;obtain⟨ahz,S3,_,⟨zx18_1,rfl,hzx18_1,kzx18_1⟩,nV⟩:=qN sC U;refine aw (eL rfl (by rw[←sB];rfl) sC ?_);refine aN 1 aa (jG (rows:=A) aa aa (bf _) (bf _) sC nV aa ?_);refine ro 2 aa ?_;refine ay aa ?_ ?_<;>intro Yu
   ·refine rc 5 aa ?_;obtain⟨Cg,wt,qZ⟩:=bD (z:=O) (n:=A.length) ae ae;obtain⟨MS,GK,ahA,ae6,nd⟩:=qN qZ U;refine aw (eL rfl (by rw[←wt];rfl) qZ ?_);refine aN 1 aa (jG (rows:=A) aa aa (bf _) (bf _) qZ nd aa ?_);exact eJ 4 aa (sn)
   refine rc 5 aa ?_;obtain⟨nk,pT,mi⟩:=bD (z:=O) (n:=A.length) ae ae;obtain⟨_,⟨zx21_0,rfl,hzx21_0,kzx21_0⟩,tI,Ap,ml⟩:=qN mi U;refine aw (eL rfl (by rw[←pT];rfl) mi ?_);refine aN 1 aa (jG (rows:=A) aa aa (bf _) (bf _) mi ml aa ?_);exact ro 2 aa (fin)
  exact W
 rintro VE B⟨L,hV,hB,UN⟩;refine aU _ _ hV hB (rc 12 aa ?_);refine cE aa ?_ ?_<;>intro Yp
 ·exact W
 exact Ys F
theorem C4{T:aM}(F:FT T){a0 a1 a2:DC}{Y:ai}(M:au Y a0)(cT:Y.length≤1000000000)(bN:af ey Y)(bV:tJ.ok a1){Z:ai}(ct:au Z a2)(df:Z.length≤1000000000)(bQ:af bn Z):Sound T 201 [.d a0,.d a1,.d a2] fun r=>∃y0 y1,r= .tuple [.d y0,.d y1]∧tJ.ok y0∧tJ.ok y1:=by
 refine bm F.q201 aa ?_;obtain⟨aS,rfl,eB,ee⟩:=bV;refine ch 9 aa (aQ aa M ?_);refine ro 2 aa ?_;refine ay aa ?_ ?_<;>intro h1
 ·exact W
 refine rc 7 aa ?_;refine br aa ?_ ?_<;>intro h2
 ·exact W
 refine ro 2 aa (bM aa aa (aQ aa M ?_));refine ro 3 aa ?_;refine ay aa ?_ ?_<;>intro h3
 ·exact W
 refine aA 4 aa (bx aa aa ae ae ?_);obtain⟨n4,iH⟩:∃n:Nat,(aS+1)=n:=⟨((aS+1)).toNat,(AI ae).symm⟩;refine aw (FB (n:=n4) 23 rfl rfl rfl rfl rfl (by rw[←iH];rfl) (by rw[←iH];rfl) ae ae (fun w4 Yv hl4=>?_));have hb4:af ez w4:=by subst Yv;exact FA (ah ak (ah ak bl))
 refine ro 8 aa (bj [20,12,7,6,2,1,0] [] aa aa (fun e0 b0 k VE B=>∃I L A,an ((8,.bs 23 L 2)::(9,.d (dJ I))::e0) VE∧an ((23,.arr 382 16 2 L A)::b0) B∧k=(((aS+1):Int) -I).toNat∧(0≤I∧(I≤(aS+1)∨I=0))∧(A.length=L)∧(L=w4.length)∧(af ez A)) ?_ fin);rintro _ VE B⟨I,L,A,hV,hB,rfl,bU,rfl,ug,G⟩;refine aU _ _ hV hB (rc 7 aa ?_);refine ay aa ?_ ?_<;>intro g5
 ·refine aA 10 aa (kD (di:=[.d a0,.d (dJ I),.d a2,.bs 1004 (A.length) 2]) (Bi:=[(1004,.arr 382 16 2 (A.length) A)]) [(1004,23)] 2000 aa aa aa aa aa aa aa ⟨aa,aa,trivial⟩ (checkC (aS:=I) F M ae bN ae ae ct ae bQ G ae) ?_);rintro _ _⟨lg,vU,rfl,rfl,qG,rX⟩;obtain⟨j7,iZ,fx⟩:=bD (z:=I) (n:=A.length) ae ae;obtain⟨nT,oI,oT,tG,eK⟩:=qN fx G;refine aw (eL rfl (by rw[←iZ];rfl) fx ?_);refine jd (rF aa aa aa aa aa aa ao ao eK (fun w8 n9 sP=>?_));have wK:af ez w8:=by rw[n9];exact fk G (ah qG (ah rX bl))
  rw[←sP];exact W
 refine rc 6 aa ?_;obtain⟨j9,wN,uA⟩:=bD (z:=aS) (n:=A.length) ae ae;obtain⟨pP,lX,_,⟨ahB,rfl,aes,aet⟩,fw⟩:=qN uA G;refine aw (eL rfl (by rw[←wN];rfl) uA ?_);refine aN 1 aa (jG (rows:=A) aa aa (bf _) (bf _) uA fw aa ?_);refine ro 2 aa ?_;refine ay aa ?_ ?_<;>intro uw
 ·refine rc 4 aa ?_;obtain⟨nj,sq,O⟩:=bD (z:=aS) (n:=A.length) ae ae;obtain⟨x11_0,ae5,UM,C2,wi⟩:=qN O G;refine aV (eL rfl (by rw[←sq];rfl) O ?_);refine rq 1 aa (aP aa (jG (rows:=A) aa aa (bf _) (bf _) O wi aa ?_));exact W
 refine rc 5 aa ?_;obtain⟨Yw,BJ,U⟩:=bD (z:=aS) (n:=A.length) ae ae;obtain⟨pC,lU,rZ,vf,gr⟩:=qN U G;refine aw (eL rfl (by rw[←BJ];rfl) U ?_);refine aN 1 aa (jG (rows:=A) aa aa (bf _) (bf _) U gr aa ?_);exact eJ 4 aa (bL aa aa fin)
end Go.Ev.Rp
namespace Go.Ev.Rp
open Go Go.Ev.Pp
attribute [local irreducible] VC VO VQ VI Sound bY
theorem ColumnsC{T:aM}(F:FT T){a0 a1:DC}{bW:ai}(I:au bW a0)(cT:bW.length≤1000000000)(bN:af ey bW)(bV:tJ.ok a1):Sound T 202 [.d a0,.d a1] fun r=>∃y0 bw,r= .d y0∧au bw y0∧(bw.length:Int)≤1000000000∧af bn bw∧0≤(bw.length:Int)∧(bw=[]→y0= .nil):=by
 refine bm F.q202 aa ?_;obtain⟨aS,rfl,eB,ee⟩:=bV;refine r0 10 aa ?_;refine br aa ?_ ?_<;>intro h1
 ·exact W
 refine ro 2 aa (bM aa aa (aQ aa I ?_));refine ro 3 aa ?_;refine ay aa ?_ ?_<;>intro h2
 ·exact W
 refine aA 4 aa (bx aa aa ae ae ?_);obtain⟨n3,gP⟩:∃n:Nat,(aS+1)=n:=⟨((aS+1)).toNat,(AI ae).symm⟩;refine aw (FB (n:=n3) 19 rfl rfl rfl rfl rfl (by rw[←gP];rfl) (by rw[←gP];rfl) ae ae (fun w3 Yx Pv=>?_));have uv:af [.b] w3:=by subst Yx;exact FA (ah eI bl)
 refine ro 6 aa ?_;obtain⟨j4,p0,ni⟩:=bD (z:=aS) (n:=w3.length) ae ae;obtain⟨oS,ka,dj⟩:=qN ni uv;refine aw (eL rfl (by rw[←p0];rfl) ni ?_);refine jd (rF aa aa aa aa aa aa ao ao dj (fun w5 hw5 Fb=>?_));have JX:af [.b] w5:=by rw[hw5];exact fk uv (ah eI bl)
 rw[←Fb];refine ro 12 aa (bj [16,4,1,0] [] aa aa (fun e0 b0 k VE B=>∃O mo Y Z A,an ((5,.bs 19 Z 1)::(6,.d mo)::(7,.d (dJ O))::e0) VE∧an ((19,.arr 4 1 1 Z A)::b0) B∧k=(O+1).toNat∧(-1≤O∧O≤aS)∧(au Y mo)∧((Y.length:Int)≤aS-O)∧(af bn Y)∧(Y=[]→mo= .nil)∧(A.length=Z)∧(Z=w5.length)∧(af [.b] A)) ?_ fin);rintro _ VE B⟨O,mo,Y,Z,A,hV,hB,rfl,bU,hdv6_0,ug,hrv6_0,hev6_0,rfl,f0_6,RA⟩;refine aU _ _ hV hB (rc 6 aa ?_);refine ay aa ?_ ?_<;>intro g6
 ·refine rc 8 aa ?_;obtain⟨j7,iZ,fx⟩:=bD (z:=O) (n:=A.length) ae ae;obtain⟨_,⟨bx7_0,rfl⟩,eK⟩:=qN fx RA;refine aw (eL rfl (by rw[←iZ];rfl) fx ?_);refine aw (jG (rows:=A) aa aa (bf _) (bf _) fx eK aa ?_);refine ro 2 aa ?_;refine cE aa ?_ ?_<;>intro h8
  ·exact W
  refine rc 5 aa ?_;obtain⟨_,⟨DQ,rfl,LX,ae7⟩,_,⟨ahB,rfl,aes,aet⟩,_,⟨Dx,rfl,aeu,aev⟩,_,⟨MT,rfl,hzx9_3,kzx9_3⟩,Et,tK,Eu,tL,OM,DR,fw⟩:=qI O bN;refine aw (aH aa aa I ae fw aa ?_);refine aN 2 aa (aB aa (ML (aJ:=DQ) F ae ae) ?_);rintro _ _⟨nD,rfl,Aj⟩;refine ro 2 aa (dM [32,25,16,8,7,6,4,1,0] [] aa aa (fun e0 b0 VE B=>∃L G,an ((5,.bs 19 L 1)::e0) VE∧an ((19,.arr 4 1 1 L G)::b0) B∧(G.length=L)∧(L=A.length)∧(af [.b] G)) ?_ ?_)
  ·refine rc 5 aa ?_;refine br aa ?_ ?_<;>intro lN
   ·refine ro 2 aa (bM aa aa (aH aa aa I ae fw aa ?_));refine ro 2 aa (rp 3 aa ?_);refine br aa ?_ ?_<;>intro zj
    ·refine ro 2 aa (bM aa aa (aH aa aa I ae fw aa ?_));refine ro 6 aa ?_;refine ay aa ?_ ?_<;>intro sT
     ·refine aA 4 aa (aH aa aa I ae fw aa ?_);refine ro 2 aa ?_;obtain⟨ry,v3,ue⟩:=bD (z:=ahB) (n:=A.length) ae ae;obtain⟨UO,LY,gX⟩:=qN ue RA;refine aw (eL rfl (by rw[←v3];rfl) ue ?_);refine jd (rF aa aa aa aa aa aa ao ao gX (fun E7 hw15 ajY=>?_));have ajS:af [.b] E7:=by rw[hw15];exact fk RA (ah eI bl)
      rw[←ajY];exact W
     exact W
    exact W
   exact W
  rintro VE B⟨L,G,hV,hB,rfl,UP,abq⟩;refine aU _ _ hV hB (dM [32,25,16,8,7,6,4,1,0] [] aa aa (fun e0 b0 VE B=>∃M U,an ((5,.bs 19 M 1)::e0) VE∧an ((19,.arr 4 1 1 M U)::b0) B∧(U.length=M)∧(M=G.length)∧(af [.b] U)) ?_ ?_)
  ·refine rc 5 aa ?_;refine br aa ?_ ?_<;>intro o5
   ·refine ro 2 aa (bM aa aa (aH aa aa I ae fw aa ?_));refine ro 2 aa (rp 3 aa ?_);refine br aa ?_ ?_<;>intro ux
    ·refine ro 2 aa (bM aa aa (aH aa aa I ae fw aa ?_));refine ro 6 aa ?_;refine ay aa ?_ ?_<;>intro sU
     ·refine aA 4 aa (aH aa aa I ae fw aa ?_);refine ro 2 aa ?_;obtain⟨sV,By,Bz⟩:=bD (z:=Dx) (n:=G.length) ae ae;obtain⟨x8,GL,nU⟩:=qN Bz abq;refine aw (eL rfl (by rw[←By];rfl) Bz ?_);refine jd (rF aa aa aa aa aa aa ao ao nU (fun mF BK yO=>?_));have uc:af [.b] mF:=by rw[BK];exact fk abq (ah eI bl)
      rw[←yO];exact W
     exact W
    exact W
   exact W
  rintro VE B⟨M,U,hV,hB,rfl,ahC,hrw19_j6⟩;refine aU _ _ hV hB (aA 4 aa (aH aa aa I ae fw aa ?_));refine ro 4 aa ?_;refine ay aa ?_ ?_<;>intro E5
  ·refine aA 4 aa (aH aa aa I ae fw aa ?_);refine ro 3 aa ?_;have hb22:af bn [[(dJ MT)]]:=(cH (ah ak bl) cb);refine eZ 103 103 aa aa (fun _=>⟨aa,aa⟩) (aw (aB aa (xA F hdv6_0 ae hrv6_0 (.inl aa) ae hb22) ?_));rintro _ _⟨MU,S4,rfl,CH,RB,CI,RC,hey23_0⟩;exact W
  exact W
 exact W
theorem ae8{T:aM}(F:FT T){a0 a1 a2 a3 a4 a5 a6 a7:DC}(cP:(Ty.s 1000).ok a0){U:ai}(cO:au U a1)(dn:U.length≤100)(cq:af dV U)(cG:(Ty.l 200 bn).ok a2)(cr:(Ty.l 4 ep).ok a3)(ca:(Ty.l 4 dT).ok a4)(cj:tJ.ok a5){Y:ai}(M:au Y a6)(yP:Y.length≤1000000000)(O:af ey Y)(fX:tJ.ok a7):Sound T 143 [.agg [.d a0,.d a1,.d a2,.d a3,.d a4],.d a5,.d a6,.d a7] fun r=>∃y0 y1,r= .tuple [.d y0,.d y1]∧tJ.ok y0∧tJ.ok y1:=by
 refine bm F.q143 aa ?_;rcases cP,cG,cr,ca,cj,fX with⟨⟨gO,rfl,ki⟩,⟨bo,ct,df,bQ⟩,⟨du,eS,fI,et⟩,⟨dK,dx,eU,dg⟩,⟨cg,rfl,mY,mZ⟩,⟨bT,rfl,su,sv⟩⟩
 refine ch 10 aa (aB aa (C3 F (bB al) cO ae cq (aL ct ae bQ) (aL eS ae et) (aL dx ae dg) ak) ?_);rintro _ _⟨dD,fg,rfl,A,kI,I,mN,aeA⟩;refine aN 7 aa (aB aa (C4 F M ae O ak A ae I) ?_);rintro _ _⟨nR,_,rfl,DF,zy2_1,rfl,hzy2_1,kzy2_1⟩;refine ro 9 aa (rp 3 aa ?_);refine ay aa ?_ ?_<;>intro h3
 ·exact W
 refine aA 5 aa (aB aa (ColumnsC F M ae O ak) ?_);rintro _ _⟨gp,Z,rfl,z,tq,L,Ak,C1⟩;refine ro 8 aa (bj [26,13,12,11,10,9,8,4,3,2,1,0] [4] aa aa (fun e0 b0 k VE B=>∃G,an ((14,.d (dJ G))::e0) VE∧an b0 B∧d9 k 0 G (Z.length:Int)) ?_ fin);rintro _ VE B⟨G,hV,hB,rfl,bU⟩;refine aU _ _ hV hB (aA 5 aa (aQ aa z ?_));refine ro 2 aa ?_;refine ay aa ?_ ?_<;>intro g5
 ·refine rc 7 aa ?_;obtain⟨_,⟨DI,rfl,LM,LN⟩,fE⟩:=qI G L;refine aw (aH aa aa z ae fE aa ?_);refine ro 3 aa ?_;refine br aa ?_ ?_<;>intro h7
  ·exact W
  refine ro 2 aa (bM aa aa (aH aa aa z ae fE aa ?_));refine ro 2 aa (bM aa aa (aQ aa A ?_));refine ro 3 aa ?_;refine br aa ?_ ?_<;>intro h8
  ·exact W
  refine ro 3 aa (bM aa aa (aH aa aa z ae fE aa ?_));refine ro 1 aa ?_;obtain⟨_,⟨DQ,rfl,LX,ae7⟩,fw⟩:=qI DI I;refine bM aa aa (aH aa aa A ae fw aa ?_);refine ro 1 aa (rp 3 aa ?_);refine cE aa ?_ ?_<;>intro Yy
  ·exact W
  exact W
 exact W
theorem rowE{T:aM}(F:FT T){a0 a1 a2 a3 a4 a5 a6 a7 a8 a9 ky o7 o8 sY sZ s0 zp zq zs zu zw zx:DC}(cP:(Ty.s 1000).ok a0){bJ:ai}(L:au bJ a1)(dn:bJ.length≤100)(M:af dV bJ)(cG:(Ty.l 200 bn).ok a2)(cr:(Ty.l 4 ep).ok a3)(ca:(Ty.l 4 dT).ok a4)(cj:tJ.ok a5)(fi:tJ.ok a6)(fX:(Ty.s 1000).ok a7)(gk:(Ty.l 1000000000 cu).ok a8)(ig:tJ.ok a9)(mV:tJ.ok ky)(pV:(Ty.l 100 ey).ok o7)(BL:tJ.ok o8)(yJ:(Ty.l 10 ez).ok sY)(BM:(Ty.s 1000).ok sZ)(BN:(Ty.l 100 dV).ok s0)(Jb:(Ty.l 200 bn).ok zp)(Jc:(Ty.l 4 ep).ok zq)(Jd:(Ty.l 4 dT).ok zs)(Je:tJ.ok zu)(Jf:(Ty.s 1000).ok zw)(Jg:tJ.ok zx):Sound T 104 [.agg [.d a0,.d a1,.d a2,.d a3,.d a4],.d a5,.agg [.d a6,.d a7,.d a8,.d a9,.d ky,.d o7,.d o8,.d sY,.d sZ,.d s0,.d zp,.d zq,.d zs,.d zu,.d zw,.d zx]] fun r=>∃y0,r= .d y0∧tJ.ok y0:=by
 refine bm F.q104 aa ?_;rcases cP,cG,cr,ca,cj,fi,fX,gk,ig,mV,pV,BL,yJ,BM,BN,Jb,Jc,Jd,Je,Jf,Jg with⟨⟨gO,rfl,ki⟩,⟨bo,O,df,U⟩,⟨du,Y,fI,Z⟩,⟨dK,dx,eU,dg⟩,⟨cg,rfl,mY,mZ⟩,⟨bu,rfl,nP,nQ⟩,⟨PB,rfl,ON⟩,⟨rA,lj,t9,lH⟩,⟨fQ,rfl,yH,yI⟩,⟨jj,rfl,MV,MW⟩,⟨aj4,MX,ahD,MY⟩,⟨za12,rfl,hza12,kza12⟩,⟨aj5,G,hna13,MZ⟩,⟨sa14,rfl,hsa14⟩,⟨wa15,UQ,hna15,UR⟩,⟨aj6,HW,ahE,HX⟩,⟨aj7,HY,ahF,HZ⟩,⟨aj8,H3,ahG,H4⟩,⟨za19,rfl,hza19,kza19⟩,⟨sa20,rfl,hsa20⟩,⟨za21,rfl,hza21,kza21⟩⟩
 refine ch 11 aa (aB aa (GI F ak ak) ?_);rintro _ _⟨_,rfl,UK,rfl⟩;refine ro 2 aa ?_;refine cE aa ?_ ?_<;>intro h2
 ·exact W
 refine rc 1 aa (dM [18,6,5,3,2,1,0] [5,3] aa aa (fun e0 b0 VE B=>an e0 VE∧an b0 B) ?_ ?_)
 ·refine rc 6 aa ?_;refine ay aa ?_ ?_<;>intro g3
  ·refine aA 8 aa (aB aa (ae8 F (bB al) L ae M (aL O ae U) (aL Y ae Z) (aL dx ae dg) ak MX ae MY ak) ?_);rintro _ _⟨gp,sr,rfl,tH,vu⟩;exact W
  exact W
 rintro VE B⟨hV,hB⟩;refine aU _ _ hV hB (rc 7 aa ?_);refine ay aa ?_ ?_<;>intro h8
 ·exact W
 refine aA 5 aa (aB aa (C3 F (bB al) L ae M (aL O ae U) (aL Y ae Z) (aL dx ae dg) ak) ?_);rintro _ _⟨I4,ahH,rfl,I,ae9,S5,hmy9_0,hfy9_0⟩;refine ro 8 aa (bj [43,18,9,6,5,3,2,1,0] [5,3] aa aa (fun e0 b0 k VE B=>∃z,an ((10,.d (dJ z))::e0) VE∧an b0 B∧d9 k 0 z (aj5.length:Int)) ?_ fin);rintro _ VE B⟨z,hV,hB,rfl,bU⟩;refine aU _ _ hV hB (aA 6 aa (aQ aa G ?_));refine ro 2 aa ?_;refine ay aa ?_ ?_<;>intro uw
 ·refine rc 8 aa ?_;obtain⟨_,⟨zx11_0,rfl,hzx11_0,kzx11_0⟩,UM,C2,wi⟩:=qI z MZ;refine aw (aH aa aa G ae wi aa ?_);refine ro 7 aa (rp 4 aa ?_);refine br aa ?_ ?_<;>intro oc
  ·exact W
  refine ro 3 aa (bM aa aa (aQ aa I ?_));refine ro 3 aa ?_;refine br aa ?_ ?_<;>intro J6
  ·exact W
  refine ro 3 aa ?_;obtain⟨_,⟨C5,rfl,Gb,Gc⟩,gX⟩:=qI zx11_0 S5;refine bM aa aa (aH aa aa I ae gX aa ?_);refine ro 1 aa (rp 3 aa ?_);refine ay aa ?_ ?_<;>intro J9
  ·exact W
  refine rc 7 aa (bj [76,51,43,18,11,10,9,6,5,3,2,1,0] [11,5,3] aa aa (fun e0 b0 k VE B=>∃A,an ((12,.d (dJ A))::e0) VE∧an b0 B∧d9 k 0 A z) ?_ fin);rintro _ VE B⟨A,hV,hB,rfl,fu⟩;refine aU _ _ hV hB (rc 7 aa ?_);refine ay aa ?_ ?_<;>intro o5
  ·refine rc 8 aa ?_;obtain⟨x17_0,hx17_0,ye,GM,jA⟩:=qI A MZ;refine aV (aH aa aa G ae jA aa ?_);refine rq 1 aa (cJ aa aa (dy aa aa ?_));exact W
  refine aA 9 aa (aB aa (ae8 F (bB al) L ae M (aL O ae U) (aL Y ae Z) (aL dx ae dg) ak MX ae MY C2) ?_);rintro _ _⟨H5,y19_1,rfl,hy19_0,hy19_1⟩;exact W
 exact W
end Go.Ev.Rp
