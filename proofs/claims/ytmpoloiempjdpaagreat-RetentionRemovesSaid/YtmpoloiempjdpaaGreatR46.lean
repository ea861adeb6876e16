/- Part 46 of rules for walks through the code of a program, and of such walks; what each part proves is said by its theorems. -/
import Derived.Test.YtmpoloiempjdpaaGreatR24
import Derived.Test.YtmpoloiempjdpaaGreatR25
import Derived.Test.YtmpoloiempjdpaaGreatR41
import Derived.Test.YtmpoloiempjdpaaGreatR43
set_option linter.unusedVariables false
set_option linter.unusedSimpArgs false
noncomputable section
set_option maxRecDepth 100000
set_option maxHeartbeats 4000000
namespace Go.Ev.Rp
open Go Go.Ev.Pp
attribute [local irreducible] VC VO VQ VI Sound bY
theorem akR{T:aM}(F:FT T){a0 a1 a2 a3 a4:DC}(cP:(Ty.s 1000).ok a0){A:ai}(G:au A a1)(dn:A.length≤100)(O:af dV A)(cG:(Ty.l 200 bn).ok a2)(cr:(Ty.l 4 ep).ok a3)(ca:(Ty.l 4 dT).ok a4){cg:Int}(rl:(-9223372036854775808)≤cg)(rm:cg≤9223372036854775807):Sound T 101 [.agg [.d a0,.d a1,.d a2,.d a3,.d a4],.d (dJ cg)] fun r=>∃y0 y1 y2 y3,r= .tuple [.agg [.d y0,.d y1,.d y2],dB y3]∧tJ.ok y0∧tJ.ok y1∧(Ty.l 13 lE).ok y2∧(y3=true↔sm A cg):=by
 refine bm F.ajw aa ?_;rcases cP,cG,cr,ca with⟨⟨gO,rfl,ki⟩,⟨bo,ct,df,bQ⟩,⟨du,eS,fI,et⟩,⟨dK,dx,eU,dg⟩⟩
 refine r0 12 aa (bj [5,4,2,1,0] [4,2] aa aa (fun e0 b0 k VE B=>∃z,an ((6,.d (dJ z))::e0) VE∧an b0 B∧k=((A.length:Int) -z).toNat∧(0≤z∧(z≤(A.length:Int)∨z=0))∧(rV A z cg)) ?_ fin);rintro _ VE B⟨z,hV,hB,rfl,bU,cS⟩;refine aU _ _ hV hB (aA 6 aa (aQ aa G ?_));refine ro 2 aa ?_;refine ay aa ?_ ?_<;>intro g1
 ·refine rc 8 aa ?_;obtain⟨_,⟨I,rfl,Z,ve⟩,_,⟨L,rfl,u9,qv⟩,U,M,Y⟩:=qI z O;refine aw (aH aa aa G ae Y aa ?_);refine ro 7 aa ?_;skip;refine rp 5 aa ?_;refine br aa ?_ ?_<;>intro g3
  ·refine ro 6 aa ?_;refine ay aa ?_ ?_<;>intro g4
   ·refine aA 5 aa (aH aa aa G ae Y aa ?_);refine eJ 5 aa ?_;exact bL rfl rfl ⟨(dJ I),(dJ L),U,true,rfl,ak,ak,M,(by first|exact⟨fun _=>sm.mk (by assumption) ae ae,fun _=>rfl⟩|exact⟨fun h=>(by cases h),fun h=>absurd h (rV.all (by assumption) ae)⟩)⟩
   refine aA 3 aa (bx aa aa ae ae ?_);refine cL 2 aa ?_;exact⟨((A.length:Int) -((z+1))).toNat,ae,(z+1),⟨rfl,rfl,rfl,rfl,rfl,rfl,trivial⟩,⟨rfl,rfl,trivial⟩,rfl,ae,(by first|exact ab9|exact rV.succ (by assumption) ae (by assumption) ae)⟩
  refine ro 6 aa (dq aa aa (aA 3 aa (bx aa aa ae ae ?_)));refine cL 2 aa ?_;exact⟨((A.length:Int) -((z+1))).toNat,ae,(z+1),⟨rfl,rfl,rfl,rfl,rfl,rfl,trivial⟩,⟨rfl,rfl,trivial⟩,rfl,ae,(by first|exact ab9|exact rV.succ (by assumption) ae (by assumption) ae)⟩
 refine eA 8 aa ?_;exact bL rfl rfl ⟨i0,i0,.nil,false,rfl,ak,ak,gw,(by first|exact⟨fun _=>sm.mk (by assumption) ae ae,fun _=>rfl⟩|exact⟨fun h=>(by cases h),fun h=>absurd h (rV.all (by assumption) ae)⟩)⟩
theorem adO{T:aM}(F:FT T){a0 a1 a2 a3 a4:DC}(cP:(Ty.s 1000).ok a0){I:ai}(O:au I a1)(dn:I.length≤100)(U:af dV I)(cG:(Ty.l 200 bn).ok a2)(cr:(Ty.l 4 ep).ok a3)(ca:(Ty.l 4 dT).ok a4){cg:Int}(rl:(-9223372036854775808)≤cg)(rm:cg≤9223372036854775807):Sound T 227 [.agg [.d a0,.d a1,.d a2,.d a3,.d a4],.d (dJ cg),dB false] fun r=>∃y0 M y2,r= .tuple [.d y0,dB y2]∧au M y0∧(M.length:Int)≤13∧af lE M∧(y2=true↔sm I cg):=by
 refine bm F.q227 aa ?_;rcases cP,cG,cr,ca with⟨⟨gO,rfl,ki⟩,⟨bo,Y,df,Z⟩,⟨du,eS,fI,et⟩,⟨dK,dx,eU,dg⟩⟩
 refine ch 10 aa (aB aa (akR (cg:=cg) F (bB al) O ae U (aL Y ae Z) (aL eS ae et) (aL dx ae dg) ae ae) ?_);rintro _ _⟨dD,Bw,t8,Wj,rfl,mR,yg,⟨z,L,xE,A⟩,G⟩;refine ro 13 aa ?_;refine cE aa ?_ ?_<;>intro h2
 ·have k2:¬_:=fun p=>absurd (G.2 p) (by simpa using h2)
  refine eA 6 aa ?_;exact bL rfl rfl ⟨.nil,[],false,rfl,(.inr ⟨rfl,rfl⟩),ae,cb,(by first|exact⟨fun h=>(by cases h),fun h=>absurd h (by assumption)⟩|exact⟨fun _=>(by assumption),fun _=>rfl⟩)⟩
 have k2:=G.1 (by simpa using h2);refine rc 3 aa (iD 2 aa (eb (ys:=z) 21 aa aa aa aa aa (.sD L (cD A aa)) ao ae ?_));refine ro 7 aa (dq aa aa (rc 7 aa (cA 6 21 aa aa (fun _=>⟨aa,aa⟩) (eA 1 aa ?_))));exact bL rfl rfl ⟨(.cF z),z,true,rfl,(.acc _),ae,A,(by first|exact⟨fun h=>(by cases h),fun h=>absurd h (by assumption)⟩|exact⟨fun _=>(by assumption),fun _=>rfl⟩)⟩
theorem visibleV{T:aM}(F:FT T){a0 a1:DC}{I:ai}(A:au I a0)(cT:I.length≤16)(bN:af [.s 1000,.l 100 dV,.l 200 bn,.l 4 ep,.l 4 dT] I)(bV:(Ty.s 1000).ok a1){bz:Int}(pY:(-9223372036854775808)≤bz)(nh:bz≤9223372036854775807):Sound T 259 [.d a0,.d a1,.d (dJ bz),dB false] fun r=>∃y0 O y2,r= .tuple [.d y0,.d y2]∧au O y0∧(O.length:Int)≤13∧af lE O∧(Ty.b).ok y2:=by
 refine bm F.q259 aa ?_;obtain⟨sa1,rfl,hsa1⟩:=bV;refine r0 11 aa (bj [9,8,3,2,1,0] [] aa aa (fun e0 b0 k VE B=>∃z,an ((10,.d (dJ z))::e0) VE∧an b0 B∧d9 k 0 z (I.length:Int)) ?_ fin);rintro _ VE B⟨z,hV,hB,rfl,bU⟩;refine aU _ _ hV hB (aA 5 aa (aQ aa A ?_));refine ro 2 aa ?_;refine ay aa ?_ ?_<;>intro g1
 ·refine rc 7 aa ?_;obtain⟨_,⟨sx2_0,rfl,G3⟩,fH,⟨nF,L,nz,M⟩,gf,U,lk,Y,wu,Z,bS⟩:=qI z bN;refine aw (aH aa aa A ae bS aa ?_);refine aN 3 aa (pb aa aa ?_);refine ro 1 aa ?_;refine ay aa ?_ ?_<;>intro g4
  ·refine aA 4 aa (aH aa aa A ae bS aa ?_);refine aN 3 aa (aB aa (adO (cg:=bz) F (bB al) L ae M U Y Z ae ae) ?_);rintro _ _⟨jz,iR,WT,rfl,lV,rP,kK,G⟩;refine ro 10 aa ?_;refine cE aa ?_ ?_<;>intro h6
   ·have k6:=G.1 (by simpa using h6);exact W
   have k6:¬_:=fun p=>absurd (G.2 p) (by simpa using h6)
   exact W
  exact W
 exact W
theorem agl{T:aM}(F:FT T){a0:DC}{L:ai}(cM:au L a0)(cT:L.length≤16)(bN:af [.s 1000,.l 100 dV,.l 200 bn,.l 4 ep,.l 4 dT] L){aS:Int}(mA:(-9223372036854775808)≤aS)(mB:aS≤9223372036854775807):Sound T 169 [.d a0,.d (dJ aS),dB false] fun r=>∃y0 Z,r= .d y0∧au Z y0∧(Z.length:Int)≤16∧af yF Z∧0≤(Z.length:Int)∧(Z=[]→y0= .nil)∧((Z.length:Int)=jx aS L):=by
 refine bm F.q169 aa (r0 14 aa (dP 7 90 230 40 2 aa aa (bj [6,2,1,0] [] aa aa (fun e0 b0 k VE B=>∃A G,an ((7,.ac 90 G.length 2)::(8,.d (dJ A))::e0) VE∧an ((90,.acc 230 40 2 G)::b0) B∧k=((L.length:Int) -A).toNat∧(0≤A∧(A≤(L.length:Int)∨A=0))∧((G.length:Int)≤A)∧(af yF G)∧((G.length:Int)=jx aS (L.take A.toNat))) ?_ fin)));rintro _ VE B⟨A,G,hV,hB,rfl,bU,cS,M,mh⟩;refine aU _ _ hV hB (aA 5 aa (aQ aa cM ?_));refine ro 2 aa ?_;refine ay aa ?_ ?_<;>intro g1
 ·refine rc 7 aa ?_;obtain⟨gW,jt,fH,⟨nF,oA,nz,oB⟩,gf,iq,lk,lC,wu,yf,bS⟩:=qI A bN;refine aw (aH aa aa cM ae bS aa ?_);refine aN 3 aa (aB aa (adO (cg:=aS) F jt oA ae oB iq lC yf ae ae) ?_);rintro _ _⟨lh,oL,Ov,rfl,Y,CY,vc,Ik⟩;refine ro 12 aa ?_;refine cE aa ?_ ?_<;>intro h4
  ·have k4:¬_:=fun p=>absurd (Ik.2 p) (by simpa using h4)
   refine aA 3 aa (bx aa aa ae ae ?_);refine cL 2 aa ?_;exact⟨((L.length:Int) -((A+1))).toNat,ae,(A+1),G,⟨rfl,rfl,rfl,rfl,rfl,rfl,trivial⟩,⟨rfl,trivial⟩,rfl,ae,ae,M,(by first|rfl|(simp only[eT,gF,jK];exact F5 (by assumption) ae (by assumption) (by assumption) (by assumption))|exact K3 (by assumption) ae (by assumption) (by assumption) (by assumption))⟩
  have k4:=Ik.1 (by simpa using h4);refine aA 5 aa (aH aa aa cM ae bS aa ?_);refine ro 12 aa (ja 11 1 91 3 8 1 aa aa aa (bj [30,16,11,10,9,8,7,6,2,1,0] [90] aa aa (fun e0 b0 k VE B=>∃I z,an ((12,.d (dJ I))::e0) VE∧an ((11,.one 230 40 [.d gW,.ac 91 z.length 1])::(91,.acc 3 8 1 z)::b0) B∧k=((oL.length:Int) -I).toNat∧(0≤I∧(I≤(oL.length:Int)∨I=0))∧((z.length:Int)≤I)∧(af bn z)) ?_ fin));rintro _ VE B⟨I,z,hV,hB,rfl,fu,gL,O⟩;refine aU _ _ hV hB (aA 5 aa (aQ aa Y ?_));refine ro 2 aa ?_;refine ay aa ?_ ?_<;>intro g5
  ·refine rc 8 aa ?_;obtain⟨I9,AZ,BE,yb,_,⟨UL,rfl,hzx6_2,kzx6_2⟩,fE⟩:=qI I vc;refine aV (aH aa aa Y ae fE aa ?_);refine rq 1 aa (cJ aa aa (dy aa aa ?_));refine rq 1 aa ?_;refine aP rfl (aY (rows:=z) (ys:=[[(dJ UL)]]) rfl rfl rfl (.bs (rows:=[[(dJ UL)]]) rfl) ao ae (fun h=>by rw[h];rfl) (fun h=>by rw[h];rfl) ?_);exact W
  refine rc 4 aa (eH 54 91 aa aa dr ?_);obtain⟨U,rfl,G3⟩:=Ty.bB jt;refine ro 1 aa ?_;refine aw (aY (rows:=G) (ys:=[[(aq U),(.cF z)]]) rfl rfl rfl (.bs (rows:=[[(aq U),(.cF z)]]) rfl) ao ae (fun h=>by rw[h];rfl) (fun h=>by rw[h];rfl) ?_);refine aN 4 aa (bx aa aa ae ae ?_);refine cL 2 aa ?_;exact⟨((L.length:Int) -((A+1))).toNat,ae,(A+1),(G++[[(aq U),(.cF z)]]),⟨rfl,rfl,rfl,rfl,rfl,rfl,trivial⟩,⟨rfl,trivial⟩,rfl,ae,cR,(dW M (dG (ah (bB al) (ah (aL (.acc _) ae O) bl)))),(by first|rfl|(simp only[eT,gF,jK];exact F5 (by assumption) ae (by assumption) (by assumption) (by assumption))|exact K3 (by assumption) ae (by assumption) (by assumption) (by assumption))⟩
 refine rc 6 aa (cA 6 90 aa aa (fun _=>⟨aa,aa⟩) (eA 1 aa ?_));exact bL rfl rfl ⟨(.cF G),G,rfl,(.acc _),ae,M,ae,(fun h=>by rw[h];rfl),(visN_all dC ae)⟩
end Go.Ev.Rp
namespace Go.Ev.Rp
open Go Go.Ev.Pp
attribute [local irreducible] VC VO VQ VI Sound bY
theorem abu{T:aM}(F:FT T){X:List Int}{a0 a1 a2 a3 a4 a5:DC}(cP:(Ty.x).ok a0)(bV:(Ty.x).ok a1){G:ai}(ct:au G a2)(df:G.length≤16)(bQ:af (AP X) G)(cr:(Ty.x).ok a3)(ca:(Ty.x).ok a4)(cj:(Ty.x).ok a5):Sound T 122 [.agg [.d a0,.d a1,.d a2,.d a3,.d a4,.d a5]] fun r=>∃y0 M,r= .d y0∧au M y0∧(M.length:Int)≤16∧af [.s 1000,.l 100 dV,.l 200 bn,.l 4 ep,.l 4 dT] M∧0≤(M.length:Int)∧(M=[]→y0= .nil)∧(M=G.map (List.take 5)):=by
 refine bm F.q122 aa (r0 15 aa (dP 3 90 40 112 5 aa aa (bj [2,1,0] [1] aa aa (fun e0 b0 k VE B=>∃z A,an ((3,.ac 90 A.length 5)::(4,.d (dJ z))::e0) VE∧an ((90,.acc 40 112 5 A)::b0) B∧k=((G.length:Int) -z).toNat∧(0≤z∧(z≤(G.length:Int)∨z=0))∧((A.length:Int)≤z)∧(af [.s 1000,.l 100 dV,.l 200 bn,.l 4 ep,.l 4 dT] A)∧(A=(G.take z.toNat).map (List.take 5))) ?_ fin)));rintro _ VE B⟨z,A,hV,hB,rfl,bU,cS,L,mh⟩;refine aU _ _ hV hB (aA 6 aa (aQ aa ct ?_));refine ro 2 aa ?_;refine ay aa ?_ ?_<;>intro g1
 ·refine rc 8 aa ?_;obtain⟨_,⟨I,rfl,G3⟩,O,⟨nF,oA,nz,oB⟩,U,⟨Ng,TE,Ao,Dc⟩,Y,⟨M3,GO,LZ,Ar⟩,Z,⟨wx2_4,TG,hnx2_4,TH⟩,Xi,A6,bS⟩:=qI z bQ;refine aw (aH aa aa ct ae bS aa ?_);refine ro 3 aa ?_;refine aw (aY (rows:=A) (ys:=[[(aq I),O,U,Y,Z]]) rfl rfl rfl (.bs (rows:=[[(aq I),O,U,Y,Z]]) rfl) ao ae (fun h=>by rw[h];rfl) (fun h=>by rw[h];rfl) ?_);refine aN 4 aa (bx aa aa ae ae ?_);refine cL 2 aa ?_;exact⟨((G.length:Int) -((z+1))).toNat,ae,(z+1),(A++[[(aq I),O,U,Y,Z]]),⟨rfl,rfl,rfl,rfl,rfl,trivial⟩,⟨rfl,rfl,trivial⟩,rfl,ae,cR,(dW L (dG (ah (bB al) (ah (aL oA ae oB) (ah (aL TE ae Dc) (ah (aL GO ae Ar) (ah (aL TG ae TH) bl))))))),(by first|rfl|exact map_take_s (by assumption) ae (by assumption) rfl)⟩
 refine rc 6 aa (cA 2 90 aa aa (fun _=>⟨aa,aa⟩) (eA 1 aa ?_));exact bL rfl rfl ⟨(.cF A),A,rfl,(.acc _),ae,L,ae,(fun h=>by rw[h];rfl),(map_take_all dC ae)⟩
theorem ZP{T:aM}(F:FT T){X:List Int}{a0 a1 a2 a3 a4 a5:DC}(cP:(Ty.x).ok a0)(bV:(Ty.x).ok a1){L:ai}(M:au L a2)(df:L.length≤16)(bQ:af (AP X) L)(cr:(Ty.x).ok a3)(ca:(Ty.x).ok a4)(cj:(Ty.x).ok a5){bu:Int}(kr:(-9223372036854775808)≤bu)(ku:bu≤9223372036854775807)(hX:X.length≤2000000):Sound T 123 [.agg [.d a0,.d a1,.d a2,.d a3,.d a4,.d a5],.d (dJ bu),dB false] fun r=>∃y0 bw,r= .d y0∧au bw y0∧(bw.length:Int)≤16∧af (Uy X) bw∧0≤(bw.length:Int)∧(bw=[]→y0= .nil):=by
 refine bm F.q123 aa (ch 8 aa (aB aa (abu (X:=X) F bZ bZ M ae bQ bZ bZ bZ) ?_));rintro _ _⟨dD,fg,rfl,hJ,kI,fT,mN,pn,Y⟩;refine aN 2 aa (aB aa (agl (aS:=bu) F hJ ae fT ae ae) ?_);rintro _ _⟨nR,DX,rfl,Md,Mc,Ax,afZ,af0,Z⟩;refine ro 4 aa ?_;have kt:(DX.length:Int)=jx bu L:=by rw[Z,Y,abe ao]
 refine rp 8 aa (dP 8 90 232 64 3 aa aa (bj [7,6,3,2,1,0] [3] aa aa (fun e0 b0 k VE B=>∃A I,an ((8,.ac 90 I.length 3)::(9,.d (dJ A))::e0) VE∧an ((90,.acc 232 64 3 I)::b0) B∧k=((L.length:Int) -A).toNat∧(0≤A∧(A≤(L.length:Int)∨A=0))∧((I.length:Int)≤A)∧(af (Uy X) I)∧((I.length:Int)=jx bu (L.take A.toNat))) ?_ fin));rintro _ VE B⟨A,I,hV,hB,rfl,bU,cS,Dh,mh⟩;refine aU _ _ hV hB (aA 6 aa (aQ aa M ?_));refine ro 2 aa ?_;refine ay aa ?_ ?_<;>intro g3
 ·refine rc 8 aa ?_;obtain⟨oS,ka,e5,⟨Ig,Dd,GY,De⟩,pQ,oH,IQ,rY,Xk,yj,Xl,⟨ain,agm,hnx4_5,hrx4_5⟩,dj⟩:=qI A bQ;refine aw (aH aa aa M ae dj aa ?_);refine aN 3 aa (aB aa (akR (cg:=bu) F ka Dd ae De oH rY yj ae ae) ?_);rintro _ _⟨jz,aj9,WT,y5_3,rfl,pw,UU,H6,aio⟩;refine ro 13 aa ?_;refine cE aa ?_ ?_<;>intro h6
  ·have k6:¬_:=fun p=>absurd (aio.2 p) (by simpa using h6)
   refine aA 3 aa (bx aa aa ae ae ?_);refine cL 2 aa ?_;exact⟨((L.length:Int) -((A+1))).toNat,ae,(A+1),I,⟨rfl,rfl,rfl,rfl,rfl,rfl,rfl,rfl,trivial⟩,⟨rfl,rfl,trivial⟩,rfl,ae,ae,Dh,(by first|rfl|(simp only[eT,gF,jK];exact F5 (by assumption) ae (by assumption) (by assumption) (by assumption))|exact K3 (by assumption) ae (by assumption) (by assumption) (by assumption))⟩
  have k6:=aio.1 (by simpa using h6);refine rc 6 aa ?_;have kv:=visN_lt (w:=L) (t:=bu) (v:=A) ae dC dC dC;obtain⟨nT,oI,oT,⟨wx7_1,L8,hnx7_1,L9⟩,eK⟩:=qI (I.length:Int) Ax;refine aw (aH aa aa Md ae eK aa ?_);refine ro 11 aa (ja 12 2 91 48 64 6 aa aa aa (bj [39,24,12,11,10,9,8,7,6,3,2,1,0] [90,10,3] aa aa (fun e0 b0 k VE B=>∃G z,an ((13,.d (dJ G))::e0) VE∧an ((12,.one 232 64 [.d nT,.d oT,.ac 91 z.length 6])::(91,.acc 48 64 6 z)::b0) B∧k=((ain.length:Int) -G).toNat∧(0≤G∧(G≤(ain.length:Int)∨G=0))∧((z.length:Int)≤G)∧(af (Ux X) z)) ?_ fin));rintro _ VE B⟨G,z,hV,hB,rfl,fu,gL,O⟩;refine aU _ _ hV hB (aA 7 aa (aH aa aa M ae dj aa ?_));refine aN 2 aa (aQ aa agm ?_);refine ro 2 aa ?_;refine ay aa ?_ ?_<;>intro g8
  ·refine aA 8 aa (aH aa aa M ae dj aa ?_);refine ro 3 aa ?_;obtain⟨pP,lX,q7,⟨aib,G1,afT,G2⟩,_,⟨Dx,rfl,aeu,aev⟩,_,⟨MT,rfl,hzx9_3,kzx9_3⟩,_,⟨aip,rfl,hzx9_4,kzx9_4⟩,_,⟨aiq,rfl,hzx9_5,kzx9_5⟩,fw⟩:=qI G hrx4_5;refine aw (aH aa aa agm ae fw aa ?_);refine aN 9 aa (aB aa (ProjC F pw UU H6 G1 ae G2) ?_);rintro _ _⟨nD,GH,rfl,CF,F9,CG,Rx,hey10_0⟩;refine ro 4 aa ?_;obtain⟨DQ,rfl,LX,hqx9_0⟩:=Ty.bC lX;refine rp 4 aa ?_;refine aw (aY (rows:=z) (ys:=[[(dJ DQ),nD,(dJ Dx),(dJ MT),(dJ aip),(dJ aiq)]]) rfl rfl rfl (.bs (rows:=[[(dJ DQ),nD,(dJ Dx),(dJ MT),(dJ aip),(dJ aiq)]]) rfl) ao ae (fun h=>by rw[h];rfl) (fun h=>by rw[h];rfl) ?_);exact W
  refine rc 4 aa (eH 78 91 aa aa dr ?_);obtain⟨U,rfl,hsx7_0⟩:=Ty.bB oI;refine ro 1 aa ?_;refine aw (aY (rows:=I) (ys:=[[(aq U),oT,(.cF z)]]) rfl rfl rfl (.bs (rows:=[[(aq U),oT,(.cF z)]]) rfl) ao ae (fun h=>by rw[h];rfl) (fun h=>by rw[h];rfl) ?_);have kt:(DX.length:Int)=jx bu L:=by rw[Z,Y,abe ao]
  refine aN 4 aa (bx aa aa ae ae ?_);refine cL 2 aa ?_;exact⟨((L.length:Int) -((A+1))).toNat,ae,(A+1),(I++[[(aq U),oT,(.cF z)]]),⟨rfl,rfl,rfl,rfl,rfl,rfl,rfl,rfl,trivial⟩,⟨rfl,rfl,trivial⟩,rfl,ae,cR,(dW Dh (dG (ah (bB al) (ah (aL L8 ae L9) (ah (aL (.acc _) ae O) bl))))),(by first|rfl|(simp only[eT,gF,jK];exact F5 (by assumption) ae (by assumption) (by assumption) (by assumption))|exact K3 (by assumption) ae (by assumption) (by assumption) (by assumption))⟩
 exact rc 6 aa (cA 6 90 aa aa (fun _=>⟨aa,aa⟩) (W))
theorem TablesX{T:aM}(F:FT T){X:List Int}{a0 a1 a2 a3 a4 a5:DC}(cP:(Ty.x).ok a0)(bV:(Ty.x).ok a1){G:ai}(L:au G a2)(df:G.length≤16)(M:af (AP X) G)(cr:(Ty.x).ok a3)(ca:(Ty.x).ok a4)(cj:(Ty.x).ok a5){bu:Int}(kr:(-9223372036854775808)≤bu)(ku:bu≤9223372036854775807)(hX:X.length≤2000000):Sound T 126 [.agg [.d a0,.d a1,.d a2,.d a3,.d a4,.d a5],.d (dJ bu)] fun r=>∃y0 I,r= .d y0∧au I y0∧(I.length:Int)≤16∧af (MC X) I:=by
 refine bm F.q126 aa (ch 9 aa (aB aa (ZP (bu:=bu) (X:=X) F bZ bZ L ae M bZ bZ bZ ae ae ae) ?_));rintro _ _⟨dD,fg,rfl,z,O,A,U,Y⟩;refine aN 1 aa (aB aa (TAsX (X:=X) F z ae A ak ae) ?_);rintro _ _⟨nR,DX,rfl,Z,Mc,Ax,afZ,af0⟩;exact W
end Go.Ev.Rp
namespace Go.Ev.Rp
open Go Go.Ev.Pp
attribute [local irreducible] VC VO VQ VI Sound bY
theorem opX{T:aM}(F:FT T){O:DC}(G:(Ty.i .i64 0 12).ok O):Sound T 260 [.d O] fun r=>∃U,r= .d U∧(Ty.i .i64 0 100).ok U:=by
 refine bm F.q260 aa ?_;obtain⟨aJ,rfl,Y,Z⟩:=G;refine r0 13 aa ?_;obtain⟨A,I,L⟩:=bD (z:=aJ) (n:=13) ae ae;refine aw (bG rfl (by rw[←I];rfl) L ?_);obtain⟨m1,M,gM,um1⟩:∃m:Int,([.d (.i .i64 0),.d (.i .i64 1),.d (.i .i64 2),.d (.i .i64 3),.d (.i .i64 4),.d (.i .i64 5),.d (.i .i64 6),.d (.i .i64 7),.d (.i .i64 7),.d (.i .i64 8),.d (.i .i64 9),.d (.i .i64 10),.d (.i .i64 11)]:List VV)[0+A*1]?=some (.d (.i .i64 m))∧0≤m∧m≤11:=by
  rcases(by omega:A=0∨A=1∨A=2∨A=3∨A=4∨A=5∨A=6∨A=7∨A=8∨A=9∨A=10∨A=11∨A=12) with rfl|rfl|rfl|rfl|rfl|rfl|rfl|rfl|rfl|rfl|rfl|rfl|rfl<;>exact⟨_,rfl,ae,ae⟩
 refine aw (oe aa aa M ?_);exact eJ 3 aa (bL aa aa fin)
theorem abv{T:aM}(F:FT T){a0 a1 a2 a3 a4 a5 a6 a7 a8 a9:DC}(z:(Ty.i .i64 0 12).ok a0)(A:(Ty.i .i64 0 30).ok a1)(G:(Ty.i .i64 0 30).ok a2)(I:(Ty.s 1000).ok a3)(L:(Ty.s 1000).ok a4)(M:tJ.ok a5)(O:tJ.ok a6)(U:(Ty.s 1000).ok a7)(Y:(Ty.i .i64 0 60).ok a8)(Z:(Ty.i .i64 0 40).ok a9):Sound T 224 [.agg [.d a0,.d a1,.d a2,.d a3,.d a4,.d a5,.d a6,.d a7],.d a8,.d a9] fun r=>∃y0 y1 y2 y3 y4 y5 y6,r= .agg [.d y0,.d y1,.d y2,.d y3,.d y4,.d y5,.d y6]∧(Ty.i .i64 0 100).ok y0∧(Ty.i .i64 0 100).ok y1∧(Ty.i .i64 0 100).ok y2∧(Ty.i .i64 0 100).ok y3∧tJ.ok y4∧tJ.ok y5∧(Ty.s 1000).ok y6:=by
 refine bm F.q224 aa ?_;rcases z,A,G,I,L,M,O,U,Y,Z with⟨⟨aJ,rfl,iv,iw⟩,⟨aS,rfl,eB,ee⟩,⟨bz,rfl,lF,lG⟩,⟨sa3,rfl,ajW⟩,⟨sa4,rfl,hsa4⟩,⟨cg,rfl,mY,mZ⟩,⟨bu,rfl,nP,nQ⟩,⟨PB,rfl,ON⟩,⟨gC,rfl,t6,t7⟩,⟨fQ,rfl,yH,yI⟩⟩
 refine ch 9 aa (aB aa (opX F ak) ?_);rintro _ _⟨dD,rfl,mR⟩;exact W
theorem Cy{T:aM}(F:FT T){ne:Nat}{a0 a1 a2 a3 a4 a5 a6:DC}(Z:(Ty.b).ok a0)(bV:(Ty.q (Bo xU ne)).ok a1)(cG:(Ty.q (AO ne)).ok a2){G:ai}(eS:au G a3)(fI:G.length≤2)(et:af xV G)(ca:(Ty.i .i64 (-1) 30).ok a4)(cj:(Ty.b).ok a5)(fi:(Ty.l 4 [.i .i64 0 ((ne:Int) -1)]).ok a6)(fP:ne≤30):Sound T 225 [.agg [.d a0,.d a1,.d a2,.d a3,.d a4,.d a5,.d a6]] fun r=>∃y0,r= .d y0∧(Ty.b).ok y0:=by
 refine bm F.q225 aa ?_;rcases Z,Ty.bC bV,Ty.bC cG with⟨⟨YQ,rfl⟩,⟨bJ,cO,dn,cq⟩,⟨bo,I,df,A⟩⟩
 have L:=A.1;rcases ca,cj,fi with⟨⟨bA,rfl,mW,mX⟩,⟨PE,rfl⟩,⟨gQ,gu,yP,iW⟩⟩
 refine r0 11 aa (bj [2,1,0] [1] aa aa (fun e0 b0 k VE B=>∃z,an ((3,.d (dJ z))::e0) VE∧an b0 B∧d9 k 0 z (bo.length:Int)) ?_ fin);rintro _ VE B⟨z,hV,hB,rfl,bU⟩;refine aU _ _ hV hB (aA 6 aa (aQ aa I ?_));refine ro 2 aa ?_;refine ay aa ?_ ?_<;>intro g1
 ·refine rc 8 aa ?_;obtain⟨_,⟨oM,rfl,M,O⟩,_,⟨vz,rfl,U,Y⟩,gf,iq,bS⟩:=qI z L;have wE:=qm.get A bS;exact W
 exact W
theorem abw{T:aM}(F:FT T){ne:Nat}{a0 a1 a2 a3 a4 a5 a6 a7:DC}(cP:(Ty.b).ok a0)(bV:(Ty.q (Bo xU ne)).ok a1)(cG:(Ty.q (AO ne)).ok a2){I:ai}(eS:au I a3)(fI:I.length≤2)(et:af xV I)(ca:(Ty.i .i64 (-1) 30).ok a4)(cj:(Ty.b).ok a5)(fi:(Ty.l 4 [.i .i64 0 ((ne:Int) -1)]).ok a6)(fX:tJ.ok a7)(fP:ne≤30):Sound T 223 [.agg [.d a0,.d a1,.d a2,.d a3,.d a4,.d a5,.d a6],.d a7] fun r=>∃y0,r= .d y0∧tJ.ok y0:=by
 refine bm F.q223 aa ?_;rcases cP,Ty.bC bV,Ty.bC cG with⟨⟨YQ,rfl⟩,⟨bJ,cO,dn,cq⟩,⟨M,O,df,L⟩⟩
 have U:=L.1;rcases ca,cj,fi,fX with⟨⟨bA,rfl,mW,mX⟩,⟨PE,rfl⟩,⟨gQ,gu,yP,iW⟩,⟨bT,rfl,su,sv⟩⟩
 refine r0 15 aa (bj [4,2,1,0] [2] aa aa (fun e0 b0 k VE B=>∃A z,an ((5,.d (dJ A))::(6,.d (dJ z))::e0) VE∧an b0 B∧k=((M.length:Int) -z).toNat∧(0≤A∧A≤31)∧(0≤z∧(z≤(M.length:Int)∨z=0))) ?_ fin);rintro _ VE B⟨A,z,hV,hB,rfl,bU,cS⟩;refine aU _ _ hV hB (aA 6 aa (aQ aa O ?_));refine ro 2 aa ?_;refine ay aa ?_ ?_<;>intro g1
 ·refine rc 8 aa ?_;obtain⟨_,⟨oM,rfl,Y,Z⟩,_,⟨vz,rfl,u9,qv⟩,gf,iq,bS⟩:=qI z U;have wE:=qm.get L bS;exact W
 refine rc 8 aa ?_;refine ay aa ?_ ?_<;>intro h4
 ·exact W
 refine rc 7 aa (bj [31,12,6,5,4,2,1,0] [2] aa aa (fun e0 b0 k VE B=>∃G,an ((7,.d (dJ G))::e0) VE∧an b0 B∧d9 k 1 G (I.length:Int)) ?_ fin);rintro _ VE B⟨G,hV,hB,rfl,fu⟩;exact aU _ _ hV hB (W)
theorem adP{T:aM}(F:FT T){a0 a1 a2 a3 a4 a5 a6 a7 a8 a9 Y Z:DC}{I:ai}(cM:au I a0)(cT:I.length≤2)(bN:af oG I){G:ai}(M:au G a1)(dn:G.length≤26)(cq:af oG G){L:ai}(wx:G.length≤L.length)(O:au L a2)(df:L.length≤26)(bQ:af [.i .i64 0 ((I.length:Int) -1)] L)(cr:(Ty.i .i64 0 12).ok a3)(ca:(Ty.i .i64 0 30).ok a4)(cj:(Ty.i .i64 0 30).ok a5)(fi:(Ty.s 1000).ok a6)(fX:(Ty.s 1000).ok a7)(gk:tJ.ok a8)(ig:tJ.ok a9)(mV:(Ty.s 1000).ok Y)(pV:tJ.ok Z):Sound T 222 [.agg [.d a0,.d a1,.d a2],.agg [.d a3,.d a4,.d a5,.d a6,.d a7,.d a8,.d a9,.d Y],.d Z] fun r=>∃y0 y1,r= .tuple [.d y0,.d y1]∧(Ty.i .i64 0 40).ok y0∧tJ.ok y1:=by
 refine bm F.q222 aa ?_;rcases cr,ca,cj,fi,fX,gk,ig,mV,pV with⟨⟨aT,rfl,mf,mg⟩,⟨bA,rfl,mW,mX⟩,⟨cg,rfl,mY,mZ⟩,⟨E6,rfl,OD⟩,⟨PB,rfl,ON⟩,⟨gC,rfl,t6,t7⟩,⟨fQ,rfl,yH,yI⟩,⟨sa10,rfl,hsa10⟩,⟨eD,rfl,UZ,U0⟩⟩
 refine r0 17 aa (bj [7,6,4,3,2,1,0] [4,3] aa aa (fun e0 b0 k VE B=>∃A z,an ((8,.d (dJ A))::(9,.d (dJ z))::e0) VE∧an b0 B∧k=((G.length:Int) -z).toNat∧(-1≤A∧A≤25)∧(0≤z∧(z≤(G.length:Int)∨z=0))) ?_ fin);rintro _ VE B⟨A,z,hV,hB,rfl,bU,cS⟩;refine aU _ _ hV hB (aA 6 aa (aQ aa M ?_));refine ro 2 aa ?_;refine ay aa ?_ ?_<;>intro g1
 ·refine rc 9 aa ?_;obtain⟨_,⟨U,rfl,tv,ve⟩,bS⟩:=qI z bQ;refine aV (aH aa aa O ae bS aa ?_);refine cJ aa aa (dy aa aa ?_);refine rq 3 aa ?_;refine dL aa ?_ ?_<;>intro g3
  ·refine rq 14 aa (bK aa (dF aa (bK aa (dF aa (bK aa (bK aa (dF aa (bK aa (dF aa ?_)))))))));exact bK aa (dF aa (bK aa (rq 2 aa (W))))
  refine rq 3 aa ?_;obtain⟨_,⟨sx4_0,rfl,hsx4_0⟩,dj⟩:=qI z cq;refine cl aa aa (aH aa aa M ae dj aa ?_);refine rq 3 aa (cl aa aa (kE aa aa ?_));refine rq 2 aa ?_;refine dL aa ?_ ?_<;>intro g6
  ·refine rq 4 aa (bK aa (dF aa (bK aa (dF aa (bK aa (bK aa (dF aa (bK aa (dF aa ?_)))))))));exact bK aa (dF aa (bK aa (rq 2 aa (W))))
  refine rq 2 aa (cl aa aa (kE (b:=[]) aa aa ?_));refine rq 1 aa ?_;refine dL aa ?_ ?_<;>intro g8
  ·refine rq 5 aa (cl aa aa (aH aa aa O ae bS aa ?_));refine rq 1 aa ?_;obtain⟨_,⟨sx9_0,rfl,hsx9_0⟩,fw⟩:=qI U bN;refine cl aa aa (aH aa aa cM ae fw aa ?_);refine rq 3 aa (cl aa aa (kE aa aa ?_));exact rq 2 aa (W)
  exact rq 14 aa (W)
 exact W
end Go.Ev.Rp
namespace Go.Ev.Rp
open Go Go.Ev.Pp
attribute [local irreducible] VC VO VQ VI Sound bY
theorem air{T:aM}(F:FT T){ne:Nat}{a0 a1 a2 a3 a4 a5 a6 a7:DC}(cP:(Ty.b).ok a0)(bV:(Ty.q (Bo xU ne)).ok a1)(cG:(Ty.q (AO ne)).ok a2){Z:ai}(eS:au Z a3)(fI:Z.length≤2)(et:af xV Z)(ca:(Ty.i .i64 (-1) 30).ok a4)(cj:(Ty.b).ok a5)(fi:(Ty.l 4 [.i .i64 0 ((ne:Int) -1)]).ok a6){wJ:ai}(Ei:au wJ a7)(Oo:wJ.length≤16)(Ej:af [.s 1000,.l 100 dV,.l 200 bn,.l 4 ep,.l 4 dT] wJ){gC:Int}(la8:(-9223372036854775808)≤gC)(ua8:gC≤9223372036854775807)(fP:ne≤30):Sound T 221 [.agg [.d a0,.d a1,.d a2,.d a3,.d a4,.d a5,.d a6],.d a7,.d (dJ gC),dB false] fun r=>∃y0 bw y2 dE y4 o4 y6,r= .tuple [.agg [.d y0,.d y2,.d y4],.d (dJ y6)]∧au bw y0∧(bw.length:Int)≤2∧af oG bw∧au dE y2∧(dE.length:Int)≤26∧af oG dE∧au o4 y4∧(o4.length:Int)≤26∧af [.i .i64 0 ((Z.length:Int) -1)] o4∧((-9223372036854775808)≤y6∧y6≤9223372036854775807∧(y6=0→(bw.length:Int)=Z.length∧o4.length=dE.length)):=by
 refine bm F.q221 aa ?_;rcases cP,Ty.bC bV,Ty.bC cG with⟨⟨YQ,rfl⟩,⟨bJ,cO,dn,cq⟩,⟨bo,ct,df,hqa2⟩⟩
 have bQ:=hqa2.1;rcases ca,cj,fi with⟨⟨bA,rfl,mW,mX⟩,⟨PE,rfl⟩,⟨gQ,gu,yP,iW⟩⟩
 refine r0 16 aa (ja 10 0 90 9 16 1 aa aa aa (ja 10 1 91 9 16 1 aa aa aa (ja 10 2 92 3 8 1 aa aa aa (bj [10,9,8,4,3,2,1,0] [8,4] aa aa (fun e0 b0 k VE B=>∃G A M O,an ((11,.d (dJ G))::e0) VE∧an ((10,.one 351 72 [.ac 90 A.length 1,.ac 91 M.length 1,.ac 92 O.length 1])::(90,.acc 9 16 1 A)::(91,.acc 9 16 1 M)::(92,.acc 3 8 1 O)::b0) B∧k=((Z.length:Int) -G).toNat∧(0≤G∧(G≤(Z.length:Int)∨G=0))∧((A.length:Int)≤G)∧(af oG A)∧((M.length:Int)≤13*G)∧(af oG M)∧((O.length:Int)≤13*G)∧(af [.i .i64 0 ((Z.length:Int) -1)] O)∧((A.length:Int)=G)∧(O.length=M.length)) ?_ fin))));rintro _ VE B⟨G,A,M,O,hV,hB,rfl,bU,cS,hrw10_0_0,mh,hrw10_1_0,yK,hrw10_2_0,akS,f0_8⟩;refine aU _ _ hV hB (aA 6 aa (aQ aa eS ?_));refine ro 2 aa ?_;refine ay aa ?_ ?_<;>intro g1
 ·refine rc 9 aa ?_;obtain⟨gW,jt,fH,iQ,gf,iq,lk,lC,bS⟩:=qI G et;refine aw (aH aa aa eS ae bS aa ?_);refine aN 4 aa (aB aa (visibleV (bz:=gC) F Ei ae Ej iQ ae ae) ?_);rintro _ _⟨lh,oL,_,rfl,Al,CY,vc,ahS,rfl⟩;refine ro 9 aa (rp 3 aa ?_);refine cE aa ?_ ?_<;>intro h4
  ·exact rc 3 aa (eH 39 90 aa aa dr (eH 39 91 aa aa dr (eH 39 92 aa aa dr (W))))
  refine aA 6 aa (aH aa aa eS ae bS aa ?_);refine ro 4 aa (dM [38,21,13,12,11,10,9,8,4,3,2,1,0] [92,91,90,10,8,4] aa aa (fun e0 b0 VE B=>∃TQ,an ((14,.d TQ)::e0) VE∧an b0 B∧((Ty.s 1000).ok TQ)) ?_ ?_)
  ·exact W
  rintro VE B⟨TQ,hV,hB,adQ⟩;refine aU _ _ hV hB (rc 6 aa (bj [38,21,14,13,12,11,10,9,8,4,3,2,1,0] [92,91,90,10,8,4] aa aa (fun e0 b0 k VE B=>∃Ni,an ((15,.d (dJ Ni))::e0) VE∧an b0 B∧d9 k 0 Ni (A.length:Int)) ?_ fin));rintro _ VE B⟨Ni,hV,hB,rfl,fu⟩;refine aU _ _ hV hB (rc 9 aa ?_);refine ay aa ?_ ?_<;>intro g7
  ·refine rc 8 aa ?_;obtain⟨j8,J',zo⟩:=bD (z:=Ni) (n:=A.length) ae ae;obtain⟨_,⟨sx8_0,rfl,hsx8_0⟩,iG⟩:=qN zo hrw10_0_0;refine aw (dk rfl (by rw[←J'];rfl) zo ?_);refine aw (fb (rows:=A) aa aa iG aa ?_);obtain⟨Y,rfl,hsv14_j4⟩:=Ty.bB adQ;refine aN 1 aa (pb aa aa ?_);refine ro 1 aa ?_;refine ay aa ?_ ?_<;>intro uw
   ·exact rc 3 aa (eH 68 90 aa aa dr (eH 68 91 aa aa dr (eH 68 92 aa aa dr (W))))
   exact W
  refine rc 3 aa ?_;obtain⟨Y,rfl,hsv14_j4⟩:=Ty.bB adQ;refine rp 4 aa ?_;refine aw (aY (rows:=A) (ys:=[[(aq Y)]]) rfl rfl rfl (.bs (rows:=[[(aq Y)]]) rfl) ao ae (fun h=>by rw[h];rfl) (fun h=>by rw[h];rfl) ?_);refine ro 8 aa (bj [58,38,21,15,14,13,12,11,10,9,8,4,3,2,1,0] [90,72,8,4] aa aa (fun e0 b0 k VE B=>∃U I L,an ((16,.d (dJ U))::e0) VE∧an ((10,.one 351 72 [.ac 90 (A++[[(aq Y)]]).length 1,.ac 91 I.length 1,.ac 92 L.length 1])::(91,.acc 9 16 1 I)::(92,.acc 3 8 1 L)::b0) B∧k=((oL.length:Int) -U).toNat∧(0≤U∧(U≤(oL.length:Int)∨U=0))∧((I.length:Int)≤13*G+U)∧(af oG I)∧((L.length:Int)≤13*G+U)∧(af [.i .i64 0 ((Z.length:Int) -1)] L)∧(L.length=I.length)) ?_ fin);rintro _ VE B⟨U,I,L,hV,hB,rfl,na,vW,hrw10_1_2,f2_3,hrw10_2_2,f2_5⟩;refine aU _ _ hV hB (aA 5 aa (aQ aa Al ?_));refine ro 2 aa ?_;refine ay aa ?_ ?_<;>intro lN
  ·refine rc 9 aa ?_;obtain⟨pC,lU,_,⟨agn,rfl,hsx12_1⟩,M5,As,gr⟩:=qI U vc;refine aV (aH aa aa Al ae gr aa ?_);refine rq 1 aa (cJ aa aa (dy aa aa ?_));refine rq 1 aa ?_;refine aP rfl (aY (rows:=I) (ys:=[[(aq agn)]]) rfl rfl rfl (.bs (rows:=[[(aq agn)]]) rfl) ao ae (fun h=>by rw[h];rfl) (fun h=>by rw[h];rfl) ?_);refine rq 8 aa ?_;refine aw (aY (rows:=L) (ys:=[[(dJ G)]]) rfl rfl rfl (.bs (rows:=[[(dJ G)]]) rfl) ao ae (fun h=>by rw[h];rfl) (fun h=>by rw[h];rfl) ?_);exact W
  exact W
 exact rc 4 aa (eH 97 90 aa aa dr (eH 97 91 aa aa dr (eH 97 92 aa aa dr (W))))
end Go.Ev.Rp
namespace Go.Ev.Rp
open Go Go.Ev.Pp
attribute [local irreducible] VC VO VQ VI Sound bY
theorem aaD{T:aM}(F:FT T){ne:Nat}{a0 a1 a2 a3 a4 a5 a6 a7 a8 a9:DC}(cP:(Ty.b).ok a0)(bV:(Ty.q (Bo xU ne)).ok a1)(cG:(Ty.q (AO ne)).ok a2){Z:ai}(eS:au Z a3)(fI:Z.length≤2)(et:af xV Z)(ca:(Ty.i .i64 (-1) 30).ok a4)(cj:(Ty.b).ok a5)(fi:(Ty.l 4 [.i .i64 0 ((ne:Int) -1)]).ok a6){O:ai}(Ei:au O a7)(Oo:O.length≤2)(Ej:af oG O){rA:ai}(lj:au rA a8)(t9:rA.length≤26)(lH:af oG rA){lO:ai}(fD:au lO a9)(Jj:lO.length≤26)(iA:af [.i .i64 0 ((O.length:Int) -1)] lO)(fP:ne≤30):Sound T 226 [.agg [.d a0,.d a1,.d a2,.d a3,.d a4,.d a5,.d a6],.agg [.d a7,.d a8,.d a9]] fun r=>∃y0 bw,r= .d y0∧au bw y0∧(bw.length:Int)≤26∧af oG bw:=by
 refine bm F.q226 aa ?_;rcases cP,Ty.bC bV,Ty.bC cG with⟨⟨YQ,rfl⟩,⟨bJ,U,dn,cq⟩,⟨bo,I,df,Y⟩⟩
 have bQ:=Y.1;rcases ca,cj,fi with⟨⟨bA,rfl,mW,mX⟩,⟨PE,rfl⟩,⟨gQ,gu,yP,iW⟩⟩
 refine ch 11 aa (aQ aa I ?_);refine ro 2 aa ?_;refine ay aa ?_ ?_<;>intro h1
 ·exact W
 refine rc 17 aa (dP 5 90 9 16 1 aa aa (bj [12,6,4,3,2,1,0] [6,3,2] aa aa (fun e0 b0 k VE B=>∃G A,an ((5,.ac 90 A.length 1)::(7,.d (dJ G))::e0) VE∧an ((90,.acc 9 16 1 A)::b0) B∧k=((bo.length:Int) -G).toNat∧(0≤G∧(G≤(bo.length:Int)∨G=0))∧((A.length:Int)≤G)∧(af oG A)) ?_ fin));rintro _ VE B⟨G,A,hV,hB,rfl,bU,cS,qw⟩;refine aU _ _ hV hB (aA 6 aa (aQ aa I ?_));refine ro 2 aa ?_;refine ay aa ?_ ?_<;>intro g2
 ·refine rc 8 aa ?_;obtain⟨_,⟨DD,rfl,LK,GD⟩,_,⟨HN,rfl,hzx3_1,kzx3_1⟩,_,⟨L,rfl,hsx3_2⟩,fJ⟩:=qI G bQ;have hi3:=qm.get Y fJ;refine aw (aH aa aa I ae fJ aa ?_);refine ro 7 aa (iD 2 aa (kE (b:=[]) aa aa ?_));refine ro 2 aa ?_;refine ay aa ?_ ?_<;>intro g5
  ·refine rc 5 aa ?_;refine aw (aY (rows:=A) (ys:=[[(aq L)]]) rfl rfl rfl (.bs (rows:=[[(aq L)]]) rfl) ao ae (fun h=>by rw[h];rfl) (fun h=>by rw[h];rfl) ?_);exact W
  refine rc 7 aa ?_;refine ay aa ?_ ?_<;>intro g6
  ·refine rc 4 aa ?_;obtain⟨j7,iZ,fx⟩:=bD (z:=DD) (n:=5) ae ae;refine aw (bG rfl (by rw[←iZ];rfl) fx ?_);obtain⟨m7,hm7,yX⟩:∃m:List UInt8,([.d (aq []),.d (aq [99,111,117,110,116]),.d (aq [115,117,109]),.d (aq [109,105,110]),.d (aq [109,97,120])]:List VV)[0+j7*1]?=some (.d (aq m))∧m.length≤5:=by
    rcases(by omega:j7=0∨j7=1∨j7=2∨j7=3∨j7=4) with rfl|rfl|rfl|rfl|rfl<;>exact⟨_,rfl,ao⟩
   refine aw (oe aa aa hm7 ?_);refine ro 1 aa ?_;refine aw (aY (rows:=A) (ys:=[[(aq m7)]]) rfl rfl rfl (.bs (rows:=[[(aq m7)]]) rfl) ao ae (fun h=>by rw[h];rfl) (fun h=>by rw[h];rfl) ?_);exact W
  refine rc 6 aa ?_;obtain⟨_,⟨HP,rfl,aeX,aeY⟩,WV,US,aka,ahI,x8_3,hx8_3,_,⟨M,rfl,hsx8_4⟩,x8_5,ais,x8_6,hx8_6,x8_7,hx8_7,iG⟩:=qI HN cq;refine aw (aH aa aa U ae iG aa ?_);refine ro 5 aa ?_;refine ay aa ?_ ?_<;>intro g9
  ·refine aA 6 aa (aH aa aa U ae iG aa ?_);refine ro 3 aa ?_;refine aw (aY (rows:=A) (ys:=[[(aq M)]]) rfl rfl rfl (.bs (rows:=[[(aq M)]]) rfl) ao ae (fun h=>by rw[h];rfl) (fun h=>by rw[h];rfl) ?_);exact W
  refine rc 3 aa ?_;refine aw (aY (rows:=A) (ys:=[[(aq [101,120,112,114])]]) rfl rfl rfl (.bs (rows:=[[(aq [101,120,112,114])]]) rfl) ao ae (fun h=>by rw[h];rfl) (fun h=>by rw[h];rfl) ?_);exact W
 exact rc 6 aa (cA 4 90 aa aa (fun _=>⟨aa,aa⟩) (W))
end Go.Ev.Rp
