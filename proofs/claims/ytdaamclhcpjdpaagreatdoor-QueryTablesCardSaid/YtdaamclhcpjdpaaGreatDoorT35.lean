/- Part 35 of walks through the code of a program. -/
import Derived.Test.YtdaamclhcpjdpaaGreatDoorT34
set_option linter.unusedVariables false
set_option linter.unusedSimpArgs false
noncomputable section
set_option maxRecDepth 100000
set_option maxHeartbeats 4000000
namespace Go.Ev.Rp
open Go Go.Ev.Pp
attribute [local irreducible] VC VO VQ VI Sound cF
theorem HoldC{T:aO}(F:FT T){P2 P5:Ty}{a1 a2 a4 a5 a6 a7 a8:DC}{aK:Int}(ld:0≤aK)(kR:aK≤40)(bX:tJ.ok a1)(cN:(P2).ok a2){bn:Int}(jG:0≤bn)(jH:bn≤aK){G:aj}(EW:0≤G.length)(OQ:G=[]→a4= .nil)(I:ao G a4)(fJ:G.length≤12)(M:af jx G)(cB:(P5).ok a5)(fE:(Ty.i .i64 0 4).ok a6)(fX:tJ.ok a7)(gq:tJ.ok a8)(Pm:P2.ok .nil)(gH:P5.ok .nil):Sound T 70 [.agg [.d (dJ aK),.d a1,.d a2,.d (dJ bn),.d a4,.d a5],.agg [.d a6,.d a7,.d a8]] fun r=>∃y0 y1 y2 y3 y4 O y6 y7,r= .tuple [.agg [.d (dJ y0),.d y1,.d y2,.d (dJ y3),.d y4,.d y6],.d (dJ y7)]∧(0≤y0∧y0≤40∧(True))∧tJ.ok y1∧(P2).ok y2∧(0≤y3∧y3≤40∧(True))∧ao O y4∧(O.length:Int)≤G.length+1∧af jx O∧0≤(O.length:Int)∧(O=[]→y4= .nil)∧(P5).ok y6∧((-9223372036854775808)≤y7∧y7≤9223372036854775807∧(y7=0→y0=aK∧y3=bn)):=by
 refine bg F.q70 aa ?_;rcases bX,fE,fX,gq with⟨⟨aH,rfl,ey,dW⟩,⟨bx,rfl,oe,og⟩,⟨dh,rfl,rS,rT⟩,⟨hY,rfl,zb,zc⟩⟩
 refine r0 14 aa ?_;refine bk aa ?_ ?_<;>intro h1
 ·exact W
 refine ro 2 aa (bw aa aa (aA aa (oQ F ai ai) ?_));rintro _ _⟨_,rfl,by2_0,rfl⟩;refine ro 3 aa ?_;refine cO aa ?_ ?_<;>intro h3
 ·exact W
 refine rc 11 aa (bd [16,5,4,3,2,1,0] [4,3,2] aa aa (fun e0 b0 k VE B=>∃L A,an ((6,.d (dJ L))::(7,.d (dJ A))::e0) VE∧an b0 B∧k=((G.length:Int) -A).toNat∧(0≤L∧L≤A)∧(0≤A∧(A≤(G.length:Int)∨A=0))) ?_ fin);rintro _ VE B⟨L,A,hV,hB,rfl,bR,cM⟩;refine aS _ _ hV hB (aB 6 aa (aM aa I ?_));refine ro 2 aa ?_;refine ax aa ?_ ?_<;>intro g4
 ·refine rc 9 aa ?_;obtain⟨_,⟨yk,rfl,xv,xw⟩,zi,vA,EN,DV,eQ⟩:=qI A M;refine aT (aF aa aa I ae eQ aa ?_);refine rq 1 aa (cr aa aa (c4 aa aa ?_));refine rq 4 aa ?_;refine ax aa ?_ ?_<;>intro h6
  ·exact W
  refine rc 6 aa (aT (aF aa aa I ae eQ aa ?_));refine rq 1 aa (cr aa aa (c4 aa aa ?_));exact W
 refine aB 6 aa (aM aa I ?_);refine ro 2 aa ?_;refine ax aa ?_ ?_<;>intro h8
 ·exact W
 refine rc 8 aa (aP aa (aA aa (ahr F bP bP bP ai I ae M bP) ?_));rintro _ _⟨Jl,agX,rfl,Y,aeD,Z⟩;have Om:af eC [[(dJ dh),(dJ hY)]]:=(cJ (ah ai (ah ai bf)) ca);refine R4 53 53 aa aa (fun _=>⟨aa,aa⟩) (aP aa (aA aa (IntSC F (.inl aa) ae Om Y ae Z) ?_));rintro _ _⟨qp,Tk,rfl,U,Ry,Rc⟩;refine aT (aM aa U ?_);refine rq 2 aa ?_;refine ax aa ?_ ?_<;>intro nA
 ·exact W
 refine rc 6 aa ?_;obtain⟨Fv,B6,Jx⟩:=bF (z:=L) (n:=G.length+1) ae ae;refine aT (eO (l:=0) (h:=Fv) rfl I M rfl OQ ⟨_,(by rw[←B6];rfl)⟩ rfl ae ae (fun d14 Ae hd14 OG hr14=>?_));refine aP aa (VI.fresh aa (dZ (ys:=Ae) 64 aa aa aa aa aa (.sD hd14 (cP hr14 aa)) au ae ?_));refine rq 2 aa (nL 2 aa (fun p15=>?_));refine Qw 2 aa trivial aa aa (aW (rows:=Ae) (ys:=[[(dJ bx),(dJ dh),(dJ hY)]]) aa aa aa (.bs (rows:=[[(dJ bx),(dJ dh),(dJ hY)]]) aa) au ae bW bW ?_);refine rq 1 aa (Qx aa aa trivial ⟨aa,trivial,trivial,trivial,trivial,trivial⟩ (VI.Ue (b:=2) aa (iP (b:=2) aa aa aa ?_)));refine rq 1 aa ?_;obtain⟨l5,rV,ud⟩:=bF (z:=L) (n:=G.length+1) ae ae;refine aT (eO (l:=l5) (h:=G.length) rfl I M rfl OQ rfl ⟨_,(by rw[←rV];rfl)⟩ ae ae (fun d17 zV BY Oy EO=>?_));refine aP aa (aW (rows:=(Ae++[[(dJ bx),(dJ dh),(dJ hY)]])) (ys:=zV) aa aa aa (.sD BY (cP EO aa)) au ae (fun h=>absurd h bh) (fun h=>absurd h bh) ?_);exact rq 1 aa (lk 72 64 aa aa (fun _=>⟨aa,aa⟩) (W))
end Go.Ev.Rp
namespace Go.Ev.Rp
open Go Go.Ev.Pp
attribute [local irreducible] VC VO VQ VI Sound cF
theorem ahs{T:aO}(F:FT T){L M O U Y Z a6 a7 a8 a9:DC}(z:tJ.ok L)(bX:(Ty.x).ok M)(cN:(Ty.x).ok O)(ch:(Ty.x).ok U)(bY:(Ty.x).ok Y)(cB:(Ty.x).ok Z)(A:tJ.ok a6)(G:tJ.ok a7)(I:tJ.ok a8)(jr:(Ty.x).ok a9):Sound T 127 [.agg [.d L,.d M,.d O,.d U,.d Y,.d Z],.agg [.d a6,.d a7,.d a8,.d a9]] fun r=>∃y0,r= .d y0∧tJ.ok y0:=by
 refine bg F.q127 aa ?_;rcases z,A,G,I with⟨⟨aK,rfl,gZ,hD⟩,⟨bx,rfl,oe,og⟩,⟨dh,rfl,rS,rT⟩,⟨hY,rfl,zb,zc⟩⟩
 exact W
theorem RetC{T:aO}(F:FT T){a0 a1 a2 a3 a4 a5 a6:DC}(O:tJ.ok a0)(bX:(Ty.x).ok a1)(cN:(Ty.x).ok a2)(U:tJ.ok a3){A:aj}(G:ao A a4)(fJ:A.length≤13)(M:af jx A)(cB:(Ty.x).ok a5)(Y:tJ.ok a6):Sound T 7 [.agg [.d a0,.d a1,.d a2,.d a3,.d a4,.d a5],.d a6] fun r=>∃y0,r= .d y0∧(Ty.b).ok y0:=by
 refine bg F.q7 aa ?_;rcases O,U,Y with⟨⟨aK,rfl,gZ,hD⟩,⟨bn,rfl,mB,mC⟩,⟨bx,rfl,oe,og⟩⟩
 refine r0 11 aa ?_;refine bk aa ?_ ?_<;>intro h1
 ·exact W
 refine ro 6 aa ?_;refine ax aa ?_ ?_<;>intro h2
 ·exact W
 refine rc 7 aa (bd [13,4,2,1,0] [2] aa aa (fun e0 b0 k VE B=>∃z,an ((5,.d (dJ z))::e0) VE∧an b0 B∧dT k 0 z (A.length:Int)) ?_ fin);rintro _ VE B⟨z,hV,hB,rfl,bR⟩;refine aS _ _ hV hB (aB 6 aa (aM aa G ?_));refine ro 2 aa ?_;refine ax aa ?_ ?_<;>intro g3
 ·refine rc 8 aa ?_;obtain⟨po,Z,fu,I,qE,L,cZ⟩:=qI z M;refine aw (aF aa aa G ae cZ aa ?_);refine aJ 3 aa (aA aa (M9 F I L ai) ?_);rintro _ _⟨gM,rfl,kS⟩;exact W
 exact W
theorem IsDayC{T:aO}(F:FT T){A:DC}(z:tJ.ok A):Sound T 212 [.d A] fun r=>∃G,r= .d G∧(Ty.b).ok G:=by
 refine bg F.q212 aa ?_;obtain⟨aK,rfl,I,L⟩:=z;exact W
theorem usableC{T:aO}(F:FT T){Y Z a2 a3 a4 a5:DC}(z:tJ.ok Y)(A:(Ty.l 1000000000 cn).ok Z)(G:tJ.ok a2)(I:tJ.ok a3)(L:tJ.ok a4)(M:tJ.ok a5):Sound T 124 [.agg [.d Y,.d Z,.d a2,.d a3,.d a4,.d a5]] fun r=>∃y0,r= .d y0∧(Ty.b).ok y0:=by
 refine bg F.aiM aa ?_;rcases z,A,G,I,L,M with⟨⟨aK,rfl,gZ,hD⟩,⟨bN,cW,dg,cq⟩,⟨bA,rfl,lN,lO⟩,⟨bn,rfl,mB,mC⟩,⟨bT,rfl,oj,om⟩,⟨bO,rfl,oo,oq⟩⟩
 refine cf 9 aa (aA aa (G3 F ai ai) ?_);rintro _ _⟨_,rfl,O,rfl⟩;refine ro 1 aa ?_;refine bk aa ?_ ?_<;>intro h2
 ·refine ro 2 aa (bw aa aa (aA aa (oQ F ai ai) ?_));rintro _ _⟨jX,rfl,U⟩;exact W
 exact W
end Go.Ev.Rp
namespace Go.Ev.Rp
open Go Go.Ev.Pp
attribute [local irreducible] VC VO VQ VI Sound cF
theorem aht{T:aO}(F:FT T){X:List Int}{P:DC→Prop}{a0 a1 a2 a3:DC}(cC:(Ty.q (P)).ok a0)(bX:(Ty.q (fi X)).ok a1)(cN:(Ty.q (P)).ok a2)(ch:(Ty.q (fi X)).ok a3)(hX:X.length≤2000000)(hP:∀d,P d→∃w,ao w d∧w.length≤1000000000∧af cn w):Sound T 429 [.agg [.d a0,.d a1],.agg [.d a2,.d a3]] fun r=>∃y0,r= .d y0∧(Ty.b).ok y0:=by
 refine bg F.ai0 aa ?_;obtain⟨bV,G,cI,I⟩:=hP _ (Ty.bE cC);obtain⟨bN,L,z⟩:=Ty.bE bX;have M:=z.1;have dg:=cH.len z;obtain⟨bu,O,cX,U⟩:=hP _ (Ty.bE cN);obtain⟨da,Y,A⟩:=Ty.bE ch;have Z:=A.1;have fe:=cH.len A;refine cf 12 aa (aA aa (yl F (aL G ae I) (aL O ae U)) ?_);rintro _ _⟨_,rfl,agH,rfl,Su,Sv⟩;refine ro 4 aa (rp 3 aa ?_);refine bk aa ?_ ?_<;>intro h2
 ·exact W
 refine ro 3 aa ?_;refine bk aa ?_ ?_<;>intro g3
 ·refine ro 4 aa (bw aa aa (aA aa (agF F L ae M Y ae Z) ?_));rintro _ _⟨gh,rfl,qf⟩;exact W
 exact W
theorem sortP_{T:aO}{X:List Int}{P:DC→Prop}(F:FT T)(hX:X.length≤2000000)(hP:∀d,P d→∃w,ao w d∧w.length≤1000000000∧af cn w)(N:Nat):∀{a0:DC}{O:aj}(Z:ao O a0)(cI:O.length≤1000000000)(bJ:af [.q (P),.q (fi X)] O)(hN:O.length≤N),Sound T 334 [.d a0] fun r=>∃(y0:DC)(br:aj),r= .d y0∧ao br y0∧(br.length:Int)≤O.length∧af [.q (P),.q (fi X)] br∧0≤(br.length:Int)∧(br=[]→y0= .nil):=by
 induction N using Nat.strongRecOn with
 |_ N ih=>
 intro a0 O Z cI bJ hN;refine bg F.aiW aa (cf 8 aa (aM aa Z ?_));refine ro 2 aa ?_;refine ax aa ?_ ?_<;>intro g1
 ·refine aB 3 aa (dZ (ys:=O) 12 aa aa aa aa aa (.sD Z (cP bJ aa)) au ae ?_);exact ro 2 aa (cl 2 12 aa aa (fun _=>⟨aa,aa⟩) (W))
 refine rc 5 aa (aT (aM aa Z ?_));refine aT (xl aa aa aa aa ae ae ae au ?_);obtain⟨j2,sw,pI⟩:=bF (z:=((O.length:Int)/2)) (n:=O.length+1) ae ae;refine aT (eO (l:=0) (h:=j2) rfl Z bJ rfl (ta ae) ⟨_,(by rw[←sw];rfl)⟩ rfl ae ae (fun d3 w3 XQ J9 XR=>?_));refine aP aa (aA aa (ih (w3).length ae XQ ae XR (bt _)) ?_);rintro _ _⟨gh,lE,rfl,A,va,U,AV,AW⟩;refine c7 2 aa (aM aa Z ?_);refine aT (xl aa aa aa aa ae ae ae au ?_);obtain⟨j5,CG,CH⟩:=bF (z:=((O.length:Int)/2)) (n:=O.length+1) ae ae;refine aT (eO (l:=j5) (h:=O.length) rfl Z bJ rfl (ta ae) rfl ⟨_,(by rw[←CG];rfl)⟩ ae ae (fun d6 w6 XS XT XU=>?_));refine aP aa (aA aa (ih (w6).length ae XS ae XU (bt _)) ?_);rintro _ _⟨nf,yj,rfl,G,L9,Y,Sp,ael⟩;refine rq 14 aa (de 5 90 82 48 2 aa aa (bd [10,4,3,2,0] [] aa aa (fun e0 b0 k VE B=>∃L M I,an ((5,.ac 90 I.length 2)::(6,.d (dJ L))::(7,.d (dJ M))::e0) VE∧an ((90,.acc 82 48 2 I)::b0) B∧k=((lE.length:Int)+yj.length-L-M).toNat∧(0≤L∧L≤(lE.length:Int))∧(0≤M∧M≤(yj.length:Int))∧((I.length:Int)≤L+M)∧(af [.q (P),.q (fi X)] I)) ?_ fin));rintro _ VE B⟨L,M,I,hV,hB,rfl,bR,cM,rQ,p9⟩;refine aS _ _ hV hB (aB 5 aa (aM aa A ?_));refine ro 2 aa ?_;refine bk aa ?_ ?_<;>intro g8
 ·refine ro 6 aa (eM aa aa (rc 6 aa (aT (aM aa G ?_))));refine rq 2 aa ?_;refine dK aa ?_ ?_<;>intro g9
  ·refine rq 5 aa (bL aa (bL aa (bL aa (dA aa (bL aa (bL aa (bL aa (dA aa (dA aa ?_)))))))));refine bL aa (rq 3 aa (eM aa aa (rc 5 aa ?_)));obtain⟨nY,qa,rI,AX,hJ⟩:=qI L U;refine aw (aF aa aa A ae hJ aa ?_);obtain⟨aem,abR,abS,abT⟩:=hP _ (Ty.bE qa);obtain⟨wx10_1,hdx10_1,acQ⟩:=Ty.bE AX;have hrx10_1:=acQ.1;have hnx10_1:=cH.len acQ;refine ro 2 aa ?_;refine aw (aW (rows:=I) (ys:=[[nY,rI]]) rfl rfl rfl (.bs (rows:=[[nY,rI]]) rfl) au ae (fun h=>by rw[h];rfl) (fun h=>by rw[h];rfl) ?_);exact W
  refine rq 2 aa (cb aa aa (aM aa A ?_));refine rq 2 aa ?_;refine dK aa ?_ ?_<;>intro l7
  ·refine rq 2 aa ?_;obtain⟨qh,nO,tm,xH,iY⟩:=qI M Y;refine cb aa aa (aF aa aa G ae iY aa ?_);refine rq 3 aa ?_;obtain⟨ql,nP,Bs,S4,lQ⟩:=qI L U;refine cb aa aa (aF aa aa A ae lQ aa ?_);refine rq 1 aa (eD aa aa aa (aA aa (aht (X:=X) (P:=P) F nO xH nP S4 ae hP) ?_));rintro _ _⟨_,rfl,by14_0,rfl⟩;refine rq 4 aa ?_;refine cO aa ?_ ?_<;>intro Km
   ·refine aB 5 aa (aF aa aa A ae lQ aa ?_);obtain⟨wx13_0,hdx13_0,hnx13_0,hrx13_0⟩:=hP _ (Ty.bE nP);obtain⟨aeo,Ln,acR⟩:=Ty.bE S4;have Lo:=acR.1;have abX:=cH.len acR;refine ro 2 aa ?_;refine aw (aW (rows:=I) (ys:=[[ql,Bs]]) rfl rfl rfl (.bs (rows:=[[ql,Bs]]) rfl) au ae (fun h=>by rw[h];rfl) (fun h=>by rw[h];rfl) ?_);exact W
   refine aB 5 aa (aF aa aa G ae iY aa ?_);obtain⟨aep,Rd,abY,abZ⟩:=hP _ (Ty.bE nO);obtain⟨aen,abU,acS⟩:=Ty.bE xH;have abW:=acS.1;have abV:=cH.len acS;refine ro 2 aa ?_;refine aw (aW (rows:=I) (ys:=[[qh,tm]]) rfl rfl rfl (.bs (rows:=[[qh,tm]]) rfl) au ae (fun h=>by rw[h];rfl) (fun h=>by rw[h];rfl) ?_);exact W
  refine rq 13 aa (dc aa aa (rc 5 aa ?_));obtain⟨D4,aeI,Bt,SW,B4⟩:=qI M Y;refine aw (aF aa aa G ae B4 aa ?_);obtain⟨wx16_0,hdx16_0,hnx16_0,hrx16_0⟩:=hP _ (Ty.bE aeI);obtain⟨wx16_1,hdx16_1,acT⟩:=Ty.bE SW;have hrx16_1:=acT.1;have hnx16_1:=cH.len acT;refine ro 2 aa ?_;refine aw (aW (rows:=I) (ys:=[[D4,Bt]]) rfl rfl rfl (.bs (rows:=[[D4,Bt]]) rfl) au ae (fun h=>by rw[h];rfl) (fun h=>by rw[h];rfl) ?_);exact W
 refine ro 2 aa (bw aa aa (aM aa G ?_));refine ro 3 aa ?_;refine ax aa ?_ ?_<;>intro su
 ·refine rc 6 aa (aT (aM aa G ?_));refine rq 2 aa ?_;refine dK aa ?_ ?_<;>intro sv
  ·refine rq 5 aa (bL aa (bL aa (bL aa (dA aa (bL aa (bL aa (bL aa (dA aa (dA aa ?_)))))))));refine bL aa (rq 3 aa (eM aa aa (rc 5 aa ?_)));obtain⟨yn,G6,D5,aeJ,nh⟩:=qI L U;refine aw (aF aa aa A ae nh aa ?_);obtain⟨wx19_0,hdx19_0,hnx19_0,hrx19_0⟩:=hP _ (Ty.bE G6);obtain⟨wx19_1,hdx19_1,acU⟩:=Ty.bE aeJ;have hrx19_1:=acU.1;have hnx19_1:=cH.len acU;refine ro 2 aa ?_;refine aw (aW (rows:=I) (ys:=[[yn,D5]]) rfl rfl rfl (.bs (rows:=[[yn,D5]]) rfl) au ae (fun h=>by rw[h];rfl) (fun h=>by rw[h];rfl) ?_);exact W
  refine rq 2 aa (cb aa aa (aM aa A ?_));refine rq 2 aa ?_;refine dK aa ?_ ?_<;>intro XV
  ·refine rq 2 aa ?_;obtain⟨vC,vc,tn,AZ,lR⟩:=qI M Y;refine cb aa aa (aF aa aa G ae lR aa ?_);refine rq 3 aa ?_;obtain⟨mq,p',mr,s0,wa⟩:=qI L U;refine cb aa aa (aF aa aa A ae wa aa ?_);refine rq 1 aa (eD aa aa aa (aA aa (aht (X:=X) (P:=P) F vc AZ p' s0 ae hP) ?_));rintro _ _⟨_,rfl,by23_0,rfl⟩;refine rq 4 aa ?_;refine cO aa ?_ ?_<;>intro sr
   ·refine aB 5 aa (aF aa aa A ae wa aa ?_);obtain⟨Mi,Lq,Re,Lr⟩:=hP _ (Ty.bE p');obtain⟨Mh,Gs,acV⟩:=Ty.bE s0;have Gt:=acV.1;have Lp:=cH.len acV;refine ro 2 aa ?_;refine aw (aW (rows:=I) (ys:=[[mq,mr]]) rfl rfl rfl (.bs (rows:=[[mq,mr]]) rfl) au ae (fun h=>by rw[h];rfl) (fun h=>by rw[h];rfl) ?_);exact W
   refine aB 5 aa (aF aa aa G ae lR aa ?_);obtain⟨wx21_0,hdx21_0,hnx21_0,hrx21_0⟩:=hP _ (Ty.bE vc);obtain⟨wx21_1,ab0,acW⟩:=Ty.bE AZ;have ab1:=acW.1;have hnx21_1:=cH.len acW;refine ro 2 aa ?_;refine aw (aW (rows:=I) (ys:=[[vC,tn]]) rfl rfl rfl (.bs (rows:=[[vC,tn]]) rfl) au ae (fun h=>by rw[h];rfl) (fun h=>by rw[h];rfl) ?_);exact W
  refine rq 13 aa (dc aa aa (rc 5 aa ?_));obtain⟨D7,aeY,D8,S8,wb⟩:=qI M Y;refine aw (aF aa aa G ae wb aa ?_);obtain⟨wx25_0,hdx25_0,hnx25_0,hrx25_0⟩:=hP _ (Ty.bE aeY);obtain⟨wx25_1,hdx25_1,acX⟩:=Ty.bE S8;have hrx25_1:=acX.1;have hnx25_1:=cH.len acX;refine ro 2 aa ?_;refine aw (aW (rows:=I) (ys:=[[D7,D8]]) rfl rfl rfl (.bs (rows:=[[D7,D8]]) rfl) au ae (fun h=>by rw[h];rfl) (fun h=>by rw[h];rfl) ?_);exact W
 exact rc 6 aa (cl 2 90 aa aa (fun _=>⟨aa,aa⟩) (W))
theorem ahu{T:aO}(F:FT T){X:List Int}{P:DC→Prop}{O:DC}{A:aj}(G:ao A O)(I:A.length≤1000000000)(L:af [.q (P),.q (fi X)] A)(U:X.length≤2000000)(Y:∀d,P d→∃w,ao w d∧w.length≤1000000000∧af cn w):Sound T 334 [.d O] fun r=>∃M z,r= .d M∧ao z M∧(z.length:Int)≤A.length∧af [.q (P),.q (fi X)] z∧0≤(z.length:Int)∧(z=[]→M= .nil):=sortP_ F U Y _ G I L (bt _)
theorem U'{T:aO}(F:FT T){X:List Int}{m:Nat}{Y:DC}{A:aj}(G:ao A Y)(I:A.length≤1000000000)(L:af (dL X m) A)(Z:X.length≤2000000)(hm:m≤100000000):Sound T 334 [.d Y] fun r=>∃M z,r= .d M∧ao z M∧(z.length:Int)≤A.length∧af (dL X m) z∧0≤(z.length:Int)∧(z=[]→M= .nil):=Sound.mono (ahu (P:=(Ty.l m cn).ok) F G I (rowP_of L) Z (fun d h=>by obtain⟨w,O,h2,U⟩:=Ty.aL h;exact⟨w,O,eZ h2 ae,U⟩)) fun r hp=>by
 obtain⟨M,z,O,h2,U,h4,h5,h6⟩:=hp;exact⟨M,z,O,h2,U,rowW_of h4,h5,h6⟩
theorem multM{T:aO}(F:FT T){X:List Int}{m:Nat}{a0 a1:DC}{G:aj}(M:ao G a0)(cI:G.length≤1000000000)(U:af (dL X m) G){O:aj}(Y:ao O a1)(dg:O.length≤1000000000)(Z:af cn O)(hX:X.length≤2000000)(hm:m≤100000000):Sound T 520 [.d a0,.d a1] fun r=>∃y0,r= .d y0∧(Ty.i .i64 0 1000000000).ok y0:=by
 refine bg F.q520 aa (r0 14 aa (bd [4,1,0] [] aa aa (fun e0 b0 k VE B=>∃A z,an ((5,.d (dJ A))::(6,.d (dJ z))::e0) VE∧an b0 B∧k=((G.length:Int) -z).toNat∧(0≤A∧A≤z)∧(0≤z∧(z≤(G.length:Int)∨z=0))) ?_ fin));rintro _ VE B⟨A,z,hV,hB,rfl,bR,cM⟩;refine aS _ _ hV hB (aB 5 aa (aM aa M ?_));refine ro 2 aa ?_;refine ax aa ?_ ?_<;>intro g1
 ·refine rc 7 aa ?_;obtain⟨gm,⟨qn,I,xI,L⟩,ff,iW,bM⟩:=qI z U;refine aw (aF aa aa M ae bM aa ?_);refine aJ 3 aa (aA aa (yl F (aL I ae L) (aL Y ae Z)) ?_);rintro _ _⟨jX,rfl,lC⟩;exact W
 exact W
theorem UnionM{T:aO}(F:FT T){X:List Int}{m:Nat}{U Y:DC}{z:aj}(I:ao z U)(Z:z.length≤4096)(L:af (dL X m) z){A:aj}(M:ao A Y)(dg:A.length≤4096)(O:af (dL X m) A)(hX:X.length≤2000000)(hm:m≤100000000):Sound T 330 [.d U,.d Y] fun r=>∃y0 G,r= .d y0∧ao G y0∧(G.length:Int)≤8192∧af (dL X m) G:=by
 refine bg F.q330 aa (cf 7 aa (dZ (ys:=z) 6 aa aa aa aa aa (.sD I (cP L aa)) au ae ?_));refine ro 1 aa ?_;refine aw (aW (rows:=z) (ys:=A) rfl rfl rfl (.sD M (cP O rfl)) au ae (fun h=>by rw[h];rfl) (fun h=>by rw[h];rfl) ?_);exact ro 2 aa (cl 4 6 aa aa (fun _=>⟨aa,aa⟩) (W))
theorem SelectX{T:aO}(F:FT T){X:List Int}{m:Nat}{a0 a1 a2:DC}{I:aj}(U:ao I a0)(cI:I.length≤1000000000)(bJ:af (dL X m) I){bN:aj}(cW:ao bN a1)(dg:bN.length≤200)(cq:af eB bN)(cN:tJ.ok a2)(hX:X.length≤2000000)(hm:m≤100000000):Sound T 327 [.d a0,.d a1,.d a2] fun r=>∃y0 L,r= .d y0∧ao L y0∧(L.length:Int)≤I.length∧af (dL X m) L∧0≤(L.length:Int)∧(L=[]→y0= .nil):=by
 refine bg F.q327 aa ?_;obtain⟨bA,rfl,lN,lO⟩:=cN;refine cf 12 aa (aM aa U ?_);refine ro 3 aa (de 7 90 82 48 2 aa aa (bd [11,10,6,2,1,0] [] aa aa (fun e0 b0 k VE B=>∃z A,an ((7,.ac 90 A.length 2)::(12,.d (dJ z))::e0) VE∧an ((90,.acc 82 48 2 A)::b0) B∧k=((I.length:Int) -z).toNat∧(0≤z∧(z≤(I.length:Int)∨z=0))∧((A.length:Int)≤z)∧(af (dL X m) A)) ?_ fin));rintro _ VE B⟨z,A,hV,hB,rfl,bR,cM,G9⟩;refine aS _ _ hV hB (rc 5 aa ?_);refine ax aa ?_ ?_<;>intro g1
 ·refine rc 5 aa ?_;obtain⟨Y,⟨qn,M,xI,O⟩,Z,iW,bM⟩:=qI z bJ;refine aw (aF aa aa U ae bM aa ?_);refine aJ 10 aa (aA aa (Bw F cW ae cq ai M ae O) ?_);rintro _ _⟨jX,zh,EM,rfl,lC,Br,ye⟩;refine aw (aA aa (ym F lC Br ye) ?_);rintro _ _⟨_,rfl,ahi,rfl⟩;refine ro 1 aa ?_;refine cO aa ?_ ?_<;>intro h5
  ·refine rc 1 aa ?_;obtain⟨jy,ia,G⟩:=Ty.bE iW;have gk:=G.1;have jg:=cH.len G;refine rp 3 aa ?_;refine aw (aW (rows:=A) (ys:=[[Y,Z]]) rfl rfl rfl (.bs (rows:=[[Y,Z]]) rfl) au ae (fun h=>by rw[h];rfl) (fun h=>by rw[h];rfl) ?_);exact W
  exact W
 exact rc 6 aa (cl 6 90 aa aa (fun _=>⟨aa,aa⟩) (W))
end Go.Ev.Rp
namespace Go.Ev.Rp
open Go Go.Ev.Pp
attribute [local irreducible] VC VO VQ VI Sound cF
theorem AsOfX{T:aO}(F:FT T){X:List Int}{a0 a1:DC}{U:aj}(cg:ao U a0)(cI:U.length≤100000)(bJ:af (Uk X) U)(bX:tJ.ok a1)(hX:X.length≤2000000):Sound T 64 [.d a0,.d a1] fun r=>∃y0 Y,r= .d y0∧ao Y y0∧(Y.length:Int)≤100000∧af (MY X) Y∧0≤(Y.length:Int)∧(Y=[]→y0= .nil):=by
 refine bg F.q64 aa ?_;obtain⟨aH,rfl,ey,dW⟩:=bX;refine cf 12 aa (aM aa cg ?_);refine ro 3 aa (de 5 90 148 64 4 aa aa (bd [9,8,4,1,0] [] aa aa (fun e0 b0 k VE B=>∃z A,an ((5,.ac 90 A.length 4)::(10,.d (dJ z))::e0) VE∧an ((90,.acc 148 64 4 A)::b0) B∧k=((U.length:Int) -z).toNat∧(0≤z∧(z≤(U.length:Int)∨z=0))∧((A.length:Int)≤z)∧(af (MY X) A)) ?_ fin));rintro _ VE B⟨z,A,hV,hB,rfl,bR,cM,p9⟩;refine aS _ _ hV hB (rc 5 aa ?_);refine ax aa ?_ ?_<;>intro g1
 ·refine rc 5 aa ?_;obtain⟨gm,gx,Z,⟨jy,M,jg,O⟩,fg,fT,jB,iV,pn,mX,I9,yh,bM⟩:=qI z bJ;refine aw (aF aa aa cg ae bM aa ?_);refine ro 7 aa ?_;obtain⟨G,rfl,mT,hqx2_0⟩:=Ty.bE gx;refine aw (aA aa (usableC F ai (aL M ae O) fT iV mX yh) ?_);rintro _ _⟨_,rfl,Bu,rfl⟩;refine ro 1 aa ?_;refine bk aa ?_ ?_<;>intro h4
  ·refine ro 3 aa (bw aa aa (aA aa (M9 F mX yh ai) ?_));rintro _ _⟨_,rfl,Na,rfl⟩;refine ro 2 aa ?_;refine cO aa ?_ ?_<;>intro h6
   ·refine rc 9 aa ?_;have wL:af bc [[(dJ G)]]:=(cJ (ah ai bf) ca);refine eV 29 29 aa aa (fun _=>⟨aa,aa⟩) ?_;rcases Ty.dP fT,Ty.dP iV with⟨⟨I,rfl,xx,xz⟩,⟨L,rfl,L2,L3⟩⟩
    refine ro 2 aa ?_;refine aw (aW (rows:=A) (ys:=[[Z,(dJ I),(dJ L),(.sl [[(dJ G)]])]]) rfl rfl rfl (.bs (rows:=[[Z,(dJ I),(dJ L),(.sl [[(dJ G)]])]]) rfl) au ae (fun h=>by rw[h];rfl) (fun h=>by rw[h];rfl) ?_);refine aJ 3 aa (bB aa aa ae ae ?_);exact cA 2 aa (⟨((U.length:Int) -((z+1))).toNat,ae,(z+1),(A++[[Z,(dJ I),(dJ L),(.sl [[(dJ G)]])]]),⟨aa,aa,aa,aa,aa,aa,aa,trivial⟩,⟨aa,trivial⟩,aa,ae,cE,(df p9 (c9 (ah (aL M ae O) (ah ai (ah ai (ah (bE (fi.one hqx2_0 mT)) bf))))))⟩)
   exact W
  exact W
 exact rc 6 aa (cl 4 90 aa aa (fun _=>⟨aa,aa⟩) (W))
theorem TAsX{T:aO}(F:FT T){X:List Int}{a0 a1:DC}{G:aj}(U:ao G a0)(cI:G.length≤16)(bJ:af (Ul X) G)(bX:tJ.ok a1)(hX:X.length≤2000000):Sound T 31 [.d a0,.d a1] fun r=>∃y0 I,r= .d y0∧ao I y0∧(I.length:Int)≤16∧af (MZ X) I∧0≤(I.length:Int)∧(I=[]→y0= .nil):=by
 refine bg F.q31 aa ?_;obtain⟨aH,rfl,ey,dW⟩:=bX;refine cf 12 aa (aM aa U ?_);refine ro 3 aa (de 5 90 87 64 3 aa aa (bd [9,8,4,1,0] [] aa aa (fun e0 b0 k VE B=>∃z A,an ((5,.ac 90 A.length 3)::(10,.d (dJ z))::e0) VE∧an ((90,.acc 87 64 3 A)::b0) B∧k=((G.length:Int) -z).toNat∧(0≤z∧(z≤(G.length:Int)∨z=0))∧((A.length:Int)≤z)∧(af (MZ X) A)) ?_ fin));rintro _ VE B⟨z,A,hV,hB,rfl,bR,cM,p9⟩;refine aS _ _ hV hB (rc 5 aa ?_);refine ax aa ?_ ?_<;>intro g1
 ·refine rc 5 aa ?_;obtain⟨_,⟨L,rfl,rm⟩,Y,⟨jy,ia,jg,gk⟩,fg,⟨yg,M,p5,O⟩,bM⟩:=qI z bJ;refine aw (aF aa aa U ae bM aa ?_);refine ro 11 aa (aP aa (aA aa (AsOfX (X:=X) F M ae O ai ae) ?_));rintro _ _⟨Z,nW,rfl,rn,AN,p0,GS,L7⟩;refine rq 2 aa ?_;refine aP rfl (aW (rows:=A) (ys:=[[(al L),Y,Z]]) rfl rfl rfl (.bs (rows:=[[(al L),Y,Z]]) rfl) au ae (fun h=>by rw[h];rfl) (fun h=>by rw[h];rfl) ?_);exact W
 exact rc 6 aa (cl 4 90 aa aa (fun _=>⟨aa,aa⟩) (W))
theorem TimeX{T:aO}(F:FT T){X:List Int}{a0 a1:DC}{I:aj}(O:ao I a0)(cI:I.length≤100000)(bJ:af (MY X) I)(bX:tJ.ok a1)(hX:X.length≤2000000):Sound T 335 [.d a0,.d a1] fun r=>∃y0 L,r= .d y0∧ao L y0∧(L.length:Int)≤I.length∧af (dL X 13) L∧0≤(L.length:Int)∧(L=[]→y0= .nil):=by
 refine bg F.q335 aa ?_;obtain⟨aH,rfl,ey,dW⟩:=bX;refine cf 12 aa (aM aa O ?_);refine ro 3 aa (de 5 90 82 48 2 aa aa (bd [9,8,4,1,0] [] aa aa (fun e0 b0 k VE B=>∃z A,an ((5,.ac 90 A.length 2)::(10,.d (dJ z))::e0) VE∧an ((90,.acc 82 48 2 A)::b0) B∧k=((I.length:Int) -z).toNat∧(0≤z∧(z≤(I.length:Int)∨z=0))∧((A.length:Int)≤z)∧(af (dL X 13) A)) ?_ fin));rintro _ VE B⟨z,A,hV,hB,rfl,bR,cM,M⟩;refine aS _ _ hV hB (rc 5 aa ?_);refine ax aa ?_ ?_<;>intro g1
 ·refine rc 5 aa ?_;obtain⟨U,⟨qn,Hk,xI,A1⟩,ff,Z,fg,fT,Y,iV,bM⟩:=qI z bJ;refine aw (aF aa aa O ae bM aa ?_);refine aJ 9 aa (aA aa (M9 F Z fT ai) ?_);rintro _ _⟨_,rfl,Bu,rfl⟩;refine ro 1 aa ?_;refine cO aa ?_ ?_<;>intro h4
  ·refine rc 1 aa ?_;obtain⟨DT,uY,G⟩:=Ty.bE iV;have ru:=G.1;have Dx:=cH.len G;refine rp 7 aa ?_;refine aw (aW (rows:=A) (ys:=[[U,Y]]) rfl rfl rfl (.bs (rows:=[[U,Y]]) rfl) au ae (fun h=>by rw[h];rfl) (fun h=>by rw[h];rfl) ?_);exact W
  exact W
 refine rc 1 aa (cl 5 90 aa aa (fun _=>⟨aa,aa⟩) (aB 3 aa (aA aa (U' (X:=X) (m:=13) F (.acc _) ae M ae ae) ?_)));rintro _ _⟨gM,gV,rfl,lu,pZ,kr,ry,sZ⟩;exact W
theorem rowsOnX{T:aO}(F:FT T){X:List Int}{a0 a1:DC}{G:aj}(I:ao G a0)(cI:G.length≤16)(bJ:af (MZ X) G)(bX:tJ.ok a1)(hX:X.length≤2000000):Sound T 216 [.d a0,.d a1] fun r=>∃y0 L,r= .d y0∧ao L y0∧(L.length:Int)≤16∧af (Ib X) L∧0≤(L.length:Int)∧(L=[]→y0= .nil):=by
 refine bg F.q216 aa ?_;obtain⟨aH,rfl,ey,dW⟩:=bX;refine r0 14 aa (de 5 90 223 64 3 aa aa (bd [4,1,0] [] aa aa (fun e0 b0 k VE B=>∃z A,an ((5,.ac 90 A.length 3)::(6,.d (dJ z))::e0) VE∧an ((90,.acc 223 64 3 A)::b0) B∧k=((G.length:Int) -z).toNat∧(0≤z∧(z≤(G.length:Int)∨z=0))∧((A.length:Int)≤z)∧(af (Ib X) A)) ?_ fin));rintro _ VE B⟨z,A,hV,hB,rfl,bR,cM,p9⟩;refine aS _ _ hV hB (aB 5 aa (aM aa I ?_));refine ro 2 aa ?_;refine ax aa ?_ ?_<;>intro g1
 ·refine rc 7 aa ?_;obtain⟨_,⟨M,rfl,rm⟩,Y,⟨jy,ia,jg,gk⟩,fg,⟨yg,O,p5,U⟩,bM⟩:=qI z bJ;refine aT (aF aa aa I ae bM aa ?_);refine rq 1 aa (cr aa aa (gr aa (aV aa) (aV aa) ?_));refine c7 2 aa (aF aa aa I ae bM aa ?_);refine rq 1 aa (cr aa aa (c4 aa aa ?_));refine rq 1 aa (aP aa (aA aa (TimeX (X:=X) F O ae U ai ae) ?_));rintro _ _⟨Z,nW,rfl,rn,AN,p0,GS,L7⟩;refine rq 2 aa ?_;refine aP rfl (aW (rows:=A) (ys:=[[(al M),Y,Z]]) rfl rfl rfl (.bs (rows:=[[(al M),Y,Z]]) rfl) au ae (fun h=>by rw[h];rfl) (fun h=>by rw[h];rfl) ?_);exact W
 exact rc 6 aa (cl 4 90 aa aa (fun _=>⟨aa,aa⟩) (W))
end Go.Ev.Rp
namespace Go.Ev.Rp
open Go Go.Ev.Pp
attribute [local irreducible] VC VO VQ VI Sound cF
theorem valuesC{T:aO}(F:FT T){a0 a1 a2:DC}{Y:aj}(cg:ao Y a0)(cI:Y.length≤200)(bJ:af eB Y){G:aj}(U:ao G a1)(dg:G.length≤1000000000)(cq:af bc G){Z:aj}(cu:ao Z a2)(cX:Z.length≤1000000000)(bS:af cn Z):Sound T 425 [.d a0,.d a1,.d a2] fun r=>∃y0 I,r= .d y0∧ao I y0∧(I.length:Int)≤G.length∧af cn I∧0≤(I.length:Int)∧(I=[]→y0= .nil):=by
 refine bg F.aiZ aa (cf 12 aa (aM aa U ?_));refine ro 3 aa (de 7 90 121 32 3 aa aa (bd [11,10,6,2,1,0] [] aa aa (fun e0 b0 k VE B=>∃z A,an ((7,.ac 90 A.length 3)::(12,.d (dJ z))::e0) VE∧an ((90,.acc 121 32 3 A)::b0) B∧k=((G.length:Int) -z).toNat∧(0≤z∧(z≤(G.length:Int)∨z=0))∧((A.length:Int)≤z)∧(af cn A)) ?_ fin));rintro _ VE B⟨z,A,hV,hB,rfl,bR,cM,G9⟩;refine aS _ _ hV hB (rc 5 aa ?_);refine ax aa ?_ ?_<;>intro g1
 ·refine rc 5 aa ?_;obtain⟨gm,gx,bM⟩:=qI z cq;refine aw (aF aa aa U ae bM aa ?_);refine aJ 8 aa (aA aa (Bw F cg ae bJ gx cu ae bS) ?_);rintro _ _⟨_,_,_,rfl,⟨L,rfl,afk,afl⟩,⟨M,rfl,hzy3_1,kzy3_1⟩,O,rfl,hsy3_2⟩;refine ro 1 aa ?_;refine aw (aW (rows:=A) (ys:=[[(dJ L),(dJ M),(al O)]]) rfl rfl rfl (.bs (rows:=[[(dJ L),(dJ M),(al O)]]) rfl) au ae (fun h=>by rw[h];rfl) (fun h=>by rw[h];rfl) ?_);exact W
 exact rc 6 aa (cl 6 90 aa aa (fun _=>⟨aa,aa⟩) (W))
end Go.Ev.Rp
