/- Part 41 of rules for walks through the code of a program, and of such walks; what each part proves is said by its theorems. -/
import Derived.Test.YtmpoloiempjdpaaGreatR21
import Derived.Test.YtmpoloiempjdpaaGreatR24
import Derived.Test.YtmpoloiempjdpaaGreatR25
import Derived.Test.YtmpoloiempjdpaaGreatR33
import Derived.Test.YtmpoloiempjdpaaGreatR36
import Derived.Test.YtmpoloiempjdpaaGreatR38
import Derived.Test.YtmpoloiempjdpaaGreatR40
set_option linter.unusedVariables false
set_option linter.unusedSimpArgs false
noncomputable section
set_option maxRecDepth 100000
set_option maxHeartbeats 4000000
namespace Go.Ev.Rp
open Go Go.Ev.Pp
attribute [local irreducible] VC VO VQ VI Sound bY
theorem aid{T:aM}(F:FT T){a0 a1 a2 a3 a4 a5:DC}(cP:(Ty.x).ok a0)(bV:(Ty.x).ok a1)(cG:(Ty.x).ok a2)(cr:tJ.ok a3){G:ai}(O:au G a4)(eU:G.length≤13)(Y:af iP G)(cj:(Ty.x).ok a5):Sound T 81 [.agg [.d a0,.d a1,.d a2,.d a3,.d a4,.d a5]] fun r=>∃y0 U,r= .d y0∧au U y0∧(U.length:Int)≤8192∧af ez U:=by
 refine bm F.q81 aa ?_;obtain⟨aT,rfl,mf,mg⟩:=cr;refine r0 15 aa (dP 3 90 46 16 2 aa aa (bj [2,1,0] [1] aa aa (fun e0 b0 k VE B=>∃z A,an ((3,.ac 90 A.length 2)::(4,.d (dJ z))::e0) VE∧an ((90,.acc 46 16 2 A)::b0) B∧k=((G.length:Int) -z).toNat∧(0≤z∧(z≤(G.length:Int)∨z=0))∧((A.length:Int)≤z)∧(af ez A)) ?_ fin));rintro _ VE B⟨z,A,hV,hB,rfl,bU,cS,M⟩;refine aU _ _ hV hB (aA 6 aa (aQ aa O ?_));refine ro 2 aa ?_;refine ay aa ?_ ?_<;>intro g1
 ·refine rc 8 aa ?_;obtain⟨gW,jt,_,⟨I,rfl,Z,qv⟩,_,⟨L,rfl,xv,xw⟩,bS⟩:=qI z Y;refine aw (aH aa aa O ae bS aa ?_);refine ro 3 aa ?_;refine aw (aY (rows:=A) (ys:=[[(dJ I),(dJ L)]]) rfl rfl rfl (.bs (rows:=[[(dJ I),(dJ L)]]) rfl) ao ae (fun h=>by rw[h];rfl) (fun h=>by rw[h];rfl) ?_);exact W
 refine rc 1 aa (cA 3 90 aa aa (fun _=>⟨aa,aa⟩) (rc 7 aa ?_));have uv:af ez [[i0,(dJ aT)]]:=(cH (ah ak (ah ak bl)) cb);refine eZ 24 24 aa aa (fun _=>⟨aa,aa⟩) (aw (aB aa (SubSC F (.inl aa) ae uv (.acc _) ae M) ?_));rintro _ _⟨gp,lD,rfl,va,tq,ts⟩;exact W
theorem IntSC{T:aM}(F:FT T){a0 a1:DC}{bW:ai}(cM:au bW a0)(cT:bW.length≤1)(bN:af ez bW){bJ:ai}(cO:au bJ a1)(dn:bJ.length≤8192)(cq:af ez bJ):Sound T 80 [.d a0,.d a1] fun r=>∃y0 bw,r= .d y0∧au bw y0∧(bw.length:Int)≤8192∧af ez bw:=by
 refine bm F.q80 aa (ch 7 aa (aB aa (Nc F cM ae bN) ?_));rintro _ _⟨dD,O,rfl,L,kI,fT,mN,pn⟩;refine aN 1 aa (aB aa (Nc F cO ae cq) ?_);rintro _ _⟨nR,U,rfl,M,Mc,Ax,afZ,af0⟩;refine ro 13 aa (dP 5 90 46 16 2 aa aa (bj [4,1,0] [] aa aa (fun e0 b0 k VE B=>∃z I,an ((5,.ac 90 I.length 2)::(6,.d (dJ z))::e0) VE∧an ((90,.acc 46 16 2 I)::b0) B∧k=((O.length:Int) -z).toNat∧(0≤z∧(z≤(O.length:Int)∨z=0))∧((I.length:Int)≤8192*z)∧(af ez I)) ?_ fin));rintro _ VE B⟨z,I,hV,hB,rfl,bU,cS,qw⟩;refine aU _ _ hV hB (aA 5 aa (aQ aa L ?_));refine ro 2 aa ?_;refine ay aa ?_ ?_<;>intro g3
 ·refine rc 8 aa (bj [17,6,4,1,0] [] aa aa (fun e0 b0 k VE B=>∃A G,an ((5,.ac 90 G.length 2)::(7,.d (dJ A))::e0) VE∧an ((90,.acc 46 16 2 G)::b0) B∧k=((U.length:Int) -A).toNat∧(0≤A∧(A≤(U.length:Int)∨A=0))∧((G.length:Int)≤8192*z+A)∧(af ez G)) ?_ fin);rintro _ VE B⟨A,G,hV,hB,rfl,fu,gL,L7⟩;refine aU _ _ hV hB (aA 5 aa (aQ aa M ?_));refine ro 2 aa ?_;refine ay aa ?_ ?_<;>intro g4
  ·refine rc 7 aa ?_;obtain⟨Ek,AQ,BG,yd,e9⟩:=qI z fT;refine aV (aH aa aa L ae e9 aa ?_);refine cJ aa aa (iJ aa (aX aa) (aX aa) ?_);refine rq 2 aa ?_;obtain⟨I9,AZ,BE,yb,fE⟩:=qI A Ax;refine aV (aH aa aa M ae fE aa ?_);refine cJ aa aa (iJ aa (aX aa) (aX aa) ?_);refine aP aa (aB aa (CZ F AQ yd AZ yb) ?_);rintro _ _⟨_,_,_,rfl,⟨Y,rfl,hzy7_0,kzy7_0⟩,⟨Z,rfl,hzy7_1,kzy7_1⟩,by7_2,rfl⟩;refine rq 11 aa ?_;refine cE aa ?_ ?_<;>intro h8
   ·refine rc 1 aa (rp 3 aa ?_);refine aw (aY (rows:=G) (ys:=[[(dJ Y),(dJ Z)]]) rfl rfl rfl (.bs (rows:=[[(dJ Y),(dJ Z)]]) rfl) ao ae (fun h=>by rw[h];rfl) (fun h=>by rw[h];rfl) ?_);exact W
   exact W
  exact W
 exact rc 6 aa (cA 4 90 aa aa (fun _=>⟨aa,aa⟩) (W))
end Go.Ev.Rp
namespace Go.Ev.Rp
open Go Go.Ev.Pp
attribute [local irreducible] VC VO VQ VI Sound bY
theorem HoldC{T:aM}(F:FT T){P2 P5:Ty}{a1 a2 a4 a5 a6 a7 a8:DC}{aJ:Int}(iY:0≤aJ)(ic:aJ≤40)(bV:tJ.ok a1)(cG:(P2).ok a2){aT:Int}(fV:0≤aT)(fW:aT≤aJ){G:ai}(EA:0≤G.length)(OZ:G=[]→a4= .nil)(I:au G a4)(eU:G.length≤12)(M:af iP G)(cj:(P5).ok a5)(fi:(Ty.i .i64 0 4).ok a6)(fX:tJ.ok a7)(gk:tJ.ok a8)(PA:P2.ok .nil)(fY:P5.ok .nil):Sound T 50 [.agg [.d (dJ aJ),.d a1,.d a2,.d (dJ aT),.d a4,.d a5],.agg [.d a6,.d a7,.d a8]] fun r=>∃y0 y1 y2 y3 y4 O y6 y7,r= .tuple [.agg [.d (dJ y0),.d y1,.d y2,.d (dJ y3),.d y4,.d y6],.d (dJ y7)]∧(0≤y0∧y0≤40∧(True))∧tJ.ok y1∧(P2).ok y2∧(0≤y3∧y3≤40∧(True))∧au O y4∧(O.length:Int)≤G.length+1∧af iP O∧0≤(O.length:Int)∧(O=[]→y4= .nil)∧(P5).ok y6∧((-9223372036854775808)≤y7∧y7≤9223372036854775807∧(y7=0→y0=aJ∧y3=aT)):=by
 refine bm F.q50 aa ?_;rcases bV,fi,fX,gk with⟨⟨aS,rfl,eB,ee⟩,⟨bu,rfl,nP,nQ⟩,⟨bT,rfl,su,sv⟩,⟨gC,rfl,t6,t7⟩⟩
 refine r0 14 aa ?_;refine br aa ?_ ?_<;>intro h1
 ·exact W
 refine ro 2 aa (bM aa aa (aB aa (ph F ak ak) ?_));rintro _ _⟨_,rfl,by2_0,rfl⟩;refine ro 3 aa ?_;refine cE aa ?_ ?_<;>intro h3
 ·exact W
 refine rc 11 aa (bj [16,5,4,3,2,1,0] [4,3,2] aa aa (fun e0 b0 k VE B=>∃L A,an ((6,.d (dJ L))::(7,.d (dJ A))::e0) VE∧an b0 B∧k=((G.length:Int) -A).toNat∧(0≤L∧L≤A)∧(0≤A∧(A≤(G.length:Int)∨A=0))) ?_ fin);rintro _ VE B⟨L,A,hV,hB,rfl,bU,cS⟩;refine aU _ _ hV hB (aA 6 aa (aQ aa I ?_));refine ro 2 aa ?_;refine ay aa ?_ ?_<;>intro g4
 ·refine rc 9 aa ?_;obtain⟨_,⟨xZ,rfl,Am,An⟩,BG,yd,I8,MR,e9⟩:=qI A M;refine aV (aH aa aa I ae e9 aa ?_);refine rq 1 aa (cJ aa aa (dy aa aa ?_));refine rq 4 aa ?_;refine ay aa ?_ ?_<;>intro h6
  ·exact W
  refine rc 6 aa (aV (aH aa aa I ae e9 aa ?_));refine rq 1 aa (cJ aa aa (dy aa aa ?_));exact W
 refine aA 6 aa (aQ aa I ?_);refine ro 2 aa ?_;refine ay aa ?_ ?_<;>intro h8
 ·exact W
 refine rc 8 aa (aP aa (aB aa (aid F bZ bZ bZ ak I ae M bZ) ?_));rintro _ _⟨I4,ahH,rfl,Y,ae9,Z⟩;have Ox:af ez [[(dJ bT),(dJ gC)]]:=(cH (ah ak (ah ak bl)) cb);refine aej 53 53 aa aa (fun _=>⟨aa,aa⟩) (aP aa (aB aa (IntSC F (.inl aa) ae Ox Y ae Z) ?_));rintro _ _⟨nE,St,rfl,U,Ro,F8⟩;refine aV (aQ aa U ?_);refine rq 2 aa ?_;refine ay aa ?_ ?_<;>intro oc
 ·exact W
 refine rc 6 aa ?_;obtain⟨Fa,BH,Jh⟩:=bD (z:=L) (n:=G.length+1) ae ae;refine aV (eQ (l:=0) (h:=Fa) rfl I M rfl OZ ⟨_,(by rw[←BH];rfl)⟩ rfl ae ae (fun d14 zA hd14 OP hr14=>?_));refine aP aa (VI.fresh aa (eb (ys:=zA) 64 aa aa aa aa aa (.sD hd14 (cD hr14 aa)) ao ae ?_));refine rq 2 aa (ny 2 aa (fun p15=>?_));refine QN 2 aa trivial aa aa (aY (rows:=zA) (ys:=[[(dJ bu),(dJ bT),(dJ gC)]]) aa aa aa (.bs (rows:=[[(dJ bu),(dJ bT),(dJ gC)]]) aa) ao ae bR bR ?_);refine rq 1 aa (QO aa aa trivial ⟨aa,trivial,trivial,trivial,trivial,trivial⟩ (VI.Ur (b:=2) aa (oe (b:=2) aa aa aa ?_)));refine rq 1 aa ?_;obtain⟨mE,sA,uf⟩:=bD (z:=L) (n:=G.length+1) ae ae;refine aV (eQ (l:=mE) (h:=G.length) rfl I M rfl OZ rfl ⟨_,(by rw[←sA];rfl)⟩ ae ae (fun Ye zm Bx OG Eo=>?_));refine aP aa (aY (rows:=(zA++[[(dJ bu),(dJ bT),(dJ gC)]])) (ys:=zm) aa aa aa (.sD Bx (cD Eo aa)) ao ae (fun h=>absurd h bH) (fun h=>absurd h bH) ?_);exact rq 1 aa (lQ 72 64 aa aa (fun _=>⟨aa,aa⟩) (W))
end Go.Ev.Rp
namespace Go.Ev.Rp
open Go Go.Ev.Pp
attribute [local irreducible] VC VO VQ VI Sound bY
theorem aie{T:aM}(F:FT T){L M O U Y Z a6 a7 a8 a9:DC}(z:tJ.ok L)(bV:(Ty.x).ok M)(cG:(Ty.x).ok O)(cr:(Ty.x).ok U)(ca:(Ty.x).ok Y)(cj:(Ty.x).ok Z)(A:tJ.ok a6)(G:tJ.ok a7)(I:tJ.ok a8)(ig:(Ty.x).ok a9):Sound T 78 [.agg [.d L,.d M,.d O,.d U,.d Y,.d Z],.agg [.d a6,.d a7,.d a8,.d a9]] fun r=>∃y0,r= .d y0∧tJ.ok y0:=by
 refine bm F.q78 aa ?_;rcases z,A,G,I with⟨⟨aJ,rfl,iv,iw⟩,⟨bu,rfl,nP,nQ⟩,⟨bT,rfl,su,sv⟩,⟨gC,rfl,t6,t7⟩⟩
 exact W
theorem RetC{T:aM}(F:FT T){a0 a1 a2 a3 a4 a5 a6:DC}(O:tJ.ok a0)(bV:(Ty.x).ok a1)(cG:(Ty.x).ok a2)(U:tJ.ok a3){A:ai}(G:au A a4)(eU:A.length≤13)(M:af iP A)(cj:(Ty.x).ok a5)(Y:tJ.ok a6):Sound T 118 [.agg [.d a0,.d a1,.d a2,.d a3,.d a4,.d a5],.d a6] fun r=>∃y0,r= .d y0∧(Ty.b).ok y0:=by
 refine bm F.q118 aa ?_;rcases O,U,Y with⟨⟨aJ,rfl,iv,iw⟩,⟨aT,rfl,mf,mg⟩,⟨bu,rfl,nP,nQ⟩⟩
 refine r0 11 aa ?_;refine br aa ?_ ?_<;>intro h1
 ·exact W
 refine ro 6 aa ?_;refine ay aa ?_ ?_<;>intro h2
 ·exact W
 refine rc 7 aa (bj [13,4,2,1,0] [2] aa aa (fun e0 b0 k VE B=>∃z,an ((5,.d (dJ z))::e0) VE∧an b0 B∧d9 k 0 z (A.length:Int)) ?_ fin);rintro _ VE B⟨z,hV,hB,rfl,bU⟩;refine aU _ _ hV hB (aA 6 aa (aQ aa G ?_));refine ro 2 aa ?_;refine ay aa ?_ ?_<;>intro g3
 ·refine rc 8 aa ?_;obtain⟨oS,Z,e5,I,pQ,L,dj⟩:=qI z M;refine aw (aH aa aa G ae dj aa ?_);refine aN 3 aa (aB aa (MI F I L ak) ?_);rintro _ _⟨jz,rfl,pw⟩;exact W
 exact W
theorem IsDayC{T:aM}(F:FT T){A:DC}(z:tJ.ok A):Sound T 119 [.d A] fun r=>∃G,r= .d G∧(Ty.b).ok G:=by
 refine bm F.q119 aa ?_;obtain⟨aJ,rfl,I,L⟩:=z;exact W
theorem usableC{T:aM}(F:FT T){Y Z a2 a3 a4 a5:DC}(z:tJ.ok Y)(A:(Ty.l 1000000000 cu).ok Z)(G:tJ.ok a2)(I:tJ.ok a3)(L:tJ.ok a4)(M:tJ.ok a5):Sound T 186 [.agg [.d Y,.d Z,.d a2,.d a3,.d a4,.d a5]] fun r=>∃y0,r= .d y0∧(Ty.b).ok y0:=by
 refine bm F.q186 aa ?_;rcases z,A,G,I,L,M with⟨⟨aJ,rfl,iv,iw⟩,⟨bJ,cO,dn,cq⟩,⟨bz,rfl,lF,lG⟩,⟨aT,rfl,mf,mg⟩,⟨bA,rfl,mW,mX⟩,⟨cg,rfl,mY,mZ⟩⟩
 refine ch 9 aa (aB aa (GI F ak ak) ?_);rintro _ _⟨_,rfl,O,rfl⟩;refine ro 1 aa ?_;refine br aa ?_ ?_<;>intro h2
 ·refine ro 2 aa (bM aa aa (aB aa (ph F ak ak) ?_));rintro _ _⟨lh,rfl,U⟩;exact W
 exact W
end Go.Ev.Rp
namespace Go.Ev.Rp
open Go Go.Ev.Pp
attribute [local irreducible] VC VO VQ VI Sound bY
theorem aif{T:aM}(F:FT T){X:List Int}{P:DC→Prop}{a0 a1 a2 a3:DC}(cP:(Ty.q (P)).ok a0)(bV:(Ty.q (e7 X)).ok a1)(cG:(Ty.q (P)).ok a2)(cr:(Ty.q (e7 X)).ok a3)(hX:X.length≤2000000)(hP:∀d,P d→∃w,au w d∧w.length≤1000000000∧af cu w):Sound T 235 [.agg [.d a0,.d a1],.agg [.d a2,.d a3]] fun r=>∃y0,r= .d y0∧(Ty.b).ok y0:=by
 refine bm F.ajH aa ?_;obtain⟨bW,G,cT,I⟩:=hP _ (Ty.bC cP);obtain⟨bJ,L,z⟩:=Ty.bC bV;have M:=z.1;have dn:=cC.len z;obtain⟨bo,O,df,U⟩:=hP _ (Ty.bC cG);obtain⟨du,Y,A⟩:=Ty.bC cr;have Z:=A.1;have fI:=cC.len A;refine ch 12 aa (aB aa (x7 F (aL G ae I) (aL O ae U)) ?_);rintro _ _⟨_,rfl,ahu,rfl,Sz,SA⟩;refine ro 4 aa (rp 3 aa ?_);refine br aa ?_ ?_<;>intro h2
 ·exact W
 refine ro 3 aa ?_;refine br aa ?_ ?_<;>intro g3
 ·refine ro 4 aa (bM aa aa (aB aa (ahs F L ae M Y ae Z) ?_));rintro _ _⟨gp,rfl,tH⟩;exact W
 exact W
theorem sortP_{T:aM}{X:List Int}{P:DC→Prop}(F:FT T)(hX:X.length≤2000000)(hP:∀d,P d→∃w,au w d∧w.length≤1000000000∧af cu w)(N:Nat):∀{a0:DC}{O:ai}(Z:au O a0)(cT:O.length≤1000000000)(bN:af [.q (P),.q (e7 X)] O)(hN:O.length≤N),Sound T 182 [.d a0] fun r=>∃(y0:DC)(bw:ai),r= .d y0∧au bw y0∧(bw.length:Int)≤O.length∧af [.q (P),.q (e7 X)] bw∧0≤(bw.length:Int)∧(bw=[]→y0= .nil):=by
 induction N using Nat.strongRecOn with
 |_ N ih=>
 intro a0 O Z cT bN hN;refine bm F.ajD aa (ch 8 aa (aQ aa Z ?_));refine ro 2 aa ?_;refine ay aa ?_ ?_<;>intro g1
 ·refine aA 3 aa (eb (ys:=O) 12 aa aa aa aa aa (.sD Z (cD bN aa)) ao ae ?_);exact ro 2 aa (cA 2 12 aa aa (fun _=>⟨aa,aa⟩) (W))
 refine rc 5 aa (aV (aQ aa Z ?_));refine aV (rM aa aa aa aa ae ae ae ao ?_);obtain⟨j2,pZ,p'⟩:=bD (z:=((O.length:Int)/2)) (n:=O.length+1) ae ae;refine aV (eQ (l:=0) (h:=j2) rfl Z bN rfl (tE ae) ⟨_,(by rw[←pZ];rfl)⟩ rfl ae ae (fun d3 w3 Yj Pv Yk=>?_));refine aP aa (aB aa (ih (w3).length ae Yj ae Yk (bf _)) ?_);rintro _ _⟨gp,lD,rfl,A,tq,U,Ak,C1⟩;refine dh 2 aa (aQ aa Z ?_);refine aV (rM aa aa aa aa ae ae ae ao ?_);obtain⟨j5,Cc,Cd⟩:=bD (z:=((O.length:Int)/2)) (n:=O.length+1) ae ae;refine aV (eQ (l:=j5) (h:=O.length) rfl Z bN rfl (tE ae) rfl ⟨_,(by rw[←Cc];rfl)⟩ ae ae (fun d6 w6 Yl Ym Yn=>?_));refine aP aa (aB aa (ih (w6).length ae Yl ae Yn (bf _)) ?_);rintro _ _⟨wa,DJ,rfl,G,aeS,Y,hmy7_0,hey7_0⟩;refine rq 14 aa (dP 5 90 134 48 2 aa aa (bj [10,4,3,2,0] [] aa aa (fun e0 b0 k VE B=>∃L M I,an ((5,.ac 90 I.length 2)::(6,.d (dJ L))::(7,.d (dJ M))::e0) VE∧an ((90,.acc 134 48 2 I)::b0) B∧k=((lD.length:Int)+DJ.length-L-M).toNat∧(0≤L∧L≤(lD.length:Int))∧(0≤M∧M≤(DJ.length:Int))∧((I.length:Int)≤L+M)∧(af [.q (P),.q (e7 X)] I)) ?_ fin));rintro _ VE B⟨L,M,I,hV,hB,rfl,bU,cS,ug,qw⟩;refine aU _ _ hV hB (aA 5 aa (aQ aa A ?_));refine ro 2 aa ?_;refine br aa ?_ ?_<;>intro g8
 ·refine ro 6 aa (eu aa aa (rc 6 aa (aV (aQ aa G ?_))));refine rq 2 aa ?_;refine dL aa ?_ ?_<;>intro g9
  ·refine rq 5 aa (bK aa (bK aa (bK aa (dF aa (bK aa (bK aa (bK aa (dF aa (dF aa ?_)))))))));refine bK aa (rq 3 aa (eu aa aa (rc 5 aa ?_)));obtain⟨nH,pj,pz,xC,gg⟩:=qI L U;refine aw (aH aa aa A ae gg aa ?_);obtain⟨aeT,acz,acA,acB⟩:=hP _ (Ty.bC pj);obtain⟨aeB,Rl,adz⟩:=Ty.bC xC;have Rm:=adz.1;have acg:=cC.len adz;refine ro 2 aa ?_;refine aw (aY (rows:=I) (ys:=[[nH,pz]]) rfl rfl rfl (.bs (rows:=[[nH,pz]]) rfl) ao ae (fun h=>by rw[h];rfl) (fun h=>by rw[h];rfl) ?_);exact W
  refine rq 2 aa (cl aa aa (aQ aa A ?_));refine rq 2 aa ?_;refine dL aa ?_ ?_<;>intro lN
  ·refine rq 2 aa ?_;obtain⟨pC,lU,rZ,vf,gr⟩:=qI M Y;refine cl aa aa (aH aa aa G ae gr aa ?_);refine rq 3 aa ?_;obtain⟨qJ,ow,AV,Tb,mj⟩:=qI L U;refine cl aa aa (aH aa aa A ae mj aa ?_);refine rq 1 aa (fL aa aa aa (aB aa (aif (X:=X) (P:=P) F lU vf ow Tb ae hP) ?_));rintro _ _⟨_,rfl,by14_0,rfl⟩;refine rq 4 aa ?_;refine cE aa ?_ ?_<;>intro J9
   ·refine aA 5 aa (aH aa aa A ae mj aa ?_);obtain⟨wx13_0,hdx13_0,hnx13_0,hrx13_0⟩:=hP _ (Ty.bC ow);obtain⟨aeV,Lb,adA⟩:=Ty.bC Tb;have Lc:=adA.1;have acF:=cC.len adA;refine ro 2 aa ?_;refine aw (aY (rows:=I) (ys:=[[qJ,AV]]) rfl rfl rfl (.bs (rows:=[[qJ,AV]]) rfl) ao ae (fun h=>by rw[h];rfl) (fun h=>by rw[h];rfl) ?_);exact W
   refine aA 5 aa (aH aa aa G ae gr aa ?_);obtain⟨aeW,Ry,acG,acH⟩:=hP _ (Ty.bC lU);obtain⟨aeU,acC,adB⟩:=Ty.bC vf;have acE:=adB.1;have acD:=cC.len adB;refine ro 2 aa ?_;refine aw (aY (rows:=I) (ys:=[[pC,rZ]]) rfl rfl rfl (.bs (rows:=[[pC,rZ]]) rfl) ao ae (fun h=>by rw[h];rfl) (fun h=>by rw[h];rfl) ?_);exact W
  refine rq 13 aa (dq aa aa (rc 5 aa ?_));obtain⟨DK,afd,AW,S2,BD⟩:=qI M Y;refine aw (aH aa aa G ae BD aa ?_);obtain⟨wx16_0,hdx16_0,hnx16_0,hrx16_0⟩:=hP _ (Ty.bC afd);obtain⟨wx16_1,hdx16_1,adC⟩:=Ty.bC S2;have hrx16_1:=adC.1;have hnx16_1:=cC.len adC;refine ro 2 aa ?_;refine aw (aY (rows:=I) (ys:=[[DK,AW]]) rfl rfl rfl (.bs (rows:=[[DK,AW]]) rfl) ao ae (fun h=>by rw[h];rfl) (fun h=>by rw[h];rfl) ?_);exact W
 refine ro 2 aa (bM aa aa (aQ aa G ?_));refine ro 3 aa ?_;refine ay aa ?_ ?_<;>intro ux
 ·refine rc 6 aa (aV (aQ aa G ?_));refine rq 2 aa ?_;refine dL aa ?_ ?_<;>intro sU
  ·refine rq 5 aa (bK aa (bK aa (bK aa (dF aa (bK aa (bK aa (bK aa (dF aa (dF aa ?_)))))))));refine bK aa (rq 3 aa (eu aa aa (rc 5 aa ?_)));obtain⟨x8,GL,DL,afe,nU⟩:=qI L U;refine aw (aH aa aa A ae nU aa ?_);obtain⟨wx19_0,hdx19_0,hnx19_0,hrx19_0⟩:=hP _ (Ty.bC GL);obtain⟨wx19_1,hdx19_1,adD⟩:=Ty.bC afe;have hrx19_1:=adD.1;have hnx19_1:=cC.len adD;refine ro 2 aa ?_;refine aw (aY (rows:=I) (ys:=[[x8,DL]]) rfl rfl rfl (.bs (rows:=[[x8,DL]]) rfl) ao ae (fun h=>by rw[h];rfl) (fun h=>by rw[h];rfl) ?_);exact W
  refine rq 2 aa (cl aa aa (aQ aa A ?_));refine rq 2 aa ?_;refine dL aa ?_ ?_<;>intro Pw
  ·refine rq 2 aa ?_;obtain⟨vw,vd,tI,Ap,ml⟩:=qI M Y;refine cl aa aa (aH aa aa G ae ml aa ?_);refine rq 3 aa ?_;obtain⟨lY,ox,lZ,rR,pU⟩:=qI L U;refine cl aa aa (aH aa aa A ae pU aa ?_);refine rq 1 aa (fL aa aa aa (aB aa (aif (X:=X) (P:=P) F vd Ap ox rR ae hP) ?_));rintro _ _⟨_,rfl,by23_0,rfl⟩;refine rq 4 aa ?_;refine cE aa ?_ ?_<;>intro Cf
   ·refine aA 5 aa (aH aa aa A ae pU aa ?_);obtain⟨LP,Le,Rz,Lf⟩:=hP _ (Ty.bC ox);obtain⟨LO,F',adE⟩:=Ty.bC rR;have Ga:=adE.1;have Ld:=cC.len adE;refine ro 2 aa ?_;refine aw (aY (rows:=I) (ys:=[[lY,lZ]]) rfl rfl rfl (.bs (rows:=[[lY,lZ]]) rfl) ao ae (fun h=>by rw[h];rfl) (fun h=>by rw[h];rfl) ?_);exact W
   refine aA 5 aa (aH aa aa G ae ml aa ?_);obtain⟨wx21_0,hdx21_0,hnx21_0,hrx21_0⟩:=hP _ (Ty.bC vd);obtain⟨wx21_1,acI,adF⟩:=Ty.bC Ap;have acJ:=adF.1;have hnx21_1:=cC.len adF;refine ro 2 aa ?_;refine aw (aY (rows:=I) (ys:=[[vw,tI]]) rfl rfl rfl (.bs (rows:=[[vw,tI]]) rfl) ao ae (fun h=>by rw[h];rfl) (fun h=>by rw[h];rfl) ?_);exact W
  refine rq 13 aa (dq aa aa (rc 5 aa ?_));obtain⟨DM,afy,DN,Te,wb⟩:=qI M Y;refine aw (aH aa aa G ae wb aa ?_);obtain⟨wx25_0,hdx25_0,hnx25_0,hrx25_0⟩:=hP _ (Ty.bC afy);obtain⟨wx25_1,hdx25_1,adG⟩:=Ty.bC Te;have hrx25_1:=adG.1;have hnx25_1:=cC.len adG;refine ro 2 aa ?_;refine aw (aY (rows:=I) (ys:=[[DM,DN]]) rfl rfl rfl (.bs (rows:=[[DM,DN]]) rfl) ao ae (fun h=>by rw[h];rfl) (fun h=>by rw[h];rfl) ?_);exact W
 exact rc 6 aa (cA 2 90 aa aa (fun _=>⟨aa,aa⟩) (W))
theorem aih{T:aM}(F:FT T){X:List Int}{P:DC→Prop}{O:DC}{A:ai}(G:au A O)(I:A.length≤1000000000)(L:af [.q (P),.q (e7 X)] A)(U:X.length≤2000000)(Y:∀d,P d→∃w,au w d∧w.length≤1000000000∧af cu w):Sound T 182 [.d O] fun r=>∃M z,r= .d M∧au z M∧(z.length:Int)≤A.length∧af [.q (P),.q (e7 X)] z∧0≤(z.length:Int)∧(z=[]→M= .nil):=sortP_ F U Y _ G I L (bf _)
theorem Vh{T:aM}(F:FT T){X:List Int}{m:Nat}{Y:DC}{A:ai}(G:au A Y)(I:A.length≤1000000000)(L:af (dR X m) A)(Z:X.length≤2000000)(hm:m≤100000000):Sound T 182 [.d Y] fun r=>∃M z,r= .d M∧au z M∧(z.length:Int)≤A.length∧af (dR X m) z∧0≤(z.length:Int)∧(z=[]→M= .nil):=Sound.mono (aih (P:=(Ty.l m cu).ok) F G I (rowP_of L) Z (fun d h=>by obtain⟨w,O,h2,U⟩:=Ty.aL h;exact⟨w,O,eO h2 ae,U⟩)) fun r hp=>by
 obtain⟨M,z,O,h2,U,h4,h5,h6⟩:=hp;exact⟨M,z,O,h2,U,rowW_of h4,h5,h6⟩
theorem multM{T:aM}(F:FT T){X:List Int}{m:Nat}{a0 a1:DC}{G:ai}(M:au G a0)(cT:G.length≤1000000000)(U:af (dR X m) G){O:ai}(Y:au O a1)(dn:O.length≤1000000000)(Z:af cu O)(hX:X.length≤2000000)(hm:m≤100000000):Sound T 266 [.d a0,.d a1] fun r=>∃y0,r= .d y0∧(Ty.i .i64 0 1000000000).ok y0:=by
 refine bm F.q266 aa (r0 14 aa (bj [4,1,0] [] aa aa (fun e0 b0 k VE B=>∃A z,an ((5,.d (dJ A))::(6,.d (dJ z))::e0) VE∧an b0 B∧k=((G.length:Int) -z).toNat∧(0≤A∧A≤z)∧(0≤z∧(z≤(G.length:Int)∨z=0))) ?_ fin));rintro _ VE B⟨A,z,hV,hB,rfl,bU,cS⟩;refine aU _ _ hV hB (aA 5 aa (aQ aa M ?_));refine ro 2 aa ?_;refine ay aa ?_ ?_<;>intro g1
 ·refine rc 7 aa ?_;obtain⟨gW,⟨pB,I,vb,L⟩,fH,iQ,bS⟩:=qI z U;refine aw (aH aa aa M ae bS aa ?_);refine aN 3 aa (aB aa (x7 F (aL I ae L) (aL Y ae Z)) ?_);rintro _ _⟨lh,rfl,x9⟩;exact W
 exact W
theorem UnionM{T:aM}(F:FT T){X:List Int}{m:Nat}{U Y:DC}{z:ai}(I:au z U)(Z:z.length≤4096)(L:af (dR X m) z){A:ai}(M:au A Y)(dn:A.length≤4096)(O:af (dR X m) A)(hX:X.length≤2000000)(hm:m≤100000000):Sound T 178 [.d U,.d Y] fun r=>∃y0 G,r= .d y0∧au G y0∧(G.length:Int)≤8192∧af (dR X m) G:=by
 refine bm F.q178 aa (ch 7 aa (eb (ys:=z) 6 aa aa aa aa aa (.sD I (cD L aa)) ao ae ?_));refine ro 1 aa ?_;refine aw (aY (rows:=z) (ys:=A) rfl rfl rfl (.sD M (cD O rfl)) ao ae (fun h=>by rw[h];rfl) (fun h=>by rw[h];rfl) ?_);exact ro 2 aa (cA 4 6 aa aa (fun _=>⟨aa,aa⟩) (W))
theorem SelectX{T:aM}(F:FT T){X:List Int}{m:Nat}{a0 a1 a2:DC}{I:ai}(U:au I a0)(cT:I.length≤1000000000)(bN:af (dR X m) I){bJ:ai}(cO:au bJ a1)(dn:bJ.length≤200)(cq:af ey bJ)(cG:tJ.ok a2)(hX:X.length≤2000000)(hm:m≤100000000):Sound T 175 [.d a0,.d a1,.d a2] fun r=>∃y0 L,r= .d y0∧au L y0∧(L.length:Int)≤I.length∧af (dR X m) L∧0≤(L.length:Int)∧(L=[]→y0= .nil):=by
 refine bm F.q175 aa ?_;obtain⟨bz,rfl,lF,lG⟩:=cG;refine ch 12 aa (aQ aa U ?_);refine ro 3 aa (dP 7 90 134 48 2 aa aa (bj [11,10,6,2,1,0] [] aa aa (fun e0 b0 k VE B=>∃z A,an ((7,.ac 90 A.length 2)::(12,.d (dJ z))::e0) VE∧an ((90,.acc 134 48 2 A)::b0) B∧k=((I.length:Int) -z).toNat∧(0≤z∧(z≤(I.length:Int)∨z=0))∧((A.length:Int)≤z)∧(af (dR X m) A)) ?_ fin));rintro _ VE B⟨z,A,hV,hB,rfl,bU,cS,GN⟩;refine aU _ _ hV hB (rc 5 aa ?_);refine ay aa ?_ ?_<;>intro g1
 ·refine rc 5 aa ?_;obtain⟨Y,⟨pB,M,vb,O⟩,Z,iQ,bS⟩:=qI z bN;refine aw (aH aa aa U ae bS aa ?_);refine aN 10 aa (aB aa (A0 F cO ae cq ak M ae O) ?_);rintro _ _⟨lh,En,Ov,rfl,x9,MQ,Ik⟩;refine aw (aB aa (MK F x9 MQ Ik) ?_);rintro _ _⟨_,rfl,ah2,rfl⟩;refine ro 1 aa ?_;refine cE aa ?_ ?_<;>intro h5
  ·refine rc 1 aa ?_;obtain⟨nF,oA,G⟩:=Ty.bC iQ;have oB:=G.1;have nz:=cC.len G;refine rp 3 aa ?_;refine aw (aY (rows:=A) (ys:=[[Y,Z]]) rfl rfl rfl (.bs (rows:=[[Y,Z]]) rfl) ao ae (fun h=>by rw[h];rfl) (fun h=>by rw[h];rfl) ?_);exact W
  exact W
 exact rc 6 aa (cA 6 90 aa aa (fun _=>⟨aa,aa⟩) (W))
end Go.Ev.Rp
namespace Go.Ev.Rp
open Go Go.Ev.Pp
attribute [local irreducible] VC VO VQ VI Sound bY
theorem AsOfX{T:aM}(F:FT T){X:List Int}{a0 a1:DC}{U:ai}(cM:au U a0)(cT:U.length≤100000)(bN:af (Ux X) U)(bV:tJ.ok a1)(hX:X.length≤2000000):Sound T 236 [.d a0,.d a1] fun r=>∃y0 Y,r= .d y0∧au Y y0∧(Y.length:Int)≤100000∧af (MB X) Y∧0≤(Y.length:Int)∧(Y=[]→y0= .nil):=by
 refine bm F.q236 aa ?_;obtain⟨aS,rfl,eB,ee⟩:=bV;refine ch 12 aa (aQ aa cM ?_);refine ro 3 aa (dP 5 90 203 64 4 aa aa (bj [9,8,4,1,0] [] aa aa (fun e0 b0 k VE B=>∃z A,an ((5,.ac 90 A.length 4)::(10,.d (dJ z))::e0) VE∧an ((90,.acc 203 64 4 A)::b0) B∧k=((U.length:Int) -z).toNat∧(0≤z∧(z≤(U.length:Int)∨z=0))∧((A.length:Int)≤z)∧(af (MB X) A)) ?_ fin));rintro _ VE B⟨z,A,hV,hB,rfl,bU,cS,qw⟩;refine aU _ _ hV hB (rc 5 aa ?_);refine ay aa ?_ ?_<;>intro g1
 ·refine rc 5 aa ?_;obtain⟨gW,jt,Z,⟨nF,M,nz,O⟩,gf,iq,lk,lC,wu,yf,Xi,A6,bS⟩:=qI z bN;refine aw (aH aa aa cM ae bS aa ?_);refine ro 7 aa ?_;obtain⟨G,rfl,tv,hqx2_0⟩:=Ty.bC jt;refine aw (aB aa (usableC F ak (aL M ae O) iq lC yf A6) ?_);rintro _ _⟨_,rfl,AX,rfl⟩;refine ro 1 aa ?_;refine br aa ?_ ?_<;>intro h4
  ·refine ro 3 aa (bM aa aa (aB aa (MI F yf A6 ak) ?_));rintro _ _⟨_,rfl,MM,rfl⟩;refine ro 2 aa ?_;refine cE aa ?_ ?_<;>intro h6
   ·refine rc 9 aa ?_;have JY:af bn [[(dJ G)]]:=(cH (ah ak bl) cb);refine eZ 29 29 aa aa (fun _=>⟨aa,aa⟩) ?_;rcases Ty.dY iq,Ty.dY lC with⟨⟨I,rfl,xv,xw⟩,⟨L,rfl,afb,afc⟩⟩
    refine ro 2 aa ?_;refine aw (aY (rows:=A) (ys:=[[Z,(dJ I),(dJ L),(.sl [[(dJ G)]])]]) rfl rfl rfl (.bs (rows:=[[Z,(dJ I),(dJ L),(.sl [[(dJ G)]])]]) rfl) ao ae (fun h=>by rw[h];rfl) (fun h=>by rw[h];rfl) ?_);refine aN 3 aa (bx aa aa ae ae ?_);exact cL 2 aa (⟨((U.length:Int) -((z+1))).toNat,ae,(z+1),(A++[[Z,(dJ I),(dJ L),(.sl [[(dJ G)]])]]),⟨aa,aa,aa,aa,aa,aa,aa,trivial⟩,⟨aa,trivial⟩,aa,ae,cR,(dW qw (dG (ah (aL M ae O) (ah ak (ah ak (ah (bC (e7.one hqx2_0 tv)) bl))))))⟩)
   exact W
  exact W
 exact rc 6 aa (cA 4 90 aa aa (fun _=>⟨aa,aa⟩) (W))
theorem TAsX{T:aM}(F:FT T){X:List Int}{a0 a1:DC}{G:ai}(U:au G a0)(cT:G.length≤16)(bN:af (Uy X) G)(bV:tJ.ok a1)(hX:X.length≤2000000):Sound T 184 [.d a0,.d a1] fun r=>∃y0 I,r= .d y0∧au I y0∧(I.length:Int)≤16∧af (MC X) I∧0≤(I.length:Int)∧(I=[]→y0= .nil):=by
 refine bm F.q184 aa ?_;obtain⟨aS,rfl,eB,ee⟩:=bV;refine ch 12 aa (aQ aa U ?_);refine ro 3 aa (dP 5 90 303 64 3 aa aa (bj [9,8,4,1,0] [] aa aa (fun e0 b0 k VE B=>∃z A,an ((5,.ac 90 A.length 3)::(10,.d (dJ z))::e0) VE∧an ((90,.acc 303 64 3 A)::b0) B∧k=((G.length:Int) -z).toNat∧(0≤z∧(z≤(G.length:Int)∨z=0))∧((A.length:Int)≤z)∧(af (MC X) A)) ?_ fin));rintro _ VE B⟨z,A,hV,hB,rfl,bU,cS,qw⟩;refine aU _ _ hV hB (rc 5 aa ?_);refine ay aa ?_ ?_<;>intro g1
 ·refine rc 5 aa ?_;obtain⟨_,⟨L,rfl,G3⟩,Y,⟨nF,oA,nz,oB⟩,gf,⟨Ng,M,Ao,O⟩,bS⟩:=qI z bN;refine aw (aH aa aa U ae bS aa ?_);refine ro 11 aa (aP aa (aB aa (AsOfX (X:=X) F M ae O ak ae) ?_));rintro _ _⟨Z,oL,rfl,Al,CY,vc,LL,Tq⟩;refine rq 2 aa ?_;refine aP rfl (aY (rows:=A) (ys:=[[(aq L),Y,Z]]) rfl rfl rfl (.bs (rows:=[[(aq L),Y,Z]]) rfl) ao ae (fun h=>by rw[h];rfl) (fun h=>by rw[h];rfl) ?_);exact W
 exact rc 6 aa (cA 4 90 aa aa (fun _=>⟨aa,aa⟩) (W))
theorem TimeX{T:aM}(F:FT T){X:List Int}{a0 a1:DC}{I:ai}(O:au I a0)(cT:I.length≤100000)(bN:af (MB X) I)(bV:tJ.ok a1)(hX:X.length≤2000000):Sound T 183 [.d a0,.d a1] fun r=>∃y0 L,r= .d y0∧au L y0∧(L.length:Int)≤I.length∧af (dR X 13) L∧0≤(L.length:Int)∧(L=[]→y0= .nil):=by
 refine bm F.q183 aa ?_;obtain⟨aS,rfl,eB,ee⟩:=bV;refine ch 12 aa (aQ aa O ?_);refine ro 3 aa (dP 5 90 134 48 2 aa aa (bj [9,8,4,1,0] [] aa aa (fun e0 b0 k VE B=>∃z A,an ((5,.ac 90 A.length 2)::(10,.d (dJ z))::e0) VE∧an ((90,.acc 134 48 2 A)::b0) B∧k=((I.length:Int) -z).toNat∧(0≤z∧(z≤(I.length:Int)∨z=0))∧((A.length:Int)≤z)∧(af (dR X 13) A)) ?_ fin));rintro _ VE B⟨z,A,hV,hB,rfl,bU,cS,M⟩;refine aU _ _ hV hB (rc 5 aa ?_);refine ay aa ?_ ?_<;>intro g1
 ·refine rc 5 aa ?_;obtain⟨U,⟨pB,G4,vb,Aq⟩,fH,Z,gf,iq,Y,lC,bS⟩:=qI z bN;refine aw (aH aa aa O ae bS aa ?_);refine aN 9 aa (aB aa (MI F Z iq ak) ?_);rintro _ _⟨_,rfl,AX,rfl⟩;refine ro 1 aa ?_;refine cE aa ?_ ?_<;>intro h4
  ·refine rc 1 aa ?_;obtain⟨M3,GO,G⟩:=Ty.bC lC;have Ar:=G.1;have LZ:=cC.len G;refine rp 7 aa ?_;refine aw (aY (rows:=A) (ys:=[[U,Y]]) rfl rfl rfl (.bs (rows:=[[U,Y]]) rfl) ao ae (fun h=>by rw[h];rfl) (fun h=>by rw[h];rfl) ?_);exact W
  exact W
 refine rc 1 aa (cA 5 90 aa aa (fun _=>⟨aa,aa⟩) (aA 3 aa (aB aa (Vh (X:=X) (m:=13) F (.acc _) ae M ae ae) ?_)));rintro _ _⟨jz,iR,rfl,lV,rP,kK,tw,tz⟩;exact W
theorem rowsOnX{T:aM}(F:FT T){X:List Int}{a0 a1:DC}{G:ai}(I:au G a0)(cT:G.length≤16)(bN:af (MC X) G)(bV:tJ.ok a1)(hX:X.length≤2000000):Sound T 125 [.d a0,.d a1] fun r=>∃y0 L,r= .d y0∧au L y0∧(L.length:Int)≤16∧af (HI X) L∧0≤(L.length:Int)∧(L=[]→y0= .nil):=by
 refine bm F.q125 aa ?_;obtain⟨aS,rfl,eB,ee⟩:=bV;refine r0 14 aa (dP 5 90 235 64 3 aa aa (bj [4,1,0] [] aa aa (fun e0 b0 k VE B=>∃z A,an ((5,.ac 90 A.length 3)::(6,.d (dJ z))::e0) VE∧an ((90,.acc 235 64 3 A)::b0) B∧k=((G.length:Int) -z).toNat∧(0≤z∧(z≤(G.length:Int)∨z=0))∧((A.length:Int)≤z)∧(af (HI X) A)) ?_ fin));rintro _ VE B⟨z,A,hV,hB,rfl,bU,cS,qw⟩;refine aU _ _ hV hB (aA 5 aa (aQ aa I ?_));refine ro 2 aa ?_;refine ay aa ?_ ?_<;>intro g1
 ·refine rc 7 aa ?_;obtain⟨_,⟨M,rfl,G3⟩,Y,⟨nF,oA,nz,oB⟩,gf,⟨Ng,O,Ao,U⟩,bS⟩:=qI z bN;refine aV (aH aa aa I ae bS aa ?_);refine rq 1 aa (cJ aa aa (iJ aa (aX aa) (aX aa) ?_));refine dh 2 aa (aH aa aa I ae bS aa ?_);refine rq 1 aa (cJ aa aa (dy aa aa ?_));refine rq 1 aa (aP aa (aB aa (TimeX (X:=X) F O ae U ak ae) ?_));rintro _ _⟨Z,oL,rfl,Al,CY,vc,LL,Tq⟩;refine rq 2 aa ?_;refine aP rfl (aY (rows:=A) (ys:=[[(aq M),Y,Z]]) rfl rfl rfl (.bs (rows:=[[(aq M),Y,Z]]) rfl) ao ae (fun h=>by rw[h];rfl) (fun h=>by rw[h];rfl) ?_);exact W
 exact rc 6 aa (cA 4 90 aa aa (fun _=>⟨aa,aa⟩) (W))
end Go.Ev.Rp
namespace Go.Ev.Rp
open Go Go.Ev.Pp
attribute [local irreducible] VC VO VQ VI Sound bY
theorem valuesC{T:aM}(F:FT T){a0 a1 a2:DC}{Y:ai}(cM:au Y a0)(cT:Y.length≤200)(bN:af ey Y){G:ai}(U:au G a1)(dn:G.length≤1000000000)(cq:af bn G){Z:ai}(ct:au Z a2)(df:Z.length≤1000000000)(bQ:af cu Z):Sound T 231 [.d a0,.d a1,.d a2] fun r=>∃y0 I,r= .d y0∧au I y0∧(I.length:Int)≤G.length∧af cu I∧0≤(I.length:Int)∧(I=[]→y0= .nil):=by
 refine bm F.ajG aa (ch 12 aa (aQ aa U ?_));refine ro 3 aa (dP 7 90 87 32 3 aa aa (bj [11,10,6,2,1,0] [] aa aa (fun e0 b0 k VE B=>∃z A,an ((7,.ac 90 A.length 3)::(12,.d (dJ z))::e0) VE∧an ((90,.acc 87 32 3 A)::b0) B∧k=((G.length:Int) -z).toNat∧(0≤z∧(z≤(G.length:Int)∨z=0))∧((A.length:Int)≤z)∧(af cu A)) ?_ fin));rintro _ VE B⟨z,A,hV,hB,rfl,bU,cS,GN⟩;refine aU _ _ hV hB (rc 5 aa ?_);refine ay aa ?_ ?_<;>intro g1
 ·refine rc 5 aa ?_;obtain⟨gW,jt,bS⟩:=qI z cq;refine aw (aH aa aa U ae bS aa ?_);refine aN 8 aa (aB aa (A0 F cM ae bN jt ct ae bQ) ?_);rintro _ _⟨_,_,_,rfl,⟨L,rfl,af1,af2⟩,⟨M,rfl,hzy3_1,kzy3_1⟩,O,rfl,hsy3_2⟩;refine ro 1 aa ?_;refine aw (aY (rows:=A) (ys:=[[(dJ L),(dJ M),(aq O)]]) rfl rfl rfl (.bs (rows:=[[(dJ L),(dJ M),(aq O)]]) rfl) ao ae (fun h=>by rw[h];rfl) (fun h=>by rw[h];rfl) ?_);exact W
 exact rc 6 aa (cA 6 90 aa aa (fun _=>⟨aa,aa⟩) (W))
end Go.Ev.Rp
