/- Part 34 of rules for walks through the code of a program, and of such walks; what each part proves is said by its theorems. -/
import Derived.Test.YtmpoloiempjdpaaGreatR24
import Derived.Test.YtmpoloiempjdpaaGreatR25
import Derived.Test.YtmpoloiempjdpaaGreatR33
set_option linter.unusedVariables false
set_option linter.unusedSimpArgs false
noncomputable section
set_option maxRecDepth 100000
set_option maxHeartbeats 4000000
namespace Go.Ev.Rp
open Go Go.Ev.Pp
attribute [local irreducible] VC VO VQ VI Sound bY
theorem xA{T:aM}(F:FT T){a0 a1:DC}{bW:ai}(cM:au bW a0)(cT:bW.length≤4000000000)(bN:af bn bW){bJ:ai}(cO:au bJ a1)(dn:bJ.length≤4000000000)(cq:af bn bJ):Sound T 150 [.d a0,.d a1] fun r=>∃y0 bw,r= .d y0∧au bw y0∧(bw.length:Int)≤bW.length+bJ.length∧af bn bw∧0≤(bw.length:Int)∧(bw=[]→y0= .nil):=by
 refine bm F.ajB aa (r0 17 aa (bj [13,4,1,0] [] aa aa (fun e0 b0 k VE B=>∃vY nG Y,an ((5,.d vY)::(14,.d (dJ Y))::e0) VE∧an b0 B∧k=((2:Int) -Y).toNat∧(au nG vY)∧((nG.length:Int)≤8000000000)∧(af bn nG)∧(nG=[]→vY= .nil)∧(0≤Y∧(Y≤2∨Y=0))∧((Y=0→(nG.length:Int)≤0)∧(Y=1→nG.length≤bW.length)∧(Y=2→nG.length≤bW.length+bJ.length))) ?_ fin));rintro _ VE B⟨vY,nG,Y,hV,hB,rfl,hdv5_0,cS,SR,aeR,vZ,yK⟩;refine aU _ _ hV hB (rc 5 aa ?_);refine ay aa ?_ ?_<;>intro g1
 ·refine rc 5 aa ?_;rcases(by omega:Y=0∨Y=1) with ng|ng
  ·refine aw (Kv (j:=0) rfl (by rw[ng];rfl) ao rfl ?_);refine aN 5 aa (aQ aa cM ?_);refine ro 3 aa (bj [18,17,15,14,13,7,4,1,0] [] aa aa (fun e0 b0 k VE B=>∃iV A O,an ((5,.d iV)::(19,.d (dJ O))::e0) VE∧an b0 B∧k=((bW.length:Int) -O).toNat∧(au A iV)∧((A.length:Int)≤8000000000)∧(af bn A)∧(A=[]→iV= .nil)∧(0≤O∧(O≤(bW.length:Int)∨O=0))∧((Y=0→(A.length:Int)≤O)∧(Y=1→(A.length:Int)≤bW.length+O))) ?_ fin);rintro _ VE B⟨iV,A,O,hV,hB,rfl,G,gL,L,M,OE,OF⟩;refine aU _ _ hV hB (rc 5 aa ?_);refine ay aa ?_ ?_<;>intro g3
   ·refine rc 5 aa ?_;obtain⟨_,⟨Z,rfl,tt,tu⟩,dj⟩:=qI O bN;refine aw (aH aa aa cM ae dj aa ?_);refine ro 9 aa (bj [20,19,18,17,15,14,13,9,7,5,4,1,0] [] aa aa (fun e0 b0 k VE B=>∃I,an ((10,.d (dJ I))::e0) VE∧an b0 B∧d9 k 0 I (A.length:Int)) ?_ fin);rintro _ VE B⟨I,hV,hB,rfl,na⟩;refine aU _ _ hV hB (aA 5 aa (aQ aa G ?_));refine ro 2 aa ?_;refine br aa ?_ ?_<;>intro g5
    ·refine ro 2 aa ?_;obtain⟨_,⟨DI,rfl,LM,LN⟩,fE⟩:=qI I L;refine bM aa aa (aH aa aa G ae fE aa ?_);refine ro 2 aa (rp 3 aa ?_);refine ay aa ?_ ?_<;>intro h7
     ·exact W
     refine aA 5 aa (aQ aa G ?_);refine ro 2 aa ?_;refine br aa ?_ ?_<;>intro g8
     ·refine ro 8 aa (eu aa aa (rc 3 aa ?_));obtain⟨j9,wN,uA⟩:=bD (z:=I) (n:=A.length+1) ae ae;refine aV (eQ (l:=0) (h:=j9) rfl G L rfl M ⟨_,(by rw[←wN];rfl)⟩ rfl ae ae (fun d10 J7 IT hl10 Wp=>?_));refine aP aa (VI.fresh aa (eb (ys:=J7) 52 aa aa aa aa aa (.sD IT (cD Wp aa)) ao ae ?_));refine rq 2 aa (aP aa (aY (rows:=J7) (ys:=[[(dJ Z)]]) aa aa aa (.bs (rows:=[[(dJ Z)]]) aa) ao ae bR bR ?_));refine rq 2 aa ?_;obtain⟨nj,sq,IS⟩:=bD (z:=I) (n:=A.length+1) ae ae;refine aV (eQ (l:=nj) (h:=A.length) rfl G L rfl M rfl ⟨_,(by rw[←sq];rfl)⟩ ae ae (fun d12 Ps IU hl12 Wq=>?_));refine aP aa (aY (rows:=(J7++[[(dJ Z)]])) (ys:=Ps) aa aa aa (.sD IU (cD Wq aa)) ao ae (fun h=>absurd h bH) (fun h=>absurd h bH) ?_);exact rq 2 aa (cA 5 52 aa aa (fun _=>⟨aa,aa⟩) (W))
     refine ro 2 aa (bM aa aa (aH aa aa G ae fE aa ?_));refine ro 5 aa ?_;refine ay aa ?_ ?_<;>intro sT
     ·refine rc 3 aa ?_;obtain⟨ry,v3,ue⟩:=bD (z:=I) (n:=A.length+1) ae ae;refine aV (eQ (l:=0) (h:=ry) rfl G L rfl M ⟨_,(by rw[←v3];rfl)⟩ rfl ae ae (fun d15 E7 Ws ajY hr15=>?_));refine aP aa (VI.fresh aa (eb (ys:=E7) 52 aa aa aa aa aa (.sD Ws (cD hr15 aa)) ao ae ?_));refine rq 2 aa (aP aa (aY (rows:=E7) (ys:=[[(dJ Z)]]) aa aa aa (.bs (rows:=[[(dJ Z)]]) aa) ao ae bR bR ?_));refine rq 2 aa ?_;obtain⟨mE,sA,uf⟩:=bD (z:=I) (n:=A.length+1) ae ae;refine aV (eQ (l:=mE) (h:=A.length) rfl G L rfl M rfl ⟨_,(by rw[←sA];rfl)⟩ ae ae (fun Ye zm Bx OG Eo=>?_));refine aP aa (aY (rows:=(E7++[[(dJ Z)]])) (ys:=zm) aa aa aa (.sD Bx (cD Eo aa)) ao ae (fun h=>absurd h bH) (fun h=>absurd h bH) ?_);exact rq 2 aa (cA 5 52 aa aa (fun _=>⟨aa,aa⟩) (W))
     exact W
    refine ro 8 aa (dq aa aa (aA 5 aa (aQ aa G ?_)));refine ro 2 aa ?_;refine br aa ?_ ?_<;>intro sU
    ·refine ro 8 aa (eu aa aa (rc 3 aa ?_));obtain⟨sV,By,Bz⟩:=bD (z:=I) (n:=A.length+1) ae ae;refine aV (eQ (l:=0) (h:=sV) rfl G L rfl M ⟨_,(by rw[←By];rfl)⟩ rfl ae ae (fun d20 mF Wt yO IV=>?_));refine aP aa (VI.fresh aa (eb (ys:=mF) 52 aa aa aa aa aa (.sD Wt (cD IV aa)) ao ae ?_));refine rq 2 aa (aP aa (aY (rows:=mF) (ys:=[[(dJ Z)]]) aa aa aa (.bs (rows:=[[(dJ Z)]]) aa) ao ae bR bR ?_));refine rq 2 aa ?_;obtain⟨nk,pT,mi⟩:=bD (z:=I) (n:=A.length+1) ae ae;refine aV (eQ (l:=nk) (h:=A.length) rfl G L rfl M rfl ⟨_,(by rw[←pT];rfl)⟩ ae ae (fun d22 w22 Wu hl22 hr22=>?_));refine aP aa (aY (rows:=(mF++[[(dJ Z)]])) (ys:=w22) aa aa aa (.sD Wu (cD hr22 aa)) ao ae (fun h=>absurd h bH) (fun h=>absurd h bH) ?_);exact rq 2 aa (cA 5 52 aa aa (fun _=>⟨aa,aa⟩) (W))
    refine ro 2 aa ?_;obtain⟨_,⟨zx23_0,rfl,hzx23_0,kzx23_0⟩,v7⟩:=qI I L;refine bM aa aa (aH aa aa G ae v7 aa ?_);refine ro 2 aa (rp 3 aa ?_);refine ay aa ?_ ?_<;>intro X6
    ·refine rc 3 aa ?_;obtain⟨qa,BA,IW⟩:=bD (z:=I) (n:=A.length+1) ae ae;refine aV (eQ (l:=0) (h:=qa) rfl G L rfl M ⟨_,(by rw[←BA];rfl)⟩ rfl ae ae (fun d26 Yf Wv hl26 hr26=>?_));refine aP aa (VI.fresh aa (eb (ys:=Yf) 52 aa aa aa aa aa (.sD Wv (cD hr26 aa)) ao ae ?_));refine rq 2 aa (aP aa (aY (rows:=Yf) (ys:=[[(dJ Z)]]) aa aa aa (.bs (rows:=[[(dJ Z)]]) aa) ao ae bR bR ?_));refine rq 2 aa ?_;obtain⟨uB,IX,Ww⟩:=bD (z:=I) (n:=A.length+1) ae ae;refine aV (eQ (l:=uB) (h:=A.length) rfl G L rfl M rfl ⟨_,(by rw[←IX];rfl)⟩ ae ae (fun d28 od Wx OH Wy=>?_));refine aP aa (aY (rows:=(Yf++[[(dJ Z)]])) (ys:=od) aa aa aa (.sD Wx (cD Wy aa)) ao ae (fun h=>absurd h bH) (fun h=>absurd h bH) ?_);exact rq 2 aa (cA 5 52 aa aa (fun _=>⟨aa,aa⟩) (W))
    exact W
   exact W
  refine aw (Kv (j:=1) rfl (by rw[ng];rfl) ao rfl ?_);refine aN 5 aa (aQ aa cO ?_);refine ro 3 aa (bj [18,17,15,14,13,7,4,1,0] [] aa aa (fun e0 b0 k VE B=>∃iV A O,an ((5,.d iV)::(19,.d (dJ O))::e0) VE∧an b0 B∧k=((bJ.length:Int) -O).toNat∧(au A iV)∧((A.length:Int)≤8000000000)∧(af bn A)∧(A=[]→iV= .nil)∧(0≤O∧(O≤(bJ.length:Int)∨O=0))∧((Y=0→(A.length:Int)≤O)∧(Y=1→(A.length:Int)≤bW.length+O))) ?_ fin);rintro _ VE B⟨iV,A,O,hV,hB,rfl,G,gL,L,M,OE,OF⟩;refine aU _ _ hV hB (rc 5 aa ?_);refine ay aa ?_ ?_<;>intro X8
  ·refine rc 5 aa ?_;obtain⟨_,⟨U,rfl,acx,acy⟩,v8⟩:=qI O cq;refine aw (aH aa aa cO ae v8 aa ?_);refine ro 9 aa (bj [20,19,18,17,15,14,13,9,7,5,4,1,0] [] aa aa (fun e0 b0 k VE B=>∃I,an ((10,.d (dJ I))::e0) VE∧an b0 B∧d9 k 0 I (A.length:Int)) ?_ fin);rintro _ VE B⟨I,hV,hB,rfl,na⟩;refine aU _ _ hV hB (aA 5 aa (aQ aa G ?_));refine ro 2 aa ?_;refine br aa ?_ ?_<;>intro g31
   ·refine ro 2 aa ?_;obtain⟨_,⟨zx32_0,rfl,hzx32_0,kzx32_0⟩,IY⟩:=qI I L;refine bM aa aa (aH aa aa G ae IY aa ?_);refine ro 2 aa (rp 3 aa ?_);refine ay aa ?_ ?_<;>intro h33
    ·exact W
    refine aA 5 aa (aQ aa G ?_);refine ro 2 aa ?_;refine br aa ?_ ?_<;>intro J3
    ·refine ro 8 aa (eu aa aa (rc 3 aa ?_));obtain⟨uC,IZ,Wz⟩:=bD (z:=I) (n:=A.length+1) ae ae;refine aV (eQ (l:=0) (h:=uC) rfl G L rfl M ⟨_,(by rw[←IZ];rfl)⟩ rfl ae ae (fun d36 Yg WA hl36 hr36=>?_));refine aP aa (VI.fresh aa (eb (ys:=Yg) 52 aa aa aa aa aa (.sD WA (cD hr36 aa)) ao ae ?_));refine rq 2 aa (aP aa (aY (rows:=Yg) (ys:=[[(dJ U)]]) aa aa aa (.bs (rows:=[[(dJ U)]]) aa) ao ae bR bR ?_));refine rq 2 aa ?_;obtain⟨uD,I0,WB⟩:=bD (z:=I) (n:=A.length+1) ae ae;refine aV (eQ (l:=uD) (h:=A.length) rfl G L rfl M rfl ⟨_,(by rw[←I0];rfl)⟩ ae ae (fun d38 Pt WC ajZ hr38=>?_));refine aP aa (aY (rows:=(Yg++[[(dJ U)]])) (ys:=Pt) aa aa aa (.sD WC (cD hr38 aa)) ao ae (fun h=>absurd h bH) (fun h=>absurd h bH) ?_);exact rq 2 aa (cA 5 52 aa aa (fun _=>⟨aa,aa⟩) (W))
    refine ro 2 aa (bM aa aa (aH aa aa G ae IY aa ?_));refine ro 5 aa ?_;refine ay aa ?_ ?_<;>intro Pu
    ·refine rc 3 aa ?_;obtain⟨wO,WD,kj40⟩:=bD (z:=I) (n:=A.length+1) ae ae;refine aV (eQ (l:=0) (h:=wO) rfl G L rfl M ⟨_,(by rw[←WD];rfl)⟩ rfl ae ae (fun d41 Yh WE hl41 hr41=>?_));refine aP aa (VI.fresh aa (eb (ys:=Yh) 52 aa aa aa aa aa (.sD WE (cD hr41 aa)) ao ae ?_));refine rq 2 aa (aP aa (aY (rows:=Yh) (ys:=[[(dJ U)]]) aa aa aa (.bs (rows:=[[(dJ U)]]) aa) ao ae bR bR ?_));refine rq 2 aa ?_;obtain⟨qb,BB,BC⟩:=bD (z:=I) (n:=A.length+1) ae ae;refine aV (eQ (l:=qb) (h:=A.length) rfl G L rfl M rfl ⟨_,(by rw[←BB];rfl)⟩ ae ae (fun d43 w43 WG hl43 hr43=>?_));refine aP aa (aY (rows:=(Yh++[[(dJ U)]])) (ys:=w43) aa aa aa (.sD WG (cD hr43 aa)) ao ae (fun h=>absurd h bH) (fun h=>absurd h bH) ?_);exact rq 2 aa (cA 5 52 aa aa (fun _=>⟨aa,aa⟩) (W))
    exact W
   refine ro 8 aa (dq aa aa (aA 5 aa (aQ aa G ?_)));refine ro 2 aa ?_;refine br aa ?_ ?_<;>intro Yi
   ·refine ro 8 aa (eu aa aa (rc 3 aa ?_));obtain⟨rz,I1,WH⟩:=bD (z:=I) (n:=A.length+1) ae ae;refine aV (eQ (l:=0) (h:=rz) rfl G L rfl M ⟨_,(by rw[←I1];rfl)⟩ rfl ae ae (fun d46 E8 WI aj0 hr46=>?_));refine aP aa (VI.fresh aa (eb (ys:=E8) 52 aa aa aa aa aa (.sD WI (cD hr46 aa)) ao ae ?_));refine rq 2 aa (aP aa (aY (rows:=E8) (ys:=[[(dJ U)]]) aa aa aa (.bs (rows:=[[(dJ U)]]) aa) ao ae bR bR ?_));refine rq 2 aa ?_;obtain⟨sW,WJ,kj47⟩:=bD (z:=I) (n:=A.length+1) ae ae;refine aV (eQ (l:=sW) (h:=A.length) rfl G L rfl M rfl ⟨_,(by rw[←WJ];rfl)⟩ ae ae (fun d48 w48 WK hl48 hr48=>?_));refine aP aa (aY (rows:=(E8++[[(dJ U)]])) (ys:=w48) aa aa aa (.sD WK (cD hr48 aa)) ao ae (fun h=>absurd h bH) (fun h=>absurd h bH) ?_);exact rq 2 aa (cA 5 52 aa aa (fun _=>⟨aa,aa⟩) (W))
   refine ro 2 aa ?_;obtain⟨_,⟨zx49_0,rfl,hzx49_0,kzx49_0⟩,WL⟩:=qI I L;refine bM aa aa (aH aa aa G ae WL aa ?_);refine ro 2 aa (rp 3 aa ?_);refine ay aa ?_ ?_<;>intro Yb
   ·refine rc 3 aa ?_;obtain⟨wP,I2,aj1⟩:=bD (z:=I) (n:=A.length+1) ae ae;refine aV (eQ (l:=0) (h:=wP) rfl G L rfl M ⟨_,(by rw[←I2];rfl)⟩ rfl ae ae (fun d52 J8 I3 hl52 WM=>?_));refine aP aa (VI.fresh aa (eb (ys:=J8) 52 aa aa aa aa aa (.sD I3 (cD WM aa)) ao ae ?_));refine rq 2 aa (aP aa (aY (rows:=J8) (ys:=[[(dJ U)]]) aa aa aa (.bs (rows:=[[(dJ U)]]) aa) ao ae bR bR ?_));refine rq 2 aa ?_;obtain⟨Ce,WN,kj53⟩:=bD (z:=I) (n:=A.length+1) ae ae;refine aV (eQ (l:=Ce) (h:=A.length) rfl G L rfl M rfl ⟨_,(by rw[←WN];rfl)⟩ ae ae (fun d54 w54 WO hl54 hr54=>?_));refine aP aa (aY (rows:=(J8++[[(dJ U)]])) (ys:=w54) aa aa aa (.sD WO (cD hr54 aa)) ao ae (fun h=>absurd h bH) (fun h=>absurd h bH) ?_);exact rq 2 aa (cA 5 52 aa aa (fun _=>⟨aa,aa⟩) (W))
   exact W
  exact W
 exact W
theorem sortC_{T:aM}(F:FT T)(N:Nat):∀{a0:DC}{O:ai}(Z:au O a0)(cT:O.length≤1000000000)(bN:af qD O)(hN:O.length≤N),Sound T 182 [.d a0] fun r=>∃(y0:DC)(bw:ai),r= .d y0∧au bw y0∧(bw.length:Int)≤O.length∧af qD bw∧0≤(bw.length:Int)∧(bw=[]→y0= .nil):=by
 induction N using Nat.strongRecOn with
 |_ N ih=>
 intro a0 O Z cT bN hN;refine bm F.ajD aa (ch 8 aa (aQ aa Z ?_));refine ro 2 aa ?_;refine ay aa ?_ ?_<;>intro g1
 ·refine aA 3 aa (eb (ys:=O) 12 aa aa aa aa aa (.sD Z (cD bN aa)) ao ae ?_);exact ro 2 aa (cA 2 12 aa aa (fun _=>⟨aa,aa⟩) (W))
 refine rc 5 aa (aV (aQ aa Z ?_));refine aV (rM aa aa aa aa ae ae ae ao ?_);obtain⟨j2,pZ,p'⟩:=bD (z:=((O.length:Int)/2)) (n:=O.length+1) ae ae;refine aV (eQ (l:=0) (h:=j2) rfl Z bN rfl (tE ae) ⟨_,(by rw[←pZ];rfl)⟩ rfl ae ae (fun d3 w3 Yj Pv Yk=>?_));refine aP aa (aB aa (ih (w3).length ae Yj ae Yk (bf _)) ?_);rintro _ _⟨gp,lD,rfl,A,tq,U,Ak,C1⟩;refine dh 2 aa (aQ aa Z ?_);refine aV (rM aa aa aa aa ae ae ae ao ?_);obtain⟨j5,Cc,Cd⟩:=bD (z:=((O.length:Int)/2)) (n:=O.length+1) ae ae;refine aV (eQ (l:=j5) (h:=O.length) rfl Z bN rfl (tE ae) rfl ⟨_,(by rw[←Cc];rfl)⟩ ae ae (fun d6 w6 Yl Ym Yn=>?_));refine aP aa (aB aa (ih (w6).length ae Yl ae Yn (bf _)) ?_);rintro _ _⟨wa,DJ,rfl,G,aeS,Y,hmy7_0,hey7_0⟩;refine rq 14 aa (dP 5 90 134 48 2 aa aa (bj [10,4,3,2,0] [] aa aa (fun e0 b0 k VE B=>∃L M I,an ((5,.ac 90 I.length 2)::(6,.d (dJ L))::(7,.d (dJ M))::e0) VE∧an ((90,.acc 134 48 2 I)::b0) B∧k=((lD.length:Int)+DJ.length-L-M).toNat∧(0≤L∧L≤(lD.length:Int))∧(0≤M∧M≤(DJ.length:Int))∧((I.length:Int)≤L+M)∧(af qD I)) ?_ fin));rintro _ VE B⟨L,M,I,hV,hB,rfl,bU,cS,ug,qw⟩;refine aU _ _ hV hB (aA 5 aa (aQ aa A ?_));refine ro 2 aa ?_;refine br aa ?_ ?_<;>intro g8
 ·refine ro 6 aa (eu aa aa (rc 6 aa (aV (aQ aa G ?_))));refine rq 2 aa ?_;refine dL aa ?_ ?_<;>intro g9
  ·refine rq 5 aa (bK aa (bK aa (bK aa (dF aa (bK aa (bK aa (bK aa (dF aa (dF aa ?_)))))))));refine bK aa (rq 3 aa (eu aa aa (rc 5 aa ?_)));obtain⟨nH,⟨aeT,acz,acA,acB⟩,pz,⟨aeB,Rl,acg,Rm⟩,gg⟩:=qI L U;refine aw (aH aa aa A ae gg aa ?_);refine ro 2 aa ?_;refine aw (aY (rows:=I) (ys:=[[nH,pz]]) rfl rfl rfl (.bs (rows:=[[nH,pz]]) rfl) ao ae (fun h=>by rw[h];rfl) (fun h=>by rw[h];rfl) ?_);exact W
  refine rq 2 aa (cl aa aa (aQ aa A ?_));refine rq 2 aa ?_;refine dL aa ?_ ?_<;>intro lN
  ·refine rq 2 aa ?_;obtain⟨pC,lU,rZ,⟨aeU,acC,acD,acE⟩,gr⟩:=qI M Y;refine cl aa aa (aH aa aa G ae gr aa ?_);refine rq 3 aa ?_;obtain⟨qJ,ow,AV,⟨aeV,Lb,acF,Lc⟩,mj⟩:=qI L U;refine cl aa aa (aH aa aa A ae mj aa ?_);refine rq 1 aa (fL aa aa aa (aB aa (aht F lU (aL acC ae acE) ow (aL Lb ae Lc)) ?_));rintro _ _⟨_,rfl,by14_0,rfl⟩;refine rq 4 aa ?_;refine cE aa ?_ ?_<;>intro J9
   ·refine aA 5 aa (aH aa aa A ae mj aa ?_);obtain⟨wx13_0,hdx13_0,hnx13_0,hrx13_0⟩:=Ty.aL ow;refine ro 2 aa ?_;refine aw (aY (rows:=I) (ys:=[[qJ,AV]]) rfl rfl rfl (.bs (rows:=[[qJ,AV]]) rfl) ao ae (fun h=>by rw[h];rfl) (fun h=>by rw[h];rfl) ?_);exact W
   refine aA 5 aa (aH aa aa G ae gr aa ?_);obtain⟨aeW,Ry,acG,acH⟩:=Ty.aL lU;refine ro 2 aa ?_;refine aw (aY (rows:=I) (ys:=[[pC,rZ]]) rfl rfl rfl (.bs (rows:=[[pC,rZ]]) rfl) ao ae (fun h=>by rw[h];rfl) (fun h=>by rw[h];rfl) ?_);exact W
  refine rq 13 aa (dq aa aa (rc 5 aa ?_));obtain⟨DK,⟨wx16_0,hdx16_0,hnx16_0,hrx16_0⟩,AW,⟨wx16_1,hdx16_1,hnx16_1,hrx16_1⟩,BD⟩:=qI M Y;refine aw (aH aa aa G ae BD aa ?_);refine ro 2 aa ?_;refine aw (aY (rows:=I) (ys:=[[DK,AW]]) rfl rfl rfl (.bs (rows:=[[DK,AW]]) rfl) ao ae (fun h=>by rw[h];rfl) (fun h=>by rw[h];rfl) ?_);exact W
 refine ro 2 aa (bM aa aa (aQ aa G ?_));refine ro 3 aa ?_;refine ay aa ?_ ?_<;>intro ux
 ·refine rc 6 aa (aV (aQ aa G ?_));refine rq 2 aa ?_;refine dL aa ?_ ?_<;>intro sU
  ·refine rq 5 aa (bK aa (bK aa (bK aa (dF aa (bK aa (bK aa (bK aa (dF aa (dF aa ?_)))))))));refine bK aa (rq 3 aa (eu aa aa (rc 5 aa ?_)));obtain⟨x8,⟨wx19_0,hdx19_0,hnx19_0,hrx19_0⟩,DL,⟨wx19_1,hdx19_1,hnx19_1,hrx19_1⟩,nU⟩:=qI L U;refine aw (aH aa aa A ae nU aa ?_);refine ro 2 aa ?_;refine aw (aY (rows:=I) (ys:=[[x8,DL]]) rfl rfl rfl (.bs (rows:=[[x8,DL]]) rfl) ao ae (fun h=>by rw[h];rfl) (fun h=>by rw[h];rfl) ?_);exact W
  refine rq 2 aa (cl aa aa (aQ aa A ?_));refine rq 2 aa ?_;refine dL aa ?_ ?_<;>intro Pw
  ·refine rq 2 aa ?_;obtain⟨vw,vd,tI,⟨wx21_1,acI,hnx21_1,acJ⟩,ml⟩:=qI M Y;refine cl aa aa (aH aa aa G ae ml aa ?_);refine rq 3 aa ?_;obtain⟨lY,ox,lZ,⟨LO,F',Ld,Ga⟩,pU⟩:=qI L U;refine cl aa aa (aH aa aa A ae pU aa ?_);refine rq 1 aa (fL aa aa aa (aB aa (aht F vd (aL acI ae acJ) ox (aL F' ae Ga)) ?_));rintro _ _⟨_,rfl,by23_0,rfl⟩;refine rq 4 aa ?_;refine cE aa ?_ ?_<;>intro Cf
   ·refine aA 5 aa (aH aa aa A ae pU aa ?_);obtain⟨LP,Le,Rz,Lf⟩:=Ty.aL ox;refine ro 2 aa ?_;refine aw (aY (rows:=I) (ys:=[[lY,lZ]]) rfl rfl rfl (.bs (rows:=[[lY,lZ]]) rfl) ao ae (fun h=>by rw[h];rfl) (fun h=>by rw[h];rfl) ?_);exact W
   refine aA 5 aa (aH aa aa G ae ml aa ?_);obtain⟨wx21_0,hdx21_0,hnx21_0,hrx21_0⟩:=Ty.aL vd;refine ro 2 aa ?_;refine aw (aY (rows:=I) (ys:=[[vw,tI]]) rfl rfl rfl (.bs (rows:=[[vw,tI]]) rfl) ao ae (fun h=>by rw[h];rfl) (fun h=>by rw[h];rfl) ?_);exact W
  refine rq 13 aa (dq aa aa (rc 5 aa ?_));obtain⟨DM,⟨wx25_0,hdx25_0,hnx25_0,hrx25_0⟩,DN,⟨wx25_1,hdx25_1,hnx25_1,hrx25_1⟩,wb⟩:=qI M Y;refine aw (aH aa aa G ae wb aa ?_);refine ro 2 aa ?_;refine aw (aY (rows:=I) (ys:=[[DM,DN]]) rfl rfl rfl (.bs (rows:=[[DM,DN]]) rfl) ao ae (fun h=>by rw[h];rfl) (fun h=>by rw[h];rfl) ?_);exact W
 exact rc 6 aa (cA 2 90 aa aa (fun _=>⟨aa,aa⟩) (W))
theorem sortC{T:aM}(F:FT T){O:DC}{A:ai}(G:au A O)(I:A.length≤1000000000)(L:af qD A):Sound T 182 [.d O] fun r=>∃M z,r= .d M∧au z M∧(z.length:Int)≤A.length∧af qD z∧0≤(z.length:Int)∧(z=[]→M= .nil):=sortC_ F _ G I L (bf _)
end Go.Ev.Rp
namespace Go.Ev.Rp
open Go Go.Ev.Pp
attribute [local irreducible] VC VO VQ VI Sound bY
theorem SS{T:aM}(F:FT T){a0:DC}(I:(Ty.s 1000).ok a0):Sound T 141 [.d a0] fun r=>∃y0,r= .d y0∧(Ty.b).ok y0:=by
 refine bm F.q141 aa ?_;obtain⟨A,rfl,ki⟩:=I;refine r0 11 aa ?_;refine br aa ?_ ?_<;>intro h1
 ·exact W
 refine ro 1 aa (bM aa aa (vi_lenStr aa ?_));refine ro 3 aa ?_;refine br aa ?_ ?_<;>intro h2
 ·exact W
 refine ro 1 aa ?_;obtain⟨j3,L,M⟩:=bD (z:=0) (n:=A.length) ae ae;obtain⟨c3,O⟩:∃c,A[j3]?=some c:=⟨_,dm M⟩;refine bM rfl rfl (Qp rfl (by rw[←L];rfl) O ?_);refine ro 3 aa ?_;refine br aa ?_ ?_<;>intro h4
 ·exact W
 refine ro 1 aa ?_;obtain⟨j5,U,Y⟩:=bD (z:=0) (n:=A.length) ae ae;obtain⟨c5,Z⟩:∃c,A[j5]?=some c:=⟨_,dm Y⟩;refine bM rfl rfl (Qp rfl (by rw[←U];rfl) Z ?_);refine ro 3 aa ?_;refine ay aa ?_ ?_<;>intro h6
 ·exact W
 refine rc 7 aa (bj [22,2,0] [] aa aa (fun e0 b0 k VE B=>∃G,an ((3,.d (dJ G))::e0) VE∧an b0 B∧d9 k 0 G (A.length:Int)) ?_ fin);rintro _ VE B⟨G,hV,hB,rfl,bU⟩;refine aU _ _ hV hB (rc 8 aa ?_);refine ay aa ?_ ?_<;>intro g7
 ·refine rc 7 aa ?_;obtain⟨j8,J',zo⟩:=bD (z:=G) (n:=A.length) ae ae;obtain⟨c8,hc8⟩:∃c,A[j8]?=some c:=⟨_,dm zo⟩;refine aw (Qp rfl (by rw[←J'];rfl) hc8 ?_);exact W
 exact W
theorem LQ{T:aM}(F:FT T){a0 a1 a2 a3 a4 a5:DC}(cP:(Ty.s 1000).ok a0)(bV:(Ty.l 100 dV).ok a1)(cG:(Ty.l 200 bn).ok a2)(cr:(Ty.l 4 ep).ok a3)(ca:(Ty.l 4 dT).ok a4)(cj:(Ty.l 200 bn).ok a5):Sound T 200 [.agg [.d a0,.d a1,.d a2,.d a3,.d a4],.d a5] fun r=>∃y0,r= .d y0∧(Ty.b).ok y0:=by
 refine bm F.q200 aa ?_;rcases cP,bV,cG,cr,ca,cj with⟨⟨gO,rfl,ki⟩,⟨bJ,L,dn,Z⟩,⟨bo,ct,df,bQ⟩,⟨du,eS,fI,et⟩,⟨dK,dx,eU,dg⟩,⟨fK,M,nc,ib⟩⟩
 refine r0 11 aa (bj [4,2,1,0] [2] aa aa (fun e0 b0 k VE B=>∃z,an ((5,.d (dJ z))::e0) VE∧an b0 B∧d9 k 0 z (bJ.length:Int)) ?_ fin);rintro _ VE B⟨z,hV,hB,rfl,bU⟩;refine aU _ _ hV hB (aA 6 aa (aQ aa L ?_));refine ro 2 aa ?_;refine ay aa ?_ ?_<;>intro g1
 ·refine rc 8 aa (bj [11,5,4,2,1,0] [2] aa aa (fun e0 b0 k VE B=>∃A,an ((6,.d (dJ A))::e0) VE∧an b0 B∧d9 k 0 A (fK.length:Int)) ?_ fin);rintro _ VE B⟨A,hV,hB,rfl,fu⟩;refine aU _ _ hV hB (aA 5 aa (aQ aa M ?_));refine ro 2 aa ?_;refine ay aa ?_ ?_<;>intro g2
  ·refine rc 8 aa ?_;obtain⟨pS,O,ud,U,Br,⟨UB,G,Sr,I⟩,fJ⟩:=qI z Z;refine aV (aH aa aa L ae fJ aa ?_);refine cJ aa aa (iJ aa (aX aa) (aX aa) ?_);refine rq 2 aa ?_;obtain⟨oS,Y,dj⟩:=qI A ib;refine aV (aH aa aa M ae dj aa ?_);refine cJ aa aa (dy aa aa ?_);refine aP aa (aB aa (OC F O U G ae I Y) ?_);rintro _ _⟨jz,rfl,pw⟩;exact W
  exact W
 exact W
theorem folC{T:aM}(F:FT T){a0 a1 a2 a3 a4 a5 a6:DC}(cP:tJ.ok a0)(bV:tJ.ok a1)(cG:(Ty.l 13 lE).ok a2)(cr:tJ.ok a3)(ca:tJ.ok a4)(cj:(Ty.l 13 lE).ok a5)(fi:tJ.ok a6):Sound T 198 [.agg [.d a0,.d a1,.d a2],.agg [.d a3,.d a4,.d a5],.d a6] fun r=>∃y0,r= .d y0∧(Ty.b).ok y0:=by
 refine bm F.q198 aa ?_;rcases cP,bV,cG,cr,ca,cj,fi with⟨⟨aJ,rfl,iv,iw⟩,⟨aS,rfl,eB,ee⟩,⟨bo,G,df,I⟩,⟨aT,rfl,mf,mg⟩,⟨bA,rfl,mW,mX⟩,⟨fK,z,nc,ib⟩,⟨bu,rfl,nP,nQ⟩⟩
 refine r0 17 aa ?_;refine ay aa ?_ ?_<;>intro h1
 ·exact W
 refine rc 7 aa (bj [15,6,4,3,2,1,0] [4,3] aa aa (fun e0 b0 k VE B=>∃A,an ((7,.d (dJ A))::e0) VE∧an b0 B∧d9 k 0 A (fK.length:Int)) ?_ fin);rintro _ VE B⟨A,hV,hB,rfl,bU⟩;refine aU _ _ hV hB (aA 6 aa (aQ aa z ?_));refine ro 2 aa ?_;refine ay aa ?_ ?_<;>intro g2
 ·refine rc 9 aa ?_;obtain⟨_,⟨L,rfl,LK,GD⟩,_,⟨M,rfl,hsx3_1⟩,_,⟨O,rfl,hzx3_2,kzx3_2⟩,U⟩:=qI A ib;refine aV (aH aa aa z ae U aa ?_);refine rq 1 aa (cJ aa aa (dy aa aa ?_));refine aP aa (aB aa (OC F ak ak G ae I ak) ?_);rintro _ _⟨gp,rfl,tH⟩;refine rq 7 aa ?_;refine dL aa ?_ ?_<;>intro g5
  ·refine rq 3 aa (cl aa aa (aH aa aa z ae U aa ?_));refine rq 6 aa ?_;refine dL aa ?_ ?_<;>intro g6
   ·refine rq 3 aa (bK aa (dF aa (bK aa (bK aa (dF aa (bK aa (dF aa (bK aa (bK aa ?_)))))))));exact dF aa (bK aa (rq 2 aa (W)))
   refine rq 3 aa ?_;refine dL aa ?_ ?_<;>intro g7
   ·refine rq 3 aa ?_;obtain⟨_,⟨HP,rfl,aeX,aeY⟩,_,⟨ahv,rfl,hsx8_1⟩,_,⟨zx8_2,rfl,hzx8_2,kzx8_2⟩,iG⟩:=qI gp I;refine cl aa aa (aH aa aa G ae iG aa ?_);refine rq 4 aa (cl aa aa (aH aa aa z ae U aa ?_));refine rq 1 aa (cl aa aa (xj (r:=[(dJ HP),(aq ahv),(dJ zx8_2)]) (r':=[(dJ L),(aq M),(dJ O)]) aa aa aa aa (fun b9=>?_)));exact rq 2 aa (W)
   exact rq 13 aa (W)
  refine rq 13 aa ?_;refine dL aa ?_ ?_<;>intro lN
  ·refine rq 3 aa ?_;obtain⟨_,⟨Y,rfl,acK,acL⟩,_,⟨Z,rfl,hsx12_1⟩,_,⟨zx12_2,rfl,hzx12_2,kzx12_2⟩,gr⟩:=qI gp I;refine cl aa aa (aH aa aa G ae gr aa ?_);refine rq 4 aa (cl aa aa (aH aa aa z ae U aa ?_));refine rq 1 aa (cl aa aa (xj (r:=[(dJ Y),(aq Z),(dJ zx12_2)]) (r':=[(dJ L),(aq M),(dJ O)]) aa aa aa aa (fun b13=>?_)));exact rq 2 aa (W)
  exact rq 13 aa (W)
 exact W
theorem UJ{T:aM}(F:FT T){a0 a1 a2 a3 a4 a5:DC}(cP:(Ty.s 1000).ok a0)(bV:(Ty.l 100 dV).ok a1)(cG:(Ty.l 200 bn).ok a2)(cr:(Ty.l 4 ep).ok a3)(ca:(Ty.l 4 dT).ok a4)(cj:tJ.ok a5):Sound T 99 [.agg [.d a0,.d a1,.d a2,.d a3,.d a4],.d a5] fun r=>∃y0,r= .d y0∧(Ty.b).ok y0:=by
 refine bm F.q99 aa ?_;rcases cP,bV,cG,cr,ca,cj with⟨⟨gO,rfl,ki⟩,⟨bJ,cO,dn,cq⟩,⟨bo,O,df,U⟩,⟨du,L,fI,Y⟩,⟨dK,M,eU,Z⟩,⟨cg,rfl,mY,mZ⟩⟩
 refine ch 11 aa (aB aa (DH F O ae U ak) ?_);rintro _ _⟨_,rfl,UK,rfl⟩;refine ro 1 aa ?_;refine cE aa ?_ ?_<;>intro h2
 ·exact W
 refine rc 7 aa (bj [11,4,2,1,0] [2] aa aa (fun e0 b0 k VE B=>∃z,an ((5,.d (dJ z))::e0) VE∧an b0 B∧d9 k 0 z (du.length:Int)) ?_ fin);rintro _ VE B⟨z,hV,hB,rfl,bU⟩;refine aU _ _ hV hB (aA 6 aa (aQ aa L ?_));refine ro 2 aa ?_;refine ay aa ?_ ?_<;>intro g3
 ·refine rc 8 aa ?_;obtain⟨_,rfl,_,⟨sx4_1,rfl,hsx4_1⟩,_,rfl,dj⟩:=qI z Y;refine aw (aH aa aa L ae dj aa ?_);refine aN 9 aa (aB aa (DH F (.inl aa) ae tp ak) ?_);rintro _ _⟨_,rfl,MM,rfl⟩;refine ro 1 aa ?_;refine br aa ?_ ?_<;>intro h6
  ·exact W
  refine ro 4 aa (bM aa aa (pb aa aa ?_));refine ro 1 aa ?_;refine br aa ?_ ?_<;>intro g8
  ·refine ro 3 aa (bM aa aa (aB aa (DH F (.inl aa) ae tp ak) ?_));rintro _ _⟨I4,rfl,MN⟩;exact W
  exact W
 refine rc 7 aa (bj [16,11,5,4,2,1,0] [2] aa aa (fun e0 b0 k VE B=>∃A,an ((7,.d (dJ A))::e0) VE∧an b0 B∧d9 k 0 A (dK.length:Int)) ?_ fin);rintro _ VE B⟨A,hV,hB,rfl,fu⟩;refine aU _ _ hV hB (aA 6 aa (aQ aa M ?_));refine ro 2 aa ?_;refine ay aa ?_ ?_<;>intro lN
 ·refine rc 8 aa ?_;obtain⟨pC,lU,rZ,⟨aeU,G,acD,I⟩,gr⟩:=qI A Z;refine aw (aH aa aa M ae gr aa ?_);refine aN 3 aa (aB aa (DH F G ae I ak) ?_);rintro _ _⟨vx,rfl,LR⟩;exact W
 exact W
theorem aay{T:aM}(F:FT T){L M:DC}{A:ai}(G:au A L)(O:A.length≤1000000000)(U:af bn A)(I:tJ.ok M):Sound T 146 [.d L,.d M] fun r=>∃Y,r= .d Y∧(Ty.b).ok Y:=by
 refine bm F.q146 aa ?_;obtain⟨aS,rfl,Z,ee⟩:=I;refine ch 8 aa (aQ aa G ?_);refine ro 3 aa (bj [8,7,4,1,0] [] aa aa (fun e0 b0 k VE B=>∃z,an ((9,.d (dJ z))::e0) VE∧an b0 B∧d9 k 0 z (A.length:Int)) ?_ fin);rintro _ VE B⟨z,hV,hB,rfl,bU⟩;exact aU _ _ hV hB (W)
theorem InsertC{T:aM}(F:FT T){L Z a2:DC}(M:(Ty.l 1000000000 cu).ok L)(O:tJ.ok Z)(U:tJ.ok a2):Sound T 103 [.d L,.agg [.d Z,.d a2]] fun r=>∃y0 z y2 A,r= .agg [.d y0,.d y2]∧au z y0∧(z.length:Int)≤0∧af bn z∧au A y2∧(A.length:Int)≤1∧af jS A:=by
 refine bm F.q103 aa ?_;rcases M,O,U with⟨⟨bW,G,cT,I⟩,⟨aS,rfl,eB,ee⟩,⟨bz,rfl,lF,lG⟩⟩
 refine ch 9 aa (aB aa (GI F ak ak) ?_);rintro _ _⟨_,rfl,Y,rfl⟩;refine ro 2 aa ?_;refine cE aa ?_ ?_<;>intro h2
 ·exact W
 refine rc 7 aa ?_;have uv:af jS [[L,(dJ aS),(dJ bz),.nil]]:=(cH (ah (aL G ae I) (ah ak (ah ak (ah gw bl)))) cb);exact eZ 12 12 aa aa (fun _=>⟨aa,aa⟩) (W)
theorem aeZ{T:aM}(F:FT T){a0:DC}{I:ai}(Z:au I a0)(cT:I.length≤1000000000)(bN:af jS I):Sound T 111 [.d a0] fun r=>∃y0 L,r= .d y0∧au L y0∧(L.length:Int)≤2*(I.length:Int)∧af bn L∧0≤(L.length:Int)∧(L=[]→y0= .nil):=by
 refine bm F.q111 aa (ch 12 aa (aQ aa Z ?_));refine ro 3 aa (bj [7,6,2,0] [] aa aa (fun e0 b0 k VE B=>∃G A z,an ((3,.d G)::(8,.d (dJ z))::e0) VE∧an b0 B∧k=((I.length:Int) -z).toNat∧(au A G)∧((A.length:Int)≤2*z)∧(af bn A)∧(A=[]→G= .nil)∧(0≤z∧(z≤(I.length:Int)∨z=0))) ?_ fin);rintro _ VE B⟨G,A,z,hV,hB,rfl,U,cS,Y,ae0,vZ⟩;refine aU _ _ hV hB (rc 5 aa ?_);refine ay aa ?_ ?_<;>intro g1
 ·refine rc 5 aa ?_;obtain⟨gW,jt,fH,M,gf,O,lk,lC,bS⟩:=qI z bN;refine aw (aH aa aa Z ae bS aa ?_);refine aN 8 aa (aB aa (ph F M O) ?_);rintro _ _⟨_,rfl,AX,rfl⟩;refine ro 1 aa ?_;refine cE aa ?_ ?_<;>intro h4
  ·refine rc 1 aa ?_;rcases Ty.dY M,Ty.dY O with⟨⟨vz,rfl,u9,qv⟩,⟨MO,rfl,xv,xw⟩⟩
   refine rp 8 aa ?_;have JX:af bn [[(dJ vz)],[(dJ MO)]]:=(cH (ah ak bl) (cH (ah ak bl) cb));refine eZ 22 22 aa aa (fun _=>⟨aa,aa⟩) (aw (aB aa (xA F U ae Y (.inl aa) ae JX) ?_));rintro _ _⟨lg,qK,rfl,oy,xB,nA,SU,ae1⟩;exact W
  exact W
 exact W
theorem HQ{T:aM}(F:FT T){a0:DC}{G:ai}(I:au G a0)(cT:G.length≤1000000000)(L:af bn G):Sound T 199 [.d a0] fun r=>∃y0,r= .d y0∧(Ty.b).ok y0:=by
 refine bm F.q199 aa (r0 10 aa (bj [2,0] [] aa aa (fun e0 b0 k VE B=>∃A,an ((3,.d (dJ A))::e0) VE∧an b0 B∧d9 k 0 A (G.length:Int)) ?_ fin));rintro _ VE B⟨A,hV,hB,rfl,bU⟩;refine aU _ _ hV hB (aA 5 aa (aQ aa I ?_));refine ro 2 aa ?_;refine ay aa ?_ ?_<;>intro g1
 ·refine rc 7 aa ?_;obtain⟨j2,O,p'⟩:=bD (z:=A) (n:=G.length+1) ae ae;refine aV (eQ (l:=0) (h:=j2) rfl I L rfl (tE ae) ⟨_,(by rw[←O];rfl)⟩ rfl ae ae (fun d3 w3 U Pv Y=>?_));refine rq 2 aa ?_;obtain⟨oS,M,Z⟩:=qI A L;refine aV (aH aa aa I ae Z aa ?_);refine cJ aa aa (dy aa aa ?_);refine aP aa (aB aa (DH F U ae Y M) ?_);rintro _ _⟨jz,rfl,pw⟩;exact W
 exact W
end Go.Ev.Rp
namespace Go.Ev.Rp
open Go Go.Ev.Pp
attribute [local irreducible] VC VO VQ VI Sound bY
theorem SV{T:aM}(F:FT T){G:DC}(z:(Ty.s 1000).ok G):Sound T 94 [.d G] fun r=>∃I,r= .d I∧(Ty.b).ok I:=by
 refine bm F.q94 aa ?_;obtain⟨M,rfl,L⟩:=z;refine ch 7 aa (aB aa (SS F (bB al)) ?_);rintro _ _⟨_,rfl,A,rfl⟩;refine ro 1 aa ?_;refine br aa ?_ ?_<;>intro h2
 ·refine ro 1 aa (bM aa aa (kE (b:=[118,102,114,111,109]) aa aa ?_));refine ro 2 aa ?_;refine br aa ?_ ?_<;>intro O
  ·refine ro 1 aa (bM aa aa (kE (b:=[118,116,111]) aa aa ?_));refine ro 2 aa ?_;refine br aa ?_ ?_<;>intro U
   ·refine ro 1 aa (bM aa aa (kE (b:=[114,102,114,111,109]) aa aa ?_));refine ro 2 aa ?_;refine br aa ?_ ?_<;>intro Y
    ·refine ro 1 aa (bM aa aa (kE (b:=[114,116,111]) aa aa ?_));exact eJ 4 aa (bL aa aa fin)
    exact W
   exact W
  exact W
 exact W
theorem vverC{T:aM}(F:FT T){a0 a1 a2:DC}(cP:tJ.ok a0)(bV:tJ.ok a1){L:ai}(z:au L a2)(df:L.length≤13)(I:af lE L):Sound T 197 [.agg [.d a0,.d a1,.d a2]] fun r=>∃y0,r=dB y0∧(y0=true→1≤(L.length:Int)∧(L.length:Int)≤12):=by
 refine bm F.q197 aa ?_;rcases cP,bV with⟨⟨aJ,rfl,iv,iw⟩,⟨aS,rfl,eB,ee⟩⟩
 refine ch 10 aa (aB aa (ph F ak ak) ?_);rintro _ _⟨_,rfl,UK,rfl⟩;refine ro 2 aa ?_;refine br aa ?_ ?_<;>intro h2
 ·exact W
 refine ro 2 aa (bM aa aa (aQ aa z ?_));refine ro 3 aa ?_;refine br aa ?_ ?_<;>intro h3
 ·exact W
 refine ro 2 aa (bM aa aa (aQ aa z ?_));refine ro 3 aa ?_;refine ay aa ?_ ?_<;>intro h4
 ·exact W
 refine rc 7 aa (bj [20,2,1,0] [1] aa aa (fun e0 b0 k VE B=>∃G,an ((3,.d (dJ G))::e0) VE∧an b0 B∧d9 k 0 G (L.length:Int)) ?_ fin);rintro _ VE B⟨G,hV,hB,rfl,bU⟩;refine aU _ _ hV hB (aA 6 aa (aQ aa z ?_));refine ro 2 aa ?_;refine ay aa ?_ ?_<;>intro g5
 ·refine rc 8 aa ?_;obtain⟨_,⟨DI,rfl,Y,Z⟩,BE,A,_,⟨UL,rfl,hzx6_2,kzx6_2⟩,fE⟩:=qI G I;refine aw (aH aa aa z ae fE aa ?_);refine ro 6 aa (rp 4 aa ?_);refine dL aa ?_ ?_<;>intro g7
  ·refine rq 8 aa (bK aa (dF aa (bK aa (dF aa (bK aa (bK aa (bK aa (bK aa (dF aa ?_)))))))));exact bK aa (rq 26 aa (W))
  refine rq 5 aa ?_;refine dL aa ?_ ?_<;>intro g8
  ·refine rq 3 aa (bK aa (dF aa (bK aa (dF aa (bK aa (bK aa (bK aa (bK aa (dF aa ?_)))))))));exact bK aa (rq 26 aa (W))
  refine rq 3 aa ?_;refine dL aa ?_ ?_<;>intro g9
  ·refine rq 5 aa (cl aa aa (dQ aa aa ae ae ?_));obtain⟨_,⟨ae2,rfl,M,O⟩,pz,xC,DO,xD,U⟩:=qI (G-1) I;refine cl aa aa (aH aa aa z ae U aa ?_);refine rq 2 aa (rp 4 aa ?_);refine dL aa ?_ ?_<;>intro lN
   ·exact rq 23 aa (W)
   refine rq 2 aa (fL aa aa aa (aB aa (SV F A) ?_));rintro _ _⟨_,rfl,SW,rfl⟩;refine rq 3 aa ?_;refine dL aa ?_ ?_<;>intro J6
   ·exact rq 17 aa (W)
   refine rq 2 aa (rp 3 aa ?_);refine dL aa ?_ ?_<;>intro Cb
   ·exact rq 12 aa (W)
   refine rq 5 aa ?_;refine dL aa ?_ ?_<;>intro uy
   ·exact rq 7 aa (W)
   refine rq 3 aa (fL aa aa aa (aB aa (SQ F ak ak z ae I A) ?_));rintro _ _⟨HR,rfl,ae3⟩;exact rq 3 aa (W)
  refine rq 15 aa (fL aa aa aa (aB aa (SV F A) ?_));rintro _ _⟨_,rfl,by18_0,rfl⟩;refine rq 3 aa ?_;refine dL aa ?_ ?_<;>intro h19
  ·exact rq 17 aa (W)
  refine rq 2 aa (rp 3 aa ?_);refine dL aa ?_ ?_<;>intro Pw
  ·exact rq 12 aa (W)
  refine rq 5 aa ?_;refine dL aa ?_ ?_<;>intro E5
  ·exact rq 7 aa (W)
  refine rq 3 aa (fL aa aa aa (aB aa (SQ F ak ak z ae I A) ?_));rintro _ _⟨HS,rfl,ae4⟩;exact rq 3 aa (W)
 exact W
theorem Cx{T:aM}(F:FT T){a0:DC}{G:ai}(L:au G a0)(cT:G.length≤1000000000)(M:af bn G):Sound T 69 [.d a0] fun r=>∃Z I,r= .d Z∧au I Z∧(I.length:Int)≤1000000000∧af bn I∧0≤(I.length:Int)∧(I=[]→Z= .nil):=by
 refine bm F.q69 aa (r0 14 aa (dP 3 90 3 8 1 aa aa (bj [2,0] [] aa aa (fun e0 b0 k VE B=>∃z A,an ((3,.ac 90 A.length 1)::(4,.d (dJ z))::e0) VE∧an ((90,.acc 3 8 1 A)::b0) B∧k=((G.length:Int) -z).toNat∧(0≤z∧(z≤(G.length:Int)∨z=0))∧((A.length:Int)≤z)∧(af bn A)) ?_ fin)));rintro _ VE B⟨z,A,hV,hB,rfl,bU,cS,O⟩;refine aU _ _ hV hB (aA 5 aa (aQ aa L ?_));refine ro 2 aa ?_;refine ay aa ?_ ?_<;>intro g1
 ·refine rc 7 aa ?_;obtain⟨_,⟨oM,rfl,U,Y⟩,bS⟩:=qI z M;refine aw (aH aa aa L ae bS aa ?_);refine aN 1 aa (ab3 aa aa (fun z3 Po=>?_));refine ro 1 aa ?_;refine aw (aY (rows:=A) (ys:=[[(dJ z3)]]) rfl rfl rfl (.bs (rows:=[[(dJ z3)]]) rfl) ao ae (fun h=>by rw[h];rfl) (fun h=>by rw[h];rfl) ?_);exact W
 exact rc 6 aa (cA 2 90 aa aa (fun _=>⟨aa,aa⟩) (W))
theorem aj2{T:aM}(F:FT T){Y Z:DC}{A:ai}(I:au A Y)(cT:A.length≤1000000000)(L:af cu A)(O:(Ty.i .i64 0 64).ok Z):Sound T 105 [.d Y,.d Z] fun r=>∃U G,r= .d U∧au G U∧(G.length:Int)≤max (A.length:Int) 64∧af cu G∧0≤(G.length:Int)∧(G=[]→U= .nil):=by
 refine bm F.q105 aa ?_;obtain⟨aS,rfl,eB,ee⟩:=O;refine ch 7 aa (eb (ys:=A) 7 aa aa aa aa aa (.sD I (cD L aa)) ao ae ?_);refine ro 4 aa (bj [4,1,0] [] aa aa (fun e0 b0 k VE B=>∃z,an ((5,.ac 7 z.length 3)::e0) VE∧an ((7,.acc 87 32 3 z)::b0) B∧k=(aS-z.length).toNat∧((z.length:Int)≤max (A.length:Int) 64)∧(af cu z)) ?_ fin);rintro _ VE B⟨z,hV,hB,rfl,bU,M⟩;refine aU _ _ hV hB (rc 8 aa ?_);refine ay aa ?_ ?_<;>intro g1
 ·refine rc 6 aa ?_;refine aw (aY (rows:=z) (ys:=[[i0,i0,(aq [])]]) rfl rfl rfl (.bs (rows:=[[i0,i0,(aq [])]]) rfl) ao ae (fun h=>by rw[h];rfl) (fun h=>by rw[h];rfl) ?_);exact W
 exact rc 6 aa (cA 4 7 aa aa (fun _=>⟨aa,aa⟩) (W))
theorem ahw{T:aM}(F:FT T){a0 a1:DC}{Z:ai}(Y:au Z a0)(cT:Z.length≤1000000000)(bN:af cu Z){I:ai}(G:au I a1)(dn:I.length≤1000000000)(cq:af bn I):Sound T 147 [.d a0,.d a1] fun r=>∃y0 L,r= .d y0∧au L y0∧(L.length:Int)≤1000000000∧af cu L∧0≤(L.length:Int)∧(L=[]→y0= .nil):=by
 refine bm F.q147 aa (r0 14 aa (dP 5 90 87 32 3 aa aa (bj [4,1,0] [] aa aa (fun e0 b0 k VE B=>∃z A,an ((5,.ac 90 A.length 3)::(6,.d (dJ z))::e0) VE∧an ((90,.acc 87 32 3 A)::b0) B∧k=((I.length:Int) -z).toNat∧(0≤z∧(z≤(I.length:Int)∨z=0))∧((A.length:Int)≤z)∧(af cu A)) ?_ fin)));rintro _ VE B⟨z,A,hV,hB,rfl,bU,cS,qw⟩;refine aU _ _ hV hB (aA 5 aa (aQ aa G ?_));refine ro 2 aa ?_;refine ay aa ?_ ?_<;>intro g1
 ·refine rc 7 aa ?_;obtain⟨_,⟨oM,rfl,tv,ve⟩,bS⟩:=qI z cq;refine aw (aH aa aa G ae bS aa ?_);refine ro 3 aa ?_;refine br aa ?_ ?_<;>intro g3
  ·refine ro 2 aa (bM aa aa (aH aa aa G ae bS aa ?_));refine ro 2 aa (bM aa aa (aQ aa Y ?_));refine ro 3 aa ?_;refine ay aa ?_ ?_<;>intro g4
   ·refine aA 5 aa (aH aa aa G ae bS aa ?_);refine ro 1 aa ?_;obtain⟨_,⟨M,rfl,Am,An⟩,_,⟨O,rfl,GB,GC⟩,_,⟨U,rfl,hsx5_2⟩,e9⟩:=qI oM bN;refine aw (aH aa aa Y ae e9 aa ?_);refine ro 2 aa ?_;refine aw (aY (rows:=A) (ys:=[[(dJ M),(dJ O),(aq U)]]) rfl rfl rfl (.bs (rows:=[[(dJ M),(dJ O),(aq U)]]) rfl) ao ae (fun h=>by rw[h];rfl) (fun h=>by rw[h];rfl) ?_);exact W
   refine rc 4 aa ?_;refine aw (aY (rows:=A) (ys:=[[i0,i0,(aq [])]]) rfl rfl rfl (.bs (rows:=[[i0,i0,(aq [])]]) rfl) ao ae (fun h=>by rw[h];rfl) (fun h=>by rw[h];rfl) ?_);exact W
  refine ro 9 aa (dq aa aa (rc 4 aa ?_));refine aw (aY (rows:=A) (ys:=[[i0,i0,(aq [])]]) rfl rfl rfl (.bs (rows:=[[i0,i0,(aq [])]]) rfl) ao ae (fun h=>by rw[h];rfl) (fun h=>by rw[h];rfl) ?_);exact W
 exact rc 6 aa (cA 4 90 aa aa (fun _=>⟨aa,aa⟩) (W))
end Go.Ev.Rp
