/- Part 20 of rules for walks through the code of a program, and of such walks; what each part proves is said by its theorems. -/
import Derived.Test.YtmpoloiempjdpaaGreatS12
import Derived.Test.YtmpoloiempjdpaaGreatS14
import Derived.Test.YtmpoloiempjdpaaGreatS19
set_option linter.unusedVariables false
set_option linter.unusedSimpArgs false
noncomputable section
set_option maxRecDepth 100000
set_option maxHeartbeats 4000000
namespace Go.Ev.Rp
open Go Go.Ev.Pp
attribute [local irreducible] VC VO VQ VI Sound bW
theorem xN{T:aL}(F:FT T){a0 a1:DC}{bM:ah}(cJ:au bM a0)(cM:bM.length≤4000000000)(bO:af bn bM){bD:ah}(cO:au bD a1)(dm:bD.length≤4000000000)(cl:af bn bD):Sound T 150 [.d a0,.d a1] fun r=>∃y0 bt,r= .d y0∧au bt y0∧(bt.length:Int)≤bM.length+bD.length∧af bn bt∧0≤(bt.length:Int)∧(bt=[]→y0= .nil):=by
 refine bk F.ajh aa (r0 17 aa (bh [13,4,1,0] [] aa aa (fun e0 b0 k VE B=>∃wA nQ Y,ak ((5,.d wA)::(14,.d (dJ Y))::e0) VE∧ak b0 B∧k=((2:Int) -Y).toNat∧(au nQ wA)∧((nQ.length:Int)≤8000000000)∧(af bn nQ)∧(nQ=[]→wA= .nil)∧(0≤Y∧(Y≤2∨Y=0))∧((Y=0→(nQ.length:Int)≤0)∧(Y=1→nQ.length≤bM.length)∧(Y=2→nQ.length≤bM.length+bD.length))) ?_ fin));rintro _ VE B⟨wA,nQ,Y,hV,hB,rfl,hdv5_0,cN,Tb,aeR,wu,BK⟩;refine aT _ _ hV hB (rc 5 aa ?_);refine ay aa ?_ ?_<;>intro g1
 ·refine rc 5 aa ?_;rcases(by omega:Y=0∨Y=1) with ny|ny
  ·refine aq (KO (j:=0) rfl (by rw[ny];rfl) ao rfl ?_);refine aP 5 aa (aR aa cJ ?_);refine ro 3 aa (bh [18,17,15,14,13,7,4,1,0] [] aa aa (fun e0 b0 k VE B=>∃jc A O,ak ((5,.d jc)::(19,.d (dJ O))::e0) VE∧ak b0 B∧k=((bM.length:Int) -O).toNat∧(au A jc)∧((A.length:Int)≤8000000000)∧(af bn A)∧(A=[]→jc= .nil)∧(0≤O∧(O≤(bM.length:Int)∨O=0))∧((Y=0→(A.length:Int)≤O)∧(Y=1→(A.length:Int)≤bM.length+O))) ?_ fin);rintro _ VE B⟨jc,A,O,hV,hB,rfl,G,gl,L,M,O3,O4⟩;refine aT _ _ hV hB (rc 5 aa ?_);refine ay aa ?_ ?_<;>intro g3
   ·refine rc 5 aa ?_;obtain⟨_,⟨Z,rfl,qK,qL⟩,dh⟩:=qI O bO;refine aq (aH aa aa cJ ae dh aa ?_);refine ro 9 aa (bh [20,19,18,17,15,14,13,9,7,5,4,1,0] [] aa aa (fun e0 b0 k VE B=>∃I,ak ((10,.d (dJ I))::e0) VE∧ak b0 B∧eg k 0 I (A.length:Int)) ?_ fin);rintro _ VE B⟨I,hV,hB,rfl,oa⟩;refine aT _ _ hV hB (aB 5 aa (aR aa G ?_));refine ro 2 aa ?_;refine bu aa ?_ ?_<;>intro g5
    ·refine ro 2 aa ?_;obtain⟨_,⟨ss,rfl,Ax,Ay⟩,eX⟩:=qI I L;refine bw aa aa (aH aa aa G ae eX aa ?_);refine ro 2 aa (rp 3 aa ?_);refine ay aa ?_ ?_<;>intro h7
     ·exact W
     refine aB 5 aa (aR aa G ?_);refine ro 2 aa ?_;refine bu aa ?_ ?_<;>intro g8
     ·refine ro 8 aa (eA aa aa (rc 3 aa ?_));obtain⟨j9,tf,qm⟩:=bx (z:=I) (n:=A.length+1) ae ae;refine aU (eC (l:=0) (h:=j9) rfl G L rfl M ⟨_,(by rw[←tf];rfl)⟩ rfl ae ae (fun d10 zu Jf V5 Wo=>?_));refine aO aa (VI.fresh aa (ed (ys:=zu) 52 aa aa aa aa aa (.sD Jf (cC Wo aa)) ao ae ?_));refine rq 2 aa (aO aa (aY (rows:=zu) (ys:=[[(dJ Z)]]) aa aa aa (.bs (rows:=[[(dJ Z)]]) aa) ao ae bP bP ?_));refine rq 2 aa ?_;obtain⟨mJ,pW,Jd⟩:=bx (z:=I) (n:=A.length+1) ae ae;refine aU (eC (l:=mJ) (h:=A.length) rfl G L rfl M rfl ⟨_,(by rw[←pW];rfl)⟩ ae ae (fun d12 Ff Jg V6 Wp=>?_));refine aO aa (aY (rows:=(zu++[[(dJ Z)]])) (ys:=Ff) aa aa aa (.sD Jg (cC Wp aa)) ao ae (fun h=>absurd h bI) (fun h=>absurd h bI) ?_);exact rq 2 aa (ct 5 52 aa aa (fun _=>⟨aa,aa⟩) (W))
     refine ro 2 aa (bw aa aa (aH aa aa G ae eX aa ?_));refine ro 5 aa ?_;refine ay aa ?_ ?_<;>intro ox
     ·refine rc 3 aa ?_;obtain⟨qn,sP,pY⟩:=bx (z:=I) (n:=A.length+1) ae ae;refine aU (eC (l:=0) (h:=qn) rfl G L rfl M ⟨_,(by rw[←sP];rfl)⟩ rfl ae ae (fun d15 Fi Wq ajS hr15=>?_));refine aO aa (VI.fresh aa (ed (ys:=Fi) 52 aa aa aa aa aa (.sD Wq (cC hr15 aa)) ao ae ?_));refine rq 2 aa (aO aa (aY (rows:=Fi) (ys:=[[(dJ Z)]]) aa aa aa (.bs (rows:=[[(dJ Z)]]) aa) ao ae bP bP ?_));refine rq 2 aa ?_;obtain⟨lZ,pZ,p0⟩:=bx (z:=I) (n:=A.length+1) ae ae;refine aU (eC (l:=lZ) (h:=A.length) rfl G L rfl M rfl ⟨_,(by rw[←pZ];rfl)⟩ ae ae (fun Yc uJ BV EB EC=>?_));refine aO aa (aY (rows:=(Fi++[[(dJ Z)]])) (ys:=uJ) aa aa aa (.sD BV (cC EC aa)) ao ae (fun h=>absurd h bI) (fun h=>absurd h bI) ?_);exact rq 2 aa (ct 5 52 aa aa (fun _=>⟨aa,aa⟩) (W))
     exact W
    refine ro 8 aa (dn aa aa (aB 5 aa (aR aa G ?_)));refine ro 2 aa ?_;refine bu aa ?_ ?_<;>intro uM
    ·refine ro 8 aa (eA aa aa (rc 3 aa ?_));obtain⟨tp,BW,BX⟩:=bx (z:=I) (n:=A.length+1) ae ae;refine aU (eC (l:=0) (h:=tp) rfl G L rfl M ⟨_,(by rw[←BW];rfl)⟩ rfl ae ae (fun d20 mN Ws yV Jh=>?_));refine aO aa (VI.fresh aa (ed (ys:=mN) 52 aa aa aa aa aa (.sD Ws (cC Jh aa)) ao ae ?_));refine rq 2 aa (aO aa (aY (rows:=mN) (ys:=[[(dJ Z)]]) aa aa aa (.bs (rows:=[[(dJ Z)]]) aa) ao ae bP bP ?_));refine rq 2 aa ?_;obtain⟨nC,qa,mz⟩:=bx (z:=I) (n:=A.length+1) ae ae;refine aU (eC (l:=nC) (h:=A.length) rfl G L rfl M rfl ⟨_,(by rw[←qa];rfl)⟩ ae ae (fun d22 w22 Wt hl22 hr22=>?_));refine aO aa (aY (rows:=(mN++[[(dJ Z)]])) (ys:=w22) aa aa aa (.sD Wt (cC hr22 aa)) ao ae (fun h=>absurd h bI) (fun h=>absurd h bI) ?_);exact rq 2 aa (ct 5 52 aa aa (fun _=>⟨aa,aa⟩) (W))
    refine ro 2 aa ?_;obtain⟨_,⟨zx23_0,rfl,hzx23_0,kzx23_0⟩,wB⟩:=qI I L;refine bw aa aa (aH aa aa G ae wB aa ?_);refine ro 2 aa (rp 3 aa ?_);refine ay aa ?_ ?_<;>intro X7
    ·refine rc 3 aa ?_;obtain⟨qv,BY,Ji⟩:=bx (z:=I) (n:=A.length+1) ae ae;refine aU (eC (l:=0) (h:=qv) rfl G L rfl M ⟨_,(by rw[←BY];rfl)⟩ rfl ae ae (fun d26 Yd Wu hl26 hr26=>?_));refine aO aa (VI.fresh aa (ed (ys:=Yd) 52 aa aa aa aa aa (.sD Wu (cC hr26 aa)) ao ae ?_));refine rq 2 aa (aO aa (aY (rows:=Yd) (ys:=[[(dJ Z)]]) aa aa aa (.bs (rows:=[[(dJ Z)]]) aa) ao ae bP bP ?_));refine rq 2 aa ?_;obtain⟨uO,Jj,Wv⟩:=bx (z:=I) (n:=A.length+1) ae ae;refine aU (eC (l:=uO) (h:=A.length) rfl G L rfl M rfl ⟨_,(by rw[←Jj];rfl)⟩ ae ae (fun d28 oy Ww O5 Wx=>?_));refine aO aa (aY (rows:=(Yd++[[(dJ Z)]])) (ys:=oy) aa aa aa (.sD Ww (cC Wx aa)) ao ae (fun h=>absurd h bI) (fun h=>absurd h bI) ?_);exact rq 2 aa (ct 5 52 aa aa (fun _=>⟨aa,aa⟩) (W))
    exact W
   exact W
  refine aq (KO (j:=1) rfl (by rw[ny];rfl) ao rfl ?_);refine aP 5 aa (aR aa cO ?_);refine ro 3 aa (bh [18,17,15,14,13,7,4,1,0] [] aa aa (fun e0 b0 k VE B=>∃jc A O,ak ((5,.d jc)::(19,.d (dJ O))::e0) VE∧ak b0 B∧k=((bD.length:Int) -O).toNat∧(au A jc)∧((A.length:Int)≤8000000000)∧(af bn A)∧(A=[]→jc= .nil)∧(0≤O∧(O≤(bD.length:Int)∨O=0))∧((Y=0→(A.length:Int)≤O)∧(Y=1→(A.length:Int)≤bM.length+O))) ?_ fin);rintro _ VE B⟨jc,A,O,hV,hB,rfl,G,gl,L,M,O3,O4⟩;refine aT _ _ hV hB (rc 5 aa ?_);refine ay aa ?_ ?_<;>intro X9
  ·refine rc 5 aa ?_;obtain⟨_,⟨U,rfl,acz,acA⟩,wC⟩:=qI O cl;refine aq (aH aa aa cO ae wC aa ?_);refine ro 9 aa (bh [20,19,18,17,15,14,13,9,7,5,4,1,0] [] aa aa (fun e0 b0 k VE B=>∃I,ak ((10,.d (dJ I))::e0) VE∧ak b0 B∧eg k 0 I (A.length:Int)) ?_ fin);rintro _ VE B⟨I,hV,hB,rfl,oa⟩;refine aT _ _ hV hB (aB 5 aa (aR aa G ?_));refine ro 2 aa ?_;refine bu aa ?_ ?_<;>intro g31
   ·refine ro 2 aa ?_;obtain⟨_,⟨zx32_0,rfl,hzx32_0,kzx32_0⟩,Jk⟩:=qI I L;refine bw aa aa (aH aa aa G ae Jk aa ?_);refine ro 2 aa (rp 3 aa ?_);refine ay aa ?_ ?_<;>intro h33
    ·exact W
    refine aB 5 aa (aR aa G ?_);refine ro 2 aa ?_;refine bu aa ?_ ?_<;>intro Ko
    ·refine ro 8 aa (eA aa aa (rc 3 aa ?_));obtain⟨uP,Jl,Wy⟩:=bx (z:=I) (n:=A.length+1) ae ae;refine aU (eC (l:=0) (h:=uP) rfl G L rfl M ⟨_,(by rw[←Jl];rfl)⟩ rfl ae ae (fun d36 Ye Wz hl36 hr36=>?_));refine aO aa (VI.fresh aa (ed (ys:=Ye) 52 aa aa aa aa aa (.sD Wz (cC hr36 aa)) ao ae ?_));refine rq 2 aa (aO aa (aY (rows:=Ye) (ys:=[[(dJ U)]]) aa aa aa (.bs (rows:=[[(dJ U)]]) aa) ao ae bP bP ?_));refine rq 2 aa ?_;obtain⟨uQ,Jm,WA⟩:=bx (z:=I) (n:=A.length+1) ae ae;refine aU (eC (l:=uQ) (h:=A.length) rfl G L rfl M rfl ⟨_,(by rw[←Jm];rfl)⟩ ae ae (fun d38 PY WB ajT hr38=>?_));refine aO aa (aY (rows:=(Ye++[[(dJ U)]])) (ys:=PY) aa aa aa (.sD WB (cC hr38 aa)) ao ae (fun h=>absurd h bI) (fun h=>absurd h bI) ?_);exact rq 2 aa (ct 5 52 aa aa (fun _=>⟨aa,aa⟩) (W))
    refine ro 2 aa (bw aa aa (aH aa aa G ae Jk aa ?_));refine ro 5 aa ?_;refine ay aa ?_ ?_<;>intro PZ
    ·refine rc 3 aa ?_;obtain⟨xe,WC,kj40⟩:=bx (z:=I) (n:=A.length+1) ae ae;refine aU (eC (l:=0) (h:=xe) rfl G L rfl M ⟨_,(by rw[←WC];rfl)⟩ rfl ae ae (fun d41 Yf WD hl41 hr41=>?_));refine aO aa (VI.fresh aa (ed (ys:=Yf) 52 aa aa aa aa aa (.sD WD (cC hr41 aa)) ao ae ?_));refine rq 2 aa (aO aa (aY (rows:=Yf) (ys:=[[(dJ U)]]) aa aa aa (.bs (rows:=[[(dJ U)]]) aa) ao ae bP bP ?_));refine rq 2 aa ?_;obtain⟨qw,BZ,B2⟩:=bx (z:=I) (n:=A.length+1) ae ae;refine aU (eC (l:=qw) (h:=A.length) rfl G L rfl M rfl ⟨_,(by rw[←BZ];rfl)⟩ ae ae (fun d43 w43 WE hl43 hr43=>?_));refine aO aa (aY (rows:=(Yf++[[(dJ U)]])) (ys:=w43) aa aa aa (.sD WE (cC hr43 aa)) ao ae (fun h=>absurd h bI) (fun h=>absurd h bI) ?_);exact rq 2 aa (ct 5 52 aa aa (fun _=>⟨aa,aa⟩) (W))
    exact W
   refine ro 8 aa (dn aa aa (aB 5 aa (aR aa G ?_)));refine ro 2 aa ?_;refine bu aa ?_ ?_<;>intro Yg
   ·refine ro 8 aa (eA aa aa (rc 3 aa ?_));obtain⟨rQ,Jn,WG⟩:=bx (z:=I) (n:=A.length+1) ae ae;refine aU (eC (l:=0) (h:=rQ) rfl G L rfl M ⟨_,(by rw[←Jn];rfl)⟩ rfl ae ae (fun d46 Fj WH ajU hr46=>?_));refine aO aa (VI.fresh aa (ed (ys:=Fj) 52 aa aa aa aa aa (.sD WH (cC hr46 aa)) ao ae ?_));refine rq 2 aa (aO aa (aY (rows:=Fj) (ys:=[[(dJ U)]]) aa aa aa (.bs (rows:=[[(dJ U)]]) aa) ao ae bP bP ?_));refine rq 2 aa ?_;obtain⟨tq,WI,kj47⟩:=bx (z:=I) (n:=A.length+1) ae ae;refine aU (eC (l:=tq) (h:=A.length) rfl G L rfl M rfl ⟨_,(by rw[←WI];rfl)⟩ ae ae (fun d48 w48 WJ hl48 hr48=>?_));refine aO aa (aY (rows:=(Fj++[[(dJ U)]])) (ys:=w48) aa aa aa (.sD WJ (cC hr48 aa)) ao ae (fun h=>absurd h bI) (fun h=>absurd h bI) ?_);exact rq 2 aa (ct 5 52 aa aa (fun _=>⟨aa,aa⟩) (W))
   refine ro 2 aa ?_;obtain⟨_,⟨zx49_0,rfl,hzx49_0,kzx49_0⟩,WK⟩:=qI I L;refine bw aa aa (aH aa aa G ae WK aa ?_);refine ro 2 aa (rp 3 aa ?_);refine ay aa ?_ ?_<;>intro Yb
   ·refine rc 3 aa ?_;obtain⟨xf,Jo,ajV⟩:=bx (z:=I) (n:=A.length+1) ae ae;refine aU (eC (l:=0) (h:=xf) rfl G L rfl M ⟨_,(by rw[←Jo];rfl)⟩ rfl ae ae (fun d52 Kr Jp hl52 WL=>?_));refine aO aa (VI.fresh aa (ed (ys:=Kr) 52 aa aa aa aa aa (.sD Jp (cC WL aa)) ao ae ?_));refine rq 2 aa (aO aa (aY (rows:=Kr) (ys:=[[(dJ U)]]) aa aa aa (.bs (rows:=[[(dJ U)]]) aa) ao ae bP bP ?_));refine rq 2 aa ?_;obtain⟨Cy,WM,kj53⟩:=bx (z:=I) (n:=A.length+1) ae ae;refine aU (eC (l:=Cy) (h:=A.length) rfl G L rfl M rfl ⟨_,(by rw[←WM];rfl)⟩ ae ae (fun d54 w54 WN hl54 hr54=>?_));refine aO aa (aY (rows:=(Kr++[[(dJ U)]])) (ys:=w54) aa aa aa (.sD WN (cC hr54 aa)) ao ae (fun h=>absurd h bI) (fun h=>absurd h bI) ?_);exact rq 2 aa (ct 5 52 aa aa (fun _=>⟨aa,aa⟩) (W))
   exact W
  exact W
 exact W
theorem sortC_{T:aL}(F:FT T)(N:Nat):∀{a0:DC}{O:ah}(Z:au O a0)(cM:O.length≤1000000000)(bO:af qT O)(hN:O.length≤N),Sound T 182 [.d a0] fun r=>∃(y0:DC)(bt:ah),r= .d y0∧au bt y0∧(bt.length:Int)≤O.length∧af qT bt∧0≤(bt.length:Int)∧(bt=[]→y0= .nil):=by
 induction N using Nat.strongRecOn with
 |_ N ih=>
 intro a0 O Z cM bO hN;refine bk F.ajk aa (bV 8 aa (aR aa Z ?_));refine ro 2 aa ?_;refine ay aa ?_ ?_<;>intro g1
 ·refine aB 3 aa (ed (ys:=O) 12 aa aa aa aa aa (.sD Z (cC bO aa)) ao ae ?_);exact ro 2 aa (ct 2 12 aa aa (fun _=>⟨aa,aa⟩) (W))
 refine rc 5 aa (aU (aR aa Z ?_));refine aU (rY aa aa aa aa ae ae ae ao ?_);obtain⟨j2,qh,qu⟩:=bx (z:=((O.length:Int)/2)) (n:=O.length+1) ae ae;refine aU (eC (l:=0) (h:=j2) rfl Z bO rfl (oM ae) ⟨_,(by rw[←qh];rfl)⟩ rfl ae ae (fun d3 w3 Yh P0 Yi=>?_));refine aO aa (aA aa (ih (w3).length ae Yh ae Yi (bd _)) ?_);rintro _ _⟨gk,kX,rfl,A,sa,U,Aw,Dm⟩;refine db 2 aa (aR aa Z ?_);refine aU (rY aa aa aa aa ae ae ae ao ?_);obtain⟨j5,Cw,Cx⟩:=bx (z:=((O.length:Int)/2)) (n:=O.length+1) ae ae;refine aU (eC (l:=j5) (h:=O.length) rfl Z bO rfl (oM ae) rfl ⟨_,(by rw[←Cw];rfl)⟩ ae ae (fun d6 w6 Yj Yk Yl=>?_));refine aO aa (aA aa (ih (w6).length ae Yj ae Yl (bd _)) ?_);rintro _ _⟨sL,Ie,rfl,G,hny7_0,Y,hmy7_0,hey7_0⟩;refine rq 14 aa (dz 5 90 134 48 2 aa aa (bh [10,4,3,2,0] [] aa aa (fun e0 b0 k VE B=>∃L M I,ak ((5,.ac 90 I.length 2)::(6,.d (dJ L))::(7,.d (dJ M))::e0) VE∧ak ((90,.acc 134 48 2 I)::b0) B∧k=((kX.length:Int)+Ie.length-L-M).toNat∧(0≤L∧L≤(kX.length:Int))∧(0≤M∧M≤(Ie.length:Int))∧((I.length:Int)≤L+M)∧(af qT I)) ?_ fin));rintro _ VE B⟨L,M,I,hV,hB,rfl,bU,cN,uC,pA⟩;refine aT _ _ hV hB (aB 5 aa (aR aa A ?_));refine ro 2 aa ?_;refine bu aa ?_ ?_<;>intro g8
 ·refine ro 6 aa (eA aa aa (rc 6 aa (aU (aR aa G ?_))));refine rq 2 aa ?_;refine dL aa ?_ ?_<;>intro g9
  ·refine rq 5 aa (bL aa (bL aa (bL aa (dK aa (bL aa (bL aa (bL aa (dK aa (dK aa ?_)))))))));refine bL aa (rq 3 aa (eA aa aa (rc 5 aa ?_)));obtain⟨oT,⟨aeS,acB,acC,acD⟩,qX,⟨aes,RM,ach,RN⟩,gv⟩:=qI L U;refine aq (aH aa aa A ae gv aa ?_);refine ro 2 aa ?_;refine aq (aY (rows:=I) (ys:=[[oT,qX]]) rfl rfl rfl (.bs (rows:=[[oT,qX]]) rfl) ao ae (fun h=>by rw[h];rfl) (fun h=>by rw[h];rfl) ?_);exact W
  refine rq 2 aa (cn aa aa (aR aa A ?_));refine rq 2 aa ?_;refine dL aa ?_ ?_<;>intro lY
  ·refine rq 2 aa ?_;obtain⟨pI,nK,t9,⟨aeT,acE,acF,acG⟩,iH⟩:=qI M Y;refine cn aa aa (aH aa aa G ae iH aa ?_);refine rq 3 aa ?_;obtain⟨ra,oH,Ba,⟨aeU,Lu,acH,Lv⟩,mA⟩:=qI L U;refine cn aa aa (aH aa aa A ae mA aa ?_);refine rq 1 aa (fx aa aa aa (aA aa (ahk F nK (aM acE ae acG) oH (aM Lu ae Lv)) ?_));rintro _ _⟨_,rfl,by14_0,rfl⟩;refine rq 4 aa ?_;refine cF aa ?_ ?_<;>intro P1
   ·refine aB 5 aa (aH aa aa A ae mA aa ?_);obtain⟨wx13_0,hdx13_0,hnx13_0,hrx13_0⟩:=Ty.aM oH;refine ro 2 aa ?_;refine aq (aY (rows:=I) (ys:=[[ra,Ba]]) rfl rfl rfl (.bs (rows:=[[ra,Ba]]) rfl) ao ae (fun h=>by rw[h];rfl) (fun h=>by rw[h];rfl) ?_);exact W
   refine aB 5 aa (aH aa aa G ae iH aa ?_);obtain⟨aeV,RY,acI,acJ⟩:=Ty.aM nK;refine ro 2 aa ?_;refine aq (aY (rows:=I) (ys:=[[pI,t9]]) rfl rfl rfl (.bs (rows:=[[pI,t9]]) rfl) ao ae (fun h=>by rw[h];rfl) (fun h=>by rw[h];rfl) ?_);exact W
  refine rq 13 aa (dn aa aa (rc 5 aa ?_));obtain⟨A9,⟨wx16_0,hdx16_0,hnx16_0,hrx16_0⟩,yl,⟨wx16_1,hdx16_1,hnx16_1,hrx16_1⟩,wt⟩:=qI M Y;refine aq (aH aa aa G ae wt aa ?_);refine ro 2 aa ?_;refine aq (aY (rows:=I) (ys:=[[A9,yl]]) rfl rfl rfl (.bs (rows:=[[A9,yl]]) rfl) ao ae (fun h=>by rw[h];rfl) (fun h=>by rw[h];rfl) ?_);exact W
 refine ro 2 aa (bw aa aa (aR aa G ?_));refine ro 3 aa ?_;refine ay aa ?_ ?_<;>intro tn
 ·refine rc 6 aa (aU (aR aa G ?_));refine rq 2 aa ?_;refine dL aa ?_ ?_<;>intro uM
  ·refine rq 5 aa (bL aa (bL aa (bL aa (dK aa (bL aa (bL aa (bL aa (dK aa (dK aa ?_)))))))));refine bL aa (rq 3 aa (eA aa aa (rc 5 aa ?_)));obtain⟨yn,⟨wx19_0,hdx19_0,hnx19_0,hrx19_0⟩,DT,⟨wx19_1,hdx19_1,hnx19_1,hrx19_1⟩,oc⟩:=qI L U;refine aq (aH aa aa A ae oc aa ?_);refine ro 2 aa ?_;refine aq (aY (rows:=I) (ys:=[[yn,DT]]) rfl rfl rfl (.bs (rows:=[[yn,DT]]) rfl) ao ae (fun h=>by rw[h];rfl) (fun h=>by rw[h];rfl) ?_);exact W
  refine rq 2 aa (cn aa aa (aR aa A ?_));refine rq 2 aa ?_;refine dL aa ?_ ?_<;>intro g20
  ·refine rq 2 aa ?_;obtain⟨vM,vz,ua,⟨wx21_1,acK,hnx21_1,acL⟩,mB⟩:=qI M Y;refine cn aa aa (aH aa aa G ae mB aa ?_);refine rq 3 aa ?_;obtain⟨nR,sf,nT,⟨L7,Gm,Lw,Gn⟩,B3⟩:=qI L U;refine cn aa aa (aH aa aa A ae B3 aa ?_);refine rq 1 aa (fx aa aa aa (aA aa (ahk F vz (aM acK ae acL) sf (aM Gm ae Gn)) ?_));rintro _ _⟨_,rfl,by23_0,rfl⟩;refine rq 4 aa ?_;refine cF aa ?_ ?_<;>intro Fk
   ·refine aB 5 aa (aH aa aa A ae B3 aa ?_);obtain⟨L8,Lx,RZ,Ly⟩:=Ty.aM sf;refine ro 2 aa ?_;refine aq (aY (rows:=I) (ys:=[[nR,nT]]) rfl rfl rfl (.bs (rows:=[[nR,nT]]) rfl) ao ae (fun h=>by rw[h];rfl) (fun h=>by rw[h];rfl) ?_);exact W
   refine aB 5 aa (aH aa aa G ae mB aa ?_);obtain⟨wx21_0,hdx21_0,hnx21_0,hrx21_0⟩:=Ty.aM vz;refine ro 2 aa ?_;refine aq (aY (rows:=I) (ys:=[[vM,ua]]) rfl rfl rfl (.bs (rows:=[[vM,ua]]) rfl) ao ae (fun h=>by rw[h];rfl) (fun h=>by rw[h];rfl) ?_);exact W
  refine rq 13 aa (dn aa aa (rc 5 aa ?_));obtain⟨DU,⟨wx25_0,hdx25_0,hnx25_0,hrx25_0⟩,DV,⟨wx25_1,hdx25_1,hnx25_1,hrx25_1⟩,wD⟩:=qI M Y;refine aq (aH aa aa G ae wD aa ?_);refine ro 2 aa ?_;refine aq (aY (rows:=I) (ys:=[[DU,DV]]) rfl rfl rfl (.bs (rows:=[[DU,DV]]) rfl) ao ae (fun h=>by rw[h];rfl) (fun h=>by rw[h];rfl) ?_);exact W
 exact rc 6 aa (ct 2 90 aa aa (fun _=>⟨aa,aa⟩) (W))
theorem sortC{T:aL}(F:FT T){O:DC}{A:ah}(G:au A O)(I:A.length≤1000000000)(L:af qT A):Sound T 182 [.d O] fun r=>∃M z,r= .d M∧au z M∧(z.length:Int)≤A.length∧af qT z∧0≤(z.length:Int)∧(z=[]→M= .nil):=sortC_ F _ G I L (bd _)
end Go.Ev.Rp
namespace Go.Ev.Rp
open Go Go.Ev.Pp
attribute [local irreducible] VC VO VQ VI Sound bW
theorem Tc{T:aL}(F:FT T){a0:DC}(I:(Ty.s 1000).ok a0):Sound T 141 [.d a0] fun r=>∃y0,r= .d y0∧(Ty.b).ok y0:=by
 refine bk F.q141 aa ?_;obtain⟨A,rfl,kE⟩:=I;refine r0 11 aa ?_;refine bu aa ?_ ?_<;>intro h1
 ·exact W
 refine ro 1 aa (bw aa aa (vi_lenStr aa ?_));refine ro 3 aa ?_;refine bu aa ?_ ?_<;>intro h2
 ·exact W
 refine ro 1 aa ?_;obtain⟨j3,L,M⟩:=bx (z:=0) (n:=A.length) ae ae;obtain⟨c3,O⟩:∃c,A[j3]?=some c:=⟨_,dx M⟩;refine bw rfl rfl (QQ rfl (by rw[←L];rfl) O ?_);refine ro 3 aa ?_;refine bu aa ?_ ?_<;>intro h4
 ·exact W
 refine ro 1 aa ?_;obtain⟨j5,U,Y⟩:=bx (z:=0) (n:=A.length) ae ae;obtain⟨c5,Z⟩:∃c,A[j5]?=some c:=⟨_,dx Y⟩;refine bw rfl rfl (QQ rfl (by rw[←U];rfl) Z ?_);refine ro 3 aa ?_;refine ay aa ?_ ?_<;>intro h6
 ·exact W
 refine rc 7 aa (bh [22,2,0] [] aa aa (fun e0 b0 k VE B=>∃G,ak ((3,.d (dJ G))::e0) VE∧ak b0 B∧eg k 0 G (A.length:Int)) ?_ fin);rintro _ VE B⟨G,hV,hB,rfl,bU⟩;refine aT _ _ hV hB (rc 8 aa ?_);refine ay aa ?_ ?_<;>intro g7
 ·refine rc 7 aa ?_;obtain⟨j8,Cs,te⟩:=bx (z:=G) (n:=A.length) ae ae;obtain⟨c8,hc8⟩:∃c,A[j8]?=some c:=⟨_,dx te⟩;refine aq (QQ rfl (by rw[←Cs];rfl) hc8 ?_);exact W
 exact W
theorem L9{T:aL}(F:FT T){a0 a1 a2 a3 a4 a5:DC}(cV:(Ty.s 1000).ok a0)(bX:(Ty.l 100 dX).ok a1)(cK:(Ty.l 200 bn).ok a2)(cw:(Ty.l 4 ew).ok a3)(cb:(Ty.l 4 dW).ok a4)(cq:(Ty.l 200 bn).ok a5):Sound T 200 [.agg [.d a0,.d a1,.d a2,.d a3,.d a4],.d a5] fun r=>∃y0,r= .d y0∧(Ty.b).ok y0:=by
 refine bk F.q200 aa ?_;rcases cV,bX,cK,cw,cb,cq with⟨⟨gU,rfl,kE⟩,⟨bD,L,dm,Z⟩,⟨bz,cr,cY,bY⟩,⟨dD,eZ,fO,eu⟩,⟨et,dE,e9,dk⟩,⟨e5,M,lS,ig⟩⟩
 refine r0 11 aa (bh [4,2,1,0] [2] aa aa (fun e0 b0 k VE B=>∃z,ak ((5,.d (dJ z))::e0) VE∧ak b0 B∧eg k 0 z (bD.length:Int)) ?_ fin);rintro _ VE B⟨z,hV,hB,rfl,bU⟩;refine aT _ _ hV hB (aB 6 aa (aR aa L ?_));refine ro 2 aa ?_;refine ay aa ?_ ?_<;>intro g1
 ·refine rc 8 aa (bh [11,5,4,2,1,0] [2] aa aa (fun e0 b0 k VE B=>∃A,ak ((6,.d (dJ A))::e0) VE∧ak b0 B∧eg k 0 A (e5.length:Int)) ?_ fin);rintro _ VE B⟨A,hV,hB,rfl,fi⟩;refine aT _ _ hV hB (aB 5 aa (aR aa M ?_));refine ro 2 aa ?_;refine ay aa ?_ ?_<;>intro g2
  ·refine rc 8 aa ?_;obtain⟨p',O,sM,U,BL,⟨UA,G,SL,I⟩,fL⟩:=qI z Z;refine aU (aH aa aa L ae fL aa ?_);refine cE aa aa (ia aa (aV aa) (aV aa) ?_);refine rq 2 aa ?_;obtain⟨o5,Y,dh⟩:=qI A ig;refine aU (aH aa aa M ae dh aa ?_);refine cE aa aa (dy aa aa ?_);refine aO aa (aA aa (O1 F O U G ae I Y) ?_);rintro _ _⟨jG,rfl,pH⟩;exact W
  exact W
 exact W
theorem folC{T:aL}(F:FT T){a0 a1 a2 a3 a4 a5 a6:DC}(cV:tJ.ok a0)(bX:tJ.ok a1)(cK:(Ty.l 13 lN).ok a2)(cw:tJ.ok a3)(cb:tJ.ok a4)(cq:(Ty.l 13 lN).ok a5)(fC:tJ.ok a6):Sound T 198 [.agg [.d a0,.d a1,.d a2],.agg [.d a3,.d a4,.d a5],.d a6] fun r=>∃y0,r= .d y0∧(Ty.b).ok y0:=by
 refine bk F.q198 aa ?_;rcases cV,bX,cK,cw,cb,cq,fC with⟨⟨aI,rfl,iF,iG⟩,⟨aN,rfl,eD,eo⟩,⟨bz,G,cY,I⟩,⟨aZ,rfl,kC,kD⟩,⟨bF,rfl,mw,my⟩,⟨e5,z,lS,ig⟩,⟨bE,rfl,o0,o4⟩⟩
 refine r0 17 aa ?_;refine ay aa ?_ ?_<;>intro h1
 ·exact W
 refine rc 7 aa (bh [15,6,4,3,2,1,0] [4,3] aa aa (fun e0 b0 k VE B=>∃A,ak ((7,.d (dJ A))::e0) VE∧ak b0 B∧eg k 0 A (e5.length:Int)) ?_ fin);rintro _ VE B⟨A,hV,hB,rfl,bU⟩;refine aT _ _ hV hB (aB 6 aa (aR aa z ?_));refine ro 2 aa ?_;refine ay aa ?_ ?_<;>intro g2
 ·refine rc 9 aa ?_;obtain⟨_,⟨L,rfl,GO,Dg⟩,_,⟨M,rfl,hsx3_1⟩,_,⟨O,rfl,hzx3_2,kzx3_2⟩,U⟩:=qI A ig;refine aU (aH aa aa z ae U aa ?_);refine rq 1 aa (cE aa aa (dy aa aa ?_));refine aO aa (aA aa (O1 F al al G ae I al) ?_);rintro _ _⟨gk,rfl,t8⟩;refine rq 7 aa ?_;refine dL aa ?_ ?_<;>intro g5
  ·refine rq 3 aa (cn aa aa (aH aa aa z ae U aa ?_));refine rq 6 aa ?_;refine dL aa ?_ ?_<;>intro g6
   ·refine rq 3 aa (bL aa (dK aa (bL aa (bL aa (dK aa (bL aa (dK aa (bL aa (bL aa ?_)))))))));exact dK aa (bL aa (rq 2 aa (W)))
   refine rq 3 aa ?_;refine dL aa ?_ ?_<;>intro g7
   ·refine rq 3 aa ?_;obtain⟨_,⟨Ig,rfl,aeW,aeX⟩,_,⟨ahm,rfl,hsx8_1⟩,_,⟨zx8_2,rfl,hzx8_2,kzx8_2⟩,jg⟩:=qI gk I;refine cn aa aa (aH aa aa G ae jg aa ?_);refine rq 4 aa (cn aa aa (aH aa aa z ae U aa ?_));refine rq 1 aa (cn aa aa (xw (r:=[(dJ Ig),(aw ahm),(dJ zx8_2)]) (r':=[(dJ L),(aw M),(dJ O)]) aa aa aa aa (fun b9=>?_)));exact rq 2 aa (W)
   exact rq 13 aa (W)
  refine rq 13 aa ?_;refine dL aa ?_ ?_<;>intro lY
  ·refine rq 3 aa ?_;obtain⟨_,⟨Y,rfl,hzx12_0,kzx12_0⟩,_,⟨Z,rfl,hsx12_1⟩,_,⟨zx12_2,rfl,hzx12_2,kzx12_2⟩,iH⟩:=qI gk I;refine cn aa aa (aH aa aa G ae iH aa ?_);refine rq 4 aa (cn aa aa (aH aa aa z ae U aa ?_));refine rq 1 aa (cn aa aa (xw (r:=[(dJ Y),(aw Z),(dJ zx12_2)]) (r':=[(dJ L),(aw M),(dJ O)]) aa aa aa aa (fun b13=>?_)));exact rq 2 aa (W)
  exact rq 13 aa (W)
 exact W
theorem UL{T:aL}(F:FT T){a0 a1 a2 a3 a4 a5:DC}(cV:(Ty.s 1000).ok a0)(bX:(Ty.l 100 dX).ok a1)(cK:(Ty.l 200 bn).ok a2)(cw:(Ty.l 4 ew).ok a3)(cb:(Ty.l 4 dW).ok a4)(cq:tJ.ok a5):Sound T 99 [.agg [.d a0,.d a1,.d a2,.d a3,.d a4],.d a5] fun r=>∃y0,r= .d y0∧(Ty.b).ok y0:=by
 refine bk F.q99 aa ?_;rcases cV,bX,cK,cw,cb,cq with⟨⟨gU,rfl,kE⟩,⟨bD,cO,dm,cl⟩,⟨bz,O,cY,U⟩,⟨dD,L,fO,Y⟩,⟨et,M,e9,Z⟩,⟨cm,rfl,nq,nr⟩⟩
 refine bV 11 aa (aA aa (DS F O ae U al) ?_);rintro _ _⟨_,rfl,UM,rfl⟩;refine ro 1 aa ?_;refine cF aa ?_ ?_<;>intro h2
 ·exact W
 refine rc 7 aa (bh [11,4,2,1,0] [2] aa aa (fun e0 b0 k VE B=>∃z,ak ((5,.d (dJ z))::e0) VE∧ak b0 B∧eg k 0 z (dD.length:Int)) ?_ fin);rintro _ VE B⟨z,hV,hB,rfl,bU⟩;refine aT _ _ hV hB (aB 6 aa (aR aa L ?_));refine ro 2 aa ?_;refine ay aa ?_ ?_<;>intro g3
 ·refine rc 8 aa ?_;obtain⟨_,rfl,_,⟨sx4_1,rfl,hsx4_1⟩,_,rfl,dh⟩:=qI z Y;refine aq (aH aa aa L ae dh aa ?_);refine aP 9 aa (aA aa (DS F (.inl aa) ae tR al) ?_);rintro _ _⟨_,rfl,Ih,rfl⟩;refine ro 1 aa ?_;refine bu aa ?_ ?_<;>intro h6
  ·exact W
  refine ro 4 aa (bw aa aa (pn aa aa ?_));refine ro 1 aa ?_;refine bu aa ?_ ?_<;>intro g8
  ·refine ro 3 aa (bw aa aa (aA aa (DS F (.inl aa) ae tR al) ?_));rintro _ _⟨O6,rfl,M8⟩;exact W
  exact W
 refine rc 7 aa (bh [16,11,5,4,2,1,0] [2] aa aa (fun e0 b0 k VE B=>∃A,ak ((7,.d (dJ A))::e0) VE∧ak b0 B∧eg k 0 A (et.length:Int)) ?_ fin);rintro _ VE B⟨A,hV,hB,rfl,fi⟩;refine aT _ _ hV hB (aB 6 aa (aR aa M ?_));refine ro 2 aa ?_;refine ay aa ?_ ?_<;>intro lY
 ·refine rc 8 aa ?_;obtain⟨pI,nK,t9,⟨aeT,G,acF,I⟩,iH⟩:=qI A Z;refine aq (aH aa aa M ae iH aa ?_);refine aP 3 aa (aA aa (DS F G ae I al) ?_);rintro _ _⟨ub,rfl,GX⟩;exact W
 exact W
theorem aat{T:aL}(F:FT T){L M:DC}{A:ah}(G:au A L)(O:A.length≤1000000000)(U:af bn A)(I:tJ.ok M):Sound T 146 [.d L,.d M] fun r=>∃Y,r= .d Y∧(Ty.b).ok Y:=by
 refine bk F.q146 aa ?_;obtain⟨aN,rfl,Z,eo⟩:=I;refine bV 8 aa (aR aa G ?_);refine ro 3 aa (bh [8,7,4,1,0] [] aa aa (fun e0 b0 k VE B=>∃z,ak ((9,.d (dJ z))::e0) VE∧ak b0 B∧eg k 0 z (A.length:Int)) ?_ fin);rintro _ VE B⟨z,hV,hB,rfl,bU⟩;exact aT _ _ hV hB (W)
theorem InsertC{T:aL}(F:FT T){L Z a2:DC}(M:(Ty.l 1000000000 cB).ok L)(O:tJ.ok Z)(U:tJ.ok a2):Sound T 103 [.d L,.agg [.d Z,.d a2]] fun r=>∃y0 z y2 A,r= .agg [.d y0,.d y2]∧au z y0∧(z.length:Int)≤0∧af bn z∧au A y2∧(A.length:Int)≤1∧af jW A:=by
 refine bk F.q103 aa ?_;rcases M,O,U with⟨⟨bM,G,cM,I⟩,⟨aN,rfl,eD,eo⟩,⟨bo,rfl,lA,lB⟩⟩
 refine bV 9 aa (aA aa (GW F al al) ?_);rintro _ _⟨_,rfl,Y,rfl⟩;refine ro 2 aa ?_;refine cF aa ?_ ?_<;>intro h2
 ·exact W
 refine rc 7 aa ?_;have qo:af jW [[L,(dJ aN),(dJ bo),.nil]]:=(cI (aj (aM G ae I) (aj al (aj al (aj gK bm)))) cj);exact eS 12 12 aa aa (fun _=>⟨aa,aa⟩) (W)
theorem aeY{T:aL}(F:FT T){a0:DC}{I:ah}(Z:au I a0)(cM:I.length≤1000000000)(bO:af jW I):Sound T 111 [.d a0] fun r=>∃y0 L,r= .d y0∧au L y0∧(L.length:Int)≤2*(I.length:Int)∧af bn L∧0≤(L.length:Int)∧(L=[]→y0= .nil):=by
 refine bk F.q111 aa (bV 12 aa (aR aa Z ?_));refine ro 3 aa (bh [7,6,2,0] [] aa aa (fun e0 b0 k VE B=>∃G A z,ak ((3,.d G)::(8,.d (dJ z))::e0) VE∧ak b0 B∧k=((I.length:Int) -z).toNat∧(au A G)∧((A.length:Int)≤2*z)∧(af bn A)∧(A=[]→G= .nil)∧(0≤z∧(z≤(I.length:Int)∨z=0))) ?_ fin);rintro _ VE B⟨G,A,z,hV,hB,rfl,U,cN,Y,aeZ,wu⟩;refine aT _ _ hV hB (rc 5 aa ?_);refine ay aa ?_ ?_<;>intro g1
 ·refine rc 5 aa ?_;obtain⟨gC,jm,fJ,M,fW,O,lD,lL,bQ⟩:=qI z bO;refine aq (aH aa aa Z ae bQ aa ?_);refine aP 8 aa (aA aa (pB F M O) ?_);rintro _ _⟨_,rfl,Bc,rfl⟩;refine ro 1 aa ?_;refine cF aa ?_ ?_<;>intro h4
  ·refine rc 1 aa ?_;rcases Ty.dV M,Ty.dV O with⟨⟨vN,rfl,tU,oG⟩,⟨M9,rfl,vt,vu⟩⟩
   refine rp 8 aa ?_;have Cv:af bn [[(dJ vN)],[(dJ M9)]]:=(cI (aj al bm) (cI (aj al bm) cj));refine eS 22 22 aa aa (fun _=>⟨aa,aa⟩) (aq (aA aa (xN F U ae Y (.inl aa) ae Cv) ?_));rintro _ _⟨lP,q8,rfl,sg,xM,nL,ae0,ae1⟩;exact W
  exact W
 exact W
theorem Ii{T:aL}(F:FT T){a0:DC}{G:ah}(I:au G a0)(cM:G.length≤1000000000)(L:af bn G):Sound T 199 [.d a0] fun r=>∃y0,r= .d y0∧(Ty.b).ok y0:=by
 refine bk F.q199 aa (r0 10 aa (bh [2,0] [] aa aa (fun e0 b0 k VE B=>∃A,ak ((3,.d (dJ A))::e0) VE∧ak b0 B∧eg k 0 A (G.length:Int)) ?_ fin));rintro _ VE B⟨A,hV,hB,rfl,bU⟩;refine aT _ _ hV hB (aB 5 aa (aR aa I ?_));refine ro 2 aa ?_;refine ay aa ?_ ?_<;>intro g1
 ·refine rc 7 aa ?_;obtain⟨j2,O,qu⟩:=bx (z:=A) (n:=G.length+1) ae ae;refine aU (eC (l:=0) (h:=j2) rfl I L rfl (oM ae) ⟨_,(by rw[←O];rfl)⟩ rfl ae ae (fun d3 w3 U P0 Y=>?_));refine rq 2 aa ?_;obtain⟨o5,M,Z⟩:=qI A L;refine aU (aH aa aa I ae Z aa ?_);refine cE aa aa (dy aa aa ?_);refine aO aa (aA aa (DS F U ae Y M) ?_);rintro _ _⟨jG,rfl,pH⟩;exact W
 exact W
end Go.Ev.Rp
namespace Go.Ev.Rp
open Go Go.Ev.Pp
attribute [local irreducible] VC VO VQ VI Sound bW
theorem Td{T:aL}(F:FT T){G:DC}(z:(Ty.s 1000).ok G):Sound T 94 [.d G] fun r=>∃I,r= .d I∧(Ty.b).ok I:=by
 refine bk F.q94 aa ?_;obtain⟨M,rfl,L⟩:=z;refine bV 7 aa (aA aa (Tc F (bH an)) ?_);rintro _ _⟨_,rfl,A,rfl⟩;refine ro 1 aa ?_;refine bu aa ?_ ?_<;>intro h2
 ·refine ro 1 aa (bw aa aa (kL (b:=[118,102,114,111,109]) aa aa ?_));refine ro 2 aa ?_;refine bu aa ?_ ?_<;>intro O
  ·refine ro 1 aa (bw aa aa (kL (b:=[118,116,111]) aa aa ?_));refine ro 2 aa ?_;refine bu aa ?_ ?_<;>intro U
   ·refine ro 1 aa (bw aa aa (kL (b:=[114,102,114,111,109]) aa aa ?_));refine ro 2 aa ?_;refine bu aa ?_ ?_<;>intro Y
    ·refine ro 1 aa (bw aa aa (kL (b:=[114,116,111]) aa aa ?_));exact eV 4 aa (bN aa aa fin)
    exact W
   exact W
  exact W
 exact W
theorem vverC{T:aL}(F:FT T){a0 a1 a2:DC}(cV:tJ.ok a0)(bX:tJ.ok a1){L:ah}(z:au L a2)(cY:L.length≤13)(I:af lN L):Sound T 197 [.agg [.d a0,.d a1,.d a2]] fun r=>∃y0,r=dB y0∧(y0=true→1≤(L.length:Int)∧(L.length:Int)≤12):=by
 refine bk F.q197 aa ?_;rcases cV,bX with⟨⟨aI,rfl,iF,iG⟩,⟨aN,rfl,eD,eo⟩⟩
 refine bV 10 aa (aA aa (pB F al al) ?_);rintro _ _⟨_,rfl,UM,rfl⟩;refine ro 2 aa ?_;refine bu aa ?_ ?_<;>intro h2
 ·exact W
 refine ro 2 aa (bw aa aa (aR aa z ?_));refine ro 3 aa ?_;refine bu aa ?_ ?_<;>intro h3
 ·exact W
 refine ro 2 aa (bw aa aa (aR aa z ?_));refine ro 3 aa ?_;refine ay aa ?_ ?_<;>intro h4
 ·exact W
 refine rc 7 aa (bh [20,2,1,0] [1] aa aa (fun e0 b0 k VE B=>∃G,ak ((3,.d (dJ G))::e0) VE∧ak b0 B∧eg k 0 G (L.length:Int)) ?_ fin);rintro _ VE B⟨G,hV,hB,rfl,bU⟩;refine aT _ _ hV hB (aB 6 aa (aR aa z ?_));refine ro 2 aa ?_;refine ay aa ?_ ?_<;>intro g5
 ·refine rc 8 aa ?_;obtain⟨_,⟨ss,rfl,Y,Z⟩,yQ,A,_,⟨UN,rfl,hzx6_2,kzx6_2⟩,eX⟩:=qI G I;refine aq (aH aa aa z ae eX aa ?_);refine ro 6 aa (rp 4 aa ?_);refine dL aa ?_ ?_<;>intro g7
  ·refine rq 8 aa (bL aa (dK aa (bL aa (dK aa (bL aa (bL aa (bL aa (bL aa (dK aa ?_)))))))));exact bL aa (rq 26 aa (W))
  refine rq 5 aa ?_;refine dL aa ?_ ?_<;>intro g8
  ·refine rq 3 aa (bL aa (dK aa (bL aa (dK aa (bL aa (bL aa (bL aa (bL aa (dK aa ?_)))))))));exact bL aa (rq 26 aa (W))
  refine rq 3 aa ?_;refine dL aa ?_ ?_<;>intro g9
  ·refine rq 5 aa (cn aa aa (dr aa aa ae ae ?_));obtain⟨_,⟨ae2,rfl,M,O⟩,qX,AE,Ij,AF,U⟩:=qI (G-1) I;refine cn aa aa (aH aa aa z ae U aa ?_);refine rq 2 aa (rp 4 aa ?_);refine dL aa ?_ ?_<;>intro lY
   ·exact rq 23 aa (W)
   refine rq 2 aa (fx aa aa aa (aA aa (Td F A) ?_));rintro _ _⟨_,rfl,Te,rfl⟩;refine rq 3 aa ?_;refine dL aa ?_ ?_<;>intro Kq
   ·exact rq 17 aa (W)
   refine rq 2 aa (rp 3 aa ?_);refine dL aa ?_ ?_<;>intro tg
   ·exact rq 12 aa (W)
   refine rq 5 aa ?_;refine dL aa ?_ ?_<;>intro xb
   ·exact rq 7 aa (W)
   refine rq 3 aa (fx aa aa aa (aA aa (Ta F al al z ae I A) ?_));rintro _ _⟨M',rfl,hy16_0⟩;exact rq 3 aa (W)
  refine rq 15 aa (fx aa aa aa (aA aa (Td F A) ?_));rintro _ _⟨_,rfl,by18_0,rfl⟩;refine rq 3 aa ?_;refine dL aa ?_ ?_<;>intro h19
  ·exact rq 17 aa (W)
  refine rq 2 aa (rp 3 aa ?_);refine dL aa ?_ ?_<;>intro g20
  ·exact rq 12 aa (W)
  refine rq 5 aa ?_;refine dL aa ?_ ?_<;>intro Kn
  ·exact rq 7 aa (W)
  refine rq 3 aa (fx aa aa aa (aA aa (Ta F al al z ae I A) ?_));rintro _ _⟨Na,rfl,ae3⟩;exact rq 3 aa (W)
 exact W
theorem CO{T:aL}(F:FT T){a0:DC}{G:ah}(L:au G a0)(cM:G.length≤1000000000)(M:af bn G):Sound T 69 [.d a0] fun r=>∃Z I,r= .d Z∧au I Z∧(I.length:Int)≤1000000000∧af bn I∧0≤(I.length:Int)∧(I=[]→Z= .nil):=by
 refine bk F.q69 aa (r0 14 aa (dz 3 90 3 8 1 aa aa (bh [2,0] [] aa aa (fun e0 b0 k VE B=>∃z A,ak ((3,.ac 90 A.length 1)::(4,.d (dJ z))::e0) VE∧ak ((90,.acc 3 8 1 A)::b0) B∧k=((G.length:Int) -z).toNat∧(0≤z∧(z≤(G.length:Int)∨z=0))∧((A.length:Int)≤z)∧(af bn A)) ?_ fin)));rintro _ VE B⟨z,A,hV,hB,rfl,bU,cN,O⟩;refine aT _ _ hV hB (aB 5 aa (aR aa L ?_));refine ro 2 aa ?_;refine ay aa ?_ ?_<;>intro g1
 ·refine rc 7 aa ?_;obtain⟨_,⟨oU,rfl,U,Y⟩,bQ⟩:=qI z M;refine aq (aH aa aa L ae bQ aa ?_);refine aP 1 aa (ab5 aa aa (fun z3 Kh=>?_));refine ro 1 aa ?_;refine aq (aY (rows:=A) (ys:=[[(dJ z3)]]) rfl rfl rfl (.bs (rows:=[[(dJ z3)]]) rfl) ao ae (fun h=>by rw[h];rfl) (fun h=>by rw[h];rfl) ?_);exact W
 exact rc 6 aa (ct 2 90 aa aa (fun _=>⟨aa,aa⟩) (W))
theorem ajW{T:aL}(F:FT T){Y Z:DC}{A:ah}(I:au A Y)(cM:A.length≤1000000000)(L:af cB A)(O:(Ty.i .i64 0 64).ok Z):Sound T 105 [.d Y,.d Z] fun r=>∃U G,r= .d U∧au G U∧(G.length:Int)≤max (A.length:Int) 64∧af cB G∧0≤(G.length:Int)∧(G=[]→U= .nil):=by
 refine bk F.q105 aa ?_;obtain⟨aN,rfl,eD,eo⟩:=O;refine bV 7 aa (ed (ys:=A) 7 aa aa aa aa aa (.sD I (cC L aa)) ao ae ?_);refine ro 4 aa (bh [4,1,0] [] aa aa (fun e0 b0 k VE B=>∃z,ak ((5,.ac 7 z.length 3)::e0) VE∧ak ((7,.acc 87 32 3 z)::b0) B∧k=(aN-z.length).toNat∧((z.length:Int)≤max (A.length:Int) 64)∧(af cB z)) ?_ fin);rintro _ VE B⟨z,hV,hB,rfl,bU,M⟩;refine aT _ _ hV hB (rc 8 aa ?_);refine ay aa ?_ ?_<;>intro g1
 ·refine rc 6 aa ?_;refine aq (aY (rows:=z) (ys:=[[i0,i0,(aw [])]]) rfl rfl rfl (.bs (rows:=[[i0,i0,(aw [])]]) rfl) ao ae (fun h=>by rw[h];rfl) (fun h=>by rw[h];rfl) ?_);exact W
 exact rc 6 aa (ct 4 7 aa aa (fun _=>⟨aa,aa⟩) (W))
theorem ahn{T:aL}(F:FT T){a0 a1:DC}{Z:ah}(Y:au Z a0)(cM:Z.length≤1000000000)(bO:af cB Z){I:ah}(G:au I a1)(dm:I.length≤1000000000)(cl:af bn I):Sound T 147 [.d a0,.d a1] fun r=>∃y0 L,r= .d y0∧au L y0∧(L.length:Int)≤1000000000∧af cB L∧0≤(L.length:Int)∧(L=[]→y0= .nil):=by
 refine bk F.q147 aa (r0 14 aa (dz 5 90 87 32 3 aa aa (bh [4,1,0] [] aa aa (fun e0 b0 k VE B=>∃z A,ak ((5,.ac 90 A.length 3)::(6,.d (dJ z))::e0) VE∧ak ((90,.acc 87 32 3 A)::b0) B∧k=((I.length:Int) -z).toNat∧(0≤z∧(z≤(I.length:Int)∨z=0))∧((A.length:Int)≤z)∧(af cB A)) ?_ fin)));rintro _ VE B⟨z,A,hV,hB,rfl,bU,cN,pA⟩;refine aT _ _ hV hB (aB 5 aa (aR aa G ?_));refine ro 2 aa ?_;refine ay aa ?_ ?_<;>intro g1
 ·refine rc 7 aa ?_;obtain⟨_,⟨oU,rfl,qJ,sd⟩,bQ⟩:=qI z cl;refine aq (aH aa aa G ae bQ aa ?_);refine ro 3 aa ?_;refine bu aa ?_ ?_<;>intro g3
  ·refine ro 2 aa (bw aa aa (aH aa aa G ae bQ aa ?_));refine ro 2 aa (bw aa aa (aR aa Y ?_));refine ro 3 aa ?_;refine ay aa ?_ ?_<;>intro g4
   ·refine aB 5 aa (aH aa aa G ae bQ aa ?_);refine ro 1 aa ?_;obtain⟨_,⟨M,rfl,xK,xL⟩,_,⟨O,rfl,De,Df⟩,_,⟨U,rfl,hsx5_2⟩,eW⟩:=qI oU bO;refine aq (aH aa aa Y ae eW aa ?_);refine ro 2 aa ?_;refine aq (aY (rows:=A) (ys:=[[(dJ M),(dJ O),(aw U)]]) rfl rfl rfl (.bs (rows:=[[(dJ M),(dJ O),(aw U)]]) rfl) ao ae (fun h=>by rw[h];rfl) (fun h=>by rw[h];rfl) ?_);exact W
   refine rc 4 aa ?_;refine aq (aY (rows:=A) (ys:=[[i0,i0,(aw [])]]) rfl rfl rfl (.bs (rows:=[[i0,i0,(aw [])]]) rfl) ao ae (fun h=>by rw[h];rfl) (fun h=>by rw[h];rfl) ?_);exact W
  refine ro 9 aa (dn aa aa (rc 4 aa ?_));refine aq (aY (rows:=A) (ys:=[[i0,i0,(aw [])]]) rfl rfl rfl (.bs (rows:=[[i0,i0,(aw [])]]) rfl) ao ae (fun h=>by rw[h];rfl) (fun h=>by rw[h];rfl) ?_);exact W
 exact rc 6 aa (ct 4 90 aa aa (fun _=>⟨aa,aa⟩) (W))
end Go.Ev.Rp
namespace Go.Ev.Rp
open Go Go.Ev.Pp
attribute [local irreducible] VC VO VQ VI Sound bW
theorem aau{T:aL}(F:FT T){a0 a1 a2 a3 a4:DC}(cV:(Ty.s 1000).ok a0){L:ah}(G:au L a1)(dm:L.length≤100)(Z:af dX L)(cK:(Ty.l 200 bn).ok a2)(cw:(Ty.l 4 ew).ok a3)(cb:(Ty.l 4 dW).ok a4):Sound T 140 [.agg [.d a0,.d a1,.d a2,.d a3,.d a4]] fun r=>∃y0,r=dB y0∧(y0=true→1≤(L.length:Int)∧kO L.length L):=by
 refine bk F.q140 aa ?_;rcases cV,cK,cw,cb with⟨⟨gU,rfl,kE⟩,⟨bz,cr,cY,bY⟩,⟨dD,O,fO,eu⟩,⟨et,U,e9,dk⟩⟩
 refine r0 5 aa (dP [2,1,0] [1] aa aa (fun e0 b0 VE B=>ak e0 VE∧ak b0 B∧(1≤(L.length:Int))) ?_ ?_)
 ·refine aB 4 aa (aA aa (Tc F (bH an)) ?_);rintro _ _⟨dG,rfl,mh⟩;exact W
 rintro VE B⟨hV,hB,fj0_0⟩;refine aT _ _ hV hB (rc 10 aa (bh [2,1,0] [1] aa aa (fun e0 b0 k VE B=>∃wE A,ak ((3,.d (dJ wE))::(4,.d (dJ A))::e0) VE∧ak b0 B∧k=((L.length:Int) -A).toNat∧(0≤wE∧wE≤12)∧(0≤A∧(A≤(L.length:Int)∨A=0))∧(kO A L)) ?_ fin));rintro _ VE B⟨wE,A,hV,hB,rfl,bU,cN,uC⟩;refine aT _ _ hV hB (aB 6 aa (aR aa G ?_));refine ro 2 aa ?_;refine ay aa ?_ ?_<;>intro g6
 ·refine rc 3 aa ?_;obtain⟨ns,nf,n9,qW,yP,⟨Nb,M,hnx7_2,Tf⟩,eF⟩:=qI A Z;refine dP [38,4,3,2,1,0] [1] aa aa (fun e0 b0 VE B=>ak e0 VE∧ak b0 B∧(1≤(Nb.length:Int)∧(Nb.length:Int)≤12)) ?_ ?_
  ·refine rc 5 aa (aU (aH aa aa G ae eF aa ?_));refine cE aa aa (ia aa (aV aa) (aV aa) ?_);refine aO aa (aA aa (vverC F nf qW M ae Tf) ?_);rintro _ _⟨sQ,rfl,Bd⟩;refine rq 2 aa ?_;refine dL aa ?_ ?_<;>intro h9
   ·refine rq 3 aa (bL aa (dK aa (bL aa (bL aa (bL aa (dK aa (bL aa (dK aa (bL aa ?_)))))))));exact bL aa (dK aa (bL aa (dK aa (bL aa (rq 2 aa (W))))))
   have k9:=Bd (by simpa using h9);refine rq 3 aa ?_;refine dL aa ?_ ?_<;>intro uK
   ·refine rq 3 aa (cn aa aa (dr aa aa ae ae ?_));obtain⟨agT,SO,MX,Az,x11_2,hx11_2,sN⟩:=qI (A-1) Z;refine cn aa aa (aH aa aa G ae sN aa ?_);refine rq 4 aa (cn aa aa (aH aa aa G ae eF aa ?_));refine rq 2 aa (fx aa aa aa (aA aa (folC F SO Az hx11_2 nf qW (aM M ae Tf) al) ?_));rintro _ _⟨_,rfl,Te,rfl⟩;exact rq 3 aa (W)
   exact rq 16 aa (W)
  rintro VE B⟨hV,hB,UO⟩;refine aT _ _ hV hB (rc 5 aa (bh [38,4,2,1,0] [1] aa aa (fun e0 b0 k VE B=>∃Jq Y,ak ((3,.d (dJ Jq))::(5,.d (dJ Y))::e0) VE∧ak b0 B∧k=((Nb.length:Int) -Y).toNat∧(0≤Jq∧Jq≤12)∧(0≤Y∧(Y≤(Nb.length:Int)∨Y=0))) ?_ fin));rintro _ VE B⟨Jq,Y,hV,hB,rfl,fi,gl⟩;refine aT _ _ hV hB (aB 7 aa (aH aa aa G ae eF aa ?_));refine aP 2 aa (aR aa M ?_);refine ro 2 aa ?_;refine ay aa ?_ ?_<;>intro tg
  ·refine aB 8 aa (aH aa aa G ae eF aa ?_);refine ro 3 aa ?_;obtain⟨_,⟨zx15_0,rfl,hzx15_0,kzx15_0⟩,DX,GY,x15_2,hx15_2,B4⟩:=qI Y Tf;refine aq (aH aa aa M ae B4 aa ?_);refine aP 2 aa (mR aa aa (fun z16 hz16=>?_));refine aP 4 aa (bB aa aa ae ae ?_);exact dC 2 aa (⟨_,rz fin ae⟩)
  refine aB 3 aa (bB aa aa ae ae ?_);refine dC 2 aa ?_;exact⟨((L.length:Int) -((A+1))).toNat,ae,Jq,(A+1),⟨rfl,rfl,rfl,rfl,rfl,trivial⟩,⟨rfl,trivial⟩,rfl,ae,ae,(by first|assumption|exact lensTo_0|exact kO.step (by assumption) ae (by assumption) rfl (by assumption) (by assumption))⟩
 refine rc 1 aa (dP [38,4,3,2,1,0] [1] aa aa (fun e0 b0 VE B=>ak e0 VE∧ak b0 B∧(kO L.length L)) ?_ ?_)
 ·refine aB 4 aa (aA aa (Ii F cr ae bY) ?_);rintro _ _⟨_,rfl,by17_0,rfl⟩;refine ro 2 aa ?_;refine bu aa ?_ ?_<;>intro Ym
  ·exact W
  refine ro 3 aa (bw aa aa (aA aa (L9 F (bH an) (aM G ae Z) (aM cr ae bY) (aM O ae eu) (aM U ae dk) (aM cr ae bY)) ?_));rintro _ _⟨_,rfl,by19_0,rfl⟩;refine ro 3 aa ?_;refine bu aa ?_ ?_<;>intro h20
  ·exact W
  refine ro 2 aa (bw aa aa (aR aa O ?_));refine ro 3 aa ?_;refine bu aa ?_ ?_<;>intro h21
  ·exact W
  refine ro 2 aa (bw aa aa (aR aa U ?_));refine ro 3 aa ?_;refine ay aa ?_ ?_<;>intro Yn
  ·exact W
  refine rcl 1 aa ?_;exact⟨⟨rfl,rfl,rfl,rfl,rfl,rfl,trivial⟩,⟨rfl,trivial⟩,(by first|assumption|exact kO.all (by assumption) ae)⟩
 rintro VE B⟨hV,hB,fj7_0⟩;refine aT _ _ hV hB (rc 6 aa (bh [38,4,3,2,1,0] [1] aa aa (fun e0 b0 k VE B=>∃O7,ak ((6,.d (dJ O7))::e0) VE∧ak b0 B∧eg k 0 O7 (dD.length:Int)) ?_ fin));rintro _ VE B⟨O7,hV,hB,rfl,oa⟩;refine aT _ _ hV hB (aB 6 aa (aR aa O ?_));refine ro 2 aa ?_;refine ay aa ?_ ?_<;>intro g23
 ·refine rc 8 aa ?_;obtain⟨_,rfl,x24_1,hx24_1,_,rfl,WO⟩:=qI O7 eu;refine aq (aH aa aa O ae WO aa ?_);refine ro 4 aa (dP [118,38,7,6,4,3,2,1,0] [7,1] aa aa (fun e0 b0 VE B=>ak e0 VE∧ak b0 B) ?_ ?_)
  ·refine rc 2 aa (hY 2 aa (aR aa (.inl aa) ?_));refine ro 2 aa ?_;refine bu aa ?_ ?_<;>intro P6
   ·exact W
   refine ro 2 aa (bw aa aa (aA aa (Ii F (.inl aa) ae tR) ?_));rintro _ _⟨_,rfl,by26_0,rfl⟩;refine ro 3 aa ?_;refine bu aa ?_ ?_<;>intro h27
   ·exact W
   refine ro 3 aa (bw aa aa (aA aa (L9 F (bH an) (aM G ae Z) (aM cr ae bY) (aM O ae eu) (aM U ae dk) (aM (.inl aa) ae tR)) ?_));rintro _ _⟨_,rfl,by28_0,rfl⟩;refine ro 3 aa ?_;refine bu aa ?_ ?_<;>intro h29
   ·exact W
   refine ro 2 aa (bw aa aa (aA aa (Tc F hx24_1) ?_));rintro _ _⟨_,rfl,by30_0,rfl⟩;refine ro 3 aa ?_;refine bu aa ?_ ?_<;>intro h31
   ·exact W
   refine ro 2 aa (bw aa aa (aR aa (.inl aa) ?_));refine ro 2 aa (bw aa aa (aR aa (.inl aa) ?_));refine ro 3 aa (bw aa bI (va aa ?_));refine bw aa bI (kI aa aa aa ?_);refine bw aa bI (aA aa (Ii F (.inl aa) ae tR) ?_);rintro _ _⟨y32_0,rfl,hy32_0⟩;exact W
  rintro VE B⟨hV,hB⟩;refine aT _ _ hV hB (rc 5 aa (bh [118,38,7,6,4,3,2,1,0] [7,1] aa aa (fun e0 b0 k VE B=>∃O8,ak ((8,.d (dJ O8))::e0) VE∧ak b0 B∧eg k 0 O8 (((([[DC.i .i64 1]]:ah)).length:Nat):Int)) ?_ fin));rintro _ VE B⟨O8,hV,hB,rfl,Jr⟩;refine aT _ _ hV hB (rc 3 aa (hY 3 aa (aR aa (.inl aa) ?_)));refine ro 2 aa ?_;refine ay aa ?_ ?_<;>intro Ko
  ·refine rc 8 aa ?_;obtain⟨_,⟨zx35_0,rfl,hzx35_0,kzx35_0⟩,ED⟩:=qI O8 DH;refine aq (aH aa aa (.inl aa) ae ED aa ?_);refine ro 3 aa ?_;refine bu aa ?_ ?_<;>intro h36
   ·exact W
   refine ro 3 aa (bw aa aa (aH aa aa (.inl aa) ae ED aa ?_));refine ro 4 aa ?_;refine cF aa ?_ ?_<;>intro h37
   ·exact W
   exact W
  exact W
 refine rc 7 aa (bh [118,38,6,4,3,2,1,0] [1] aa aa (fun e0 b0 k VE B=>∃O9,ak ((9,.d (dJ O9))::e0) VE∧ak b0 B∧eg k 0 O9 (et.length:Int)) ?_ fin);rintro _ VE B⟨O9,hV,hB,rfl,Js⟩;refine aT _ _ hV hB (aB 6 aa (aR aa U ?_));refine ro 2 aa ?_;refine ay aa ?_ ?_<;>intro g38
 ·refine rc 8 aa ?_;obtain⟨_,⟨zx39_0,rfl,hzx39_0,kzx39_0⟩,x39_1,⟨wx39_1,z,hnx39_1,I⟩,WQ⟩:=qI O9 dk;refine aq (aH aa aa U ae WQ aa ?_);refine ro 6 aa (rp 4 aa ?_);refine bu aa ?_ ?_<;>intro Yo
  ·refine ro 5 aa ?_;refine bu aa ?_ ?_<;>intro h41
   ·exact W
   refine ro 2 aa (bw aa aa (aR aa z ?_));refine ro 3 aa ?_;refine bu aa ?_ ?_<;>intro h42
   ·exact W
   refine ro 2 aa (bw aa aa (aA aa (Ii F z ae I) ?_));rintro _ _⟨_,rfl,by43_0,rfl⟩;refine ro 3 aa ?_;refine bu aa ?_ ?_<;>intro h44
   ·exact W
   refine ro 3 aa (bw aa aa (aA aa (L9 F (bH an) (aM G ae Z) (aM cr ae bY) (aM O ae eu) (aM U ae dk) (aM z ae I)) ?_));rintro _ _⟨y45_0,rfl,hy45_0⟩;exact W
  refine ro 7 aa (bw aa aa (aR aa z ?_));refine ro 3 aa ?_;refine bu aa ?_ ?_<;>intro P7
  ·exact W
  refine ro 2 aa (bw aa aa (aA aa (Ii F z ae I) ?_));rintro _ _⟨_,rfl,by48_0,rfl⟩;refine ro 3 aa ?_;refine bu aa ?_ ?_<;>intro h49
  ·exact W
  refine ro 3 aa (bw aa aa (aA aa (L9 F (bH an) (aM G ae Z) (aM cr ae bY) (aM O ae eu) (aM U ae dk) (aM z ae I)) ?_));rintro _ _⟨y50_0,rfl,hy50_0⟩;exact W
 exact W
theorem CreateSC{T:aL}(F:FT T){a0 a1 a2 a3 a4 a5:DC}(cV:(Ty.s 1000).ok a0){bD:ah}(z:au bD a1)(dm:bD.length≤100)(M:af dX bD)(cK:(Ty.l 200 bn).ok a2)(cw:(Ty.l 4 ew).ok a3)(cb:(Ty.l 4 dW).ok a4)(cq:tJ.ok a5):Sound T 91 [.agg [.d a0,.d a1,.d a2,.d a3,.d a4],.d a5] fun r=>∃y0 y1 G y3 y4 y5 y6,r= .tuple [.agg [.d y0,.d y1,.d y3,.d y4,.d y5],.d (dJ y6)]∧(Ty.s 1000).ok y0∧au G y1∧(G.length:Int)≤1∧af dX G∧(Ty.l 200 bn).ok y3∧(Ty.l 4 ew).ok y4∧(Ty.l 4 dW).ok y5∧(0≤y6∧y6≤100∧(y6=0→1≤(G.length:Int)∧kO G.length G)):=by
 refine bk F.q91 aa ?_;rcases cV,cK,cw,cb,cq with⟨⟨gU,rfl,kE⟩,⟨bz,O,cY,U⟩,⟨dD,Y,fO,Z⟩,⟨et,dE,e9,dk⟩,⟨cm,rfl,nq,nr⟩⟩
 refine r0 12 aa ?_;refine bu aa ?_ ?_<;>intro h1
 ·exact W
 refine ro 4 aa ?_;refine ay aa ?_ ?_<;>intro h2
 ·exact W
 refine aB 5 aa (aA aa (aau F (bH an) z ae M (aM O ae U) (aM Y ae Z) (aM dE ae dk)) ?_);rintro _ _⟨jb,rfl,nP⟩;refine ro 2 aa ?_;refine bu aa ?_ ?_<;>intro h4
 ·exact W
 have k4:=nP (by simpa using h4);refine ro 2 aa (bw aa aa (aR aa z ?_));refine ro 3 aa ?_;refine bu aa ?_ ?_<;>intro h5
 ·exact W
 refine ro 2 aa ?_;obtain⟨_,⟨ss,rfl,Ax,Ay⟩,yQ,yo,I,⟨wx6_2,A,hnx6_2,L⟩,eX⟩:=qI 0 M;refine bw aa aa (aH aa aa z ae eX aa ?_);refine ro 3 aa (rp 3 aa ?_);refine ay aa ?_ ?_<;>intro h7
 ·exact W
 refine aB 7 aa (aH aa aa z ae eX aa ?_);refine ro 2 aa ?_;have kd:=A;have kb:=kO.get (And.right dZ) (qR _) eX rfl kd;refine rp 3 aa ?_;have td:af dX [[(dJ cm),(dJ 1099511627776),I]]:=(cI (aj al (aj al (aj (aM A ae L) bm))) cj);refine eS 40 40 aa aa (fun _=>⟨aa,aa⟩) (eV 9 aa ?_);exact bN rfl rfl ⟨(aw gU),(.sl [[(dJ cm),(dJ 1099511627776),I]]),[[(dJ cm),(dJ 1099511627776),I]],a2,a3,a4,0,rfl,(bH an),(.inl rfl),BC,td,(aM O ae U),(aM Y ae Z),(aM dE ae dk),⟨ae,ae,(by first|(intro hb;exact absurd hb ao)|(intro hb;exact⟨(by simp),lens1 kd kb⟩))⟩⟩
end Go.Ev.Rp
namespace Go.Ev.Rp
open Go Go.Ev.Pp
attribute [local irreducible] VC VO VQ VI Sound bW
theorem L'{T:aL}(F:FT T){a0 a1 a2 a3 a4:DC}(cV:(Ty.s 1000).ok a0){G:ah}(U:au G a1)(dm:G.length≤100)(Z:af dX G)(cK:(Ty.l 200 bn).ok a2)(cw:(Ty.l 4 ew).ok a3)(cb:(Ty.l 4 dW).ok a4):Sound T 96 [.agg [.d a0,.d a1,.d a2,.d a3,.d a4]] fun r=>∃y0,r= .d (dJ y0)∧(0≤y0∧y0≤12∧(gI G.length y0 G∧qD y0 G)):=by
 refine bk F.q96 aa ?_;rcases cV,cK,cw,cb with⟨⟨gU,rfl,kE⟩,⟨bz,cr,cY,bY⟩,⟨dD,eZ,fO,eu⟩,⟨et,dE,e9,dk⟩⟩
 refine r0 15 aa (bh [2,1,0] [1] aa aa (fun e0 b0 k VE B=>∃L z,ak ((3,.d (dJ L))::(4,.d (dJ z))::e0) VE∧ak b0 B∧k=((G.length:Int) -z).toNat∧(0≤L∧L≤12)∧(0≤z∧(z≤(G.length:Int)∨z=0))∧(gI z L G)∧(qD L G)) ?_ fin);rintro _ VE B⟨L,z,hV,hB,rfl,bU,cN,uC,lR⟩;refine aT _ _ hV hB (aB 6 aa (aR aa U ?_));refine ro 2 aa ?_;refine ay aa ?_ ?_<;>intro g1
 ·refine rc 8 aa ?_;obtain⟨gC,jm,fJ,iX,fW,⟨M,O,AD,Y⟩,bQ⟩:=qI z Z;refine bh [10,4,2,1,0] [1] aa aa (fun e0 b0 k VE B=>∃I A,ak ((3,.d (dJ I))::(5,.d (dJ A))::e0) VE∧ak b0 B∧k=((M.length:Int) -A).toNat∧(0≤I∧I≤12)∧(0≤A∧(A≤(M.length:Int)∨A=0))∧(gI z I G)∧(qD I G)∧(ko A I M)) ?_ fin;rintro _ VE B⟨I,A,hV,hB,rfl,fi,gl,OP,VX,O3⟩;refine aT _ _ hV hB (aB 7 aa (aH aa aa U ae bQ aa ?_));refine aP 2 aa (aR aa O ?_);refine ro 2 aa ?_;refine ay aa ?_ ?_<;>intro g3
  ·refine aB 8 aa (aH aa aa U ae bQ aa ?_);refine ro 3 aa ?_;obtain⟨_,⟨q7,rfl,qK,qL⟩,fr,jT,pU,oO,dh⟩:=qI A Y;refine aq (aH aa aa O ae dh aa ?_);refine aP 2 aa (mR aa aa (fun z5 X2=>?_));refine aP 4 aa (bB aa aa ae ae ?_);refine dC 2 aa ?_;exact⟨((M.length:Int) -((A+1))).toNat,ae,z5,(A+1),⟨rfl,rfl,rfl,rfl,rfl,rfl,rfl,trivial⟩,⟨rfl,trivial⟩,rfl,ae,ae,Uq,(by first|assumption|exact aai|exact qD.max (by assumption) (by assumption) rfl (by assumption) (by assumption) rfl ae),Uq⟩
  refine aB 3 aa (bB aa aa ae ae ?_);refine dC 2 aa ?_;exact⟨((G.length:Int) -((z+1))).toNat,ae,I,(z+1),⟨rfl,rfl,rfl,rfl,rfl,trivial⟩,⟨rfl,trivial⟩,rfl,ae,ae,Uq,(by first|assumption|exact aai|exact qD.max (by assumption) (by assumption) rfl (by assumption) (by assumption) rfl ae)⟩
 refine fE 7 aa ?_;exact bN rfl rfl ⟨L,rfl,⟨ae,ae,⟨gI.all dZ ae,by assumption⟩⟩⟩
theorem ajX{T:aL}(F:FT T){a0 a1 a2 a3 a4 a5:DC}(cV:(Ty.s 1000).ok a0){G:ah}(I:au G a1)(dm:G.length≤100)(Z:af dX G)(cK:(Ty.l 200 bn).ok a2)(cw:(Ty.l 4 ew).ok a3)(cb:(Ty.l 4 dW).ok a4)(cq:tJ.ok a5):Sound T 101 [.agg [.d a0,.d a1,.d a2,.d a3,.d a4],.d a5] fun r=>∃y0 y1 y2 A y4,r= .tuple [.agg [.d y0,.d y1,.d y2],.d y4]∧tJ.ok y0∧tJ.ok y1∧au A y2∧(A.length:Int)≤13∧af lN A∧0≤(A.length:Int)∧(A=[]∨∃(q:Nat)(r:List DC)(d:DC),G[q]?=some r∧r[2]?=some d∧au A d)∧(Ty.b).ok y4:=by
 refine bk F.ajb aa ?_;rcases cV,cK,cw,cb,cq with⟨⟨gU,rfl,kE⟩,⟨bz,cr,cY,bY⟩,⟨dD,eZ,fO,eu⟩,⟨et,dE,e9,dk⟩,⟨cm,rfl,nq,nr⟩⟩
 refine r0 12 aa (bh [5,4,2,1,0] [4,2] aa aa (fun e0 b0 k VE B=>∃z,ak ((6,.d (dJ z))::e0) VE∧ak b0 B∧eg k 0 z (G.length:Int)) ?_ fin);rintro _ VE B⟨z,hV,hB,rfl,bU⟩;refine aT _ _ hV hB (aB 6 aa (aR aa I ?_));refine ro 2 aa ?_;refine ay aa ?_ ?_<;>intro g1
 ·refine rc 8 aa ?_;obtain⟨_,⟨O,rfl,qJ,sd⟩,_,⟨U,rfl,tU,oG⟩,fW,⟨Y,L,AD,M⟩,bQ⟩:=qI z Z;refine aq (aH aa aa I ae bQ aa ?_);refine ro 7 aa (rp 5 aa ?_);refine bu aa ?_ ?_<;>intro g3
  ·refine ro 3 aa (rp 3 aa ?_);refine ay aa ?_ ?_<;>intro g4
   ·refine aB 5 aa (aH aa aa I ae bQ aa ?_);refine ro 5 aa ?_;exact bN rfl rfl ⟨(dJ O),(dJ U),fW,Y,(.b true),rfl,al,al,L,ae,M,ae,(by first|exact .inl rfl|exact .inr ⟨_,_,_,(by assumption),rfl,(by assumption)⟩),eU⟩
   exact W
  exact W
 exact W
theorem Dn{T:aL}(F:FT T){a0 a1 a2 a3 a4 a5:DC}(cV:(Ty.s 1000).ok a0){O:ah}(cO:au O a1)(dm:O.length≤100)(cl:af dX O)(cK:(Ty.l 200 bn).ok a2)(cw:(Ty.l 4 ew).ok a3)(cb:(Ty.l 4 dW).ok a4)(cq:tJ.ok a5):Sound T 92 [.agg [.d a0,.d a1,.d a2,.d a3,.d a4],.d a5] fun r=>∃y0 U,r= .d y0∧au U y0∧(U.length:Int)≤12∧af bn U∧0≤(U.length:Int)∧(gI O.length U.length O):=by
 refine bk F.q92 aa ?_;rcases cV,cK,cw,cb,cq with⟨⟨gU,rfl,kE⟩,⟨bz,cr,cY,bY⟩,⟨dD,eZ,fO,eu⟩,⟨et,dE,e9,dk⟩,⟨cm,rfl,nq,nr⟩⟩
 refine bV 8 aa (aA aa (L' F (bH an) cO ae cl (aM cr ae bY) (aM eZ ae eu) (aM dE ae dk)) ?_);rintro _ _⟨dG,rfl,agL,agM,mh⟩;obtain⟨n2,Ks⟩:∃n:Nat,dG=n:=⟨(dG).toNat,(AX ae).symm⟩;refine aq (FM (n:=n2) 11 rfl rfl rfl rfl rfl (by rw[←Ks];rfl) (by rw[←Ks];rfl) ae ae (fun w2 Yp zl=>?_));have rJ:af bn w2:=by subst Yp;exact FK (aj al bm)
 refine aP 6 aa (aA aa (ajX F (bH an) cO ae cl (aM cr ae bY) (aM eZ ae eu) (aM dE ae dk) al) ?_);rintro _ _⟨jb,BR,OV,Y,y3_4,rfl,nP,Nc,M,hny3_2,Z,hmy3_2,hfy3_2,hy3_4⟩;refine ro 13 aa (bh [6,4,2,1,0] [6,2] aa aa (fun e0 b0 k VE B=>∃G I A,ak ((5,.bs 11 I 1)::(8,.d (dJ G))::e0) VE∧ak ((11,.arr 3 8 1 I A)::b0) B∧k=((Y.length:Int) -G).toNat∧(0≤G∧(G≤(Y.length:Int)∨G=0))∧(A.length=I)∧(I=w2.length)∧(af bn A)) ?_ fin);rintro _ VE B⟨G,I,A,hV,hB,rfl,bU,rfl,uC,L⟩;refine aT _ _ hV hB (aB 6 aa (aR aa M ?_));refine ro 2 aa ?_;refine ay aa ?_ ?_<;>intro g4
 ·refine rc 8 aa ?_;obtain⟨_,⟨t7,rfl,xK,xL⟩,B5,yp,Jt,Nd,eW⟩:=qI G Z;refine aU (aH aa aa M ae eW aa ?_);refine rq 1 aa (cE aa aa (dy aa aa ?_));refine aU (dr aa aa ae ae ?_);refine db 3 aa (aH aa aa M ae eW aa ?_);refine rq 1 aa (cE aa aa (dy aa aa ?_));have kb:=ko.get (gI.at mh.1 hfy3_2) (qR _) eW rfl;obtain⟨j6,ts,qy⟩:=bx (z:=(t7-1)) (n:=A.length) ae ae;obtain⟨Ju,Be,eX⟩:=qN qy L;refine aU (eP rfl (by rw[←ts];rfl) qy ?_);refine gX aa (rT aa aa aa aa aa aa ao ao eX (fun w7 Kt Fm=>?_));have Cu:af bn w7:=by rw[Kt];exact ff L (aj Nd bm)
  rw[←Fm];exact W
 exact rc 6 aa (kN 4 11 aa aa (fun _=>⟨aa,aa⟩) (fE 1 aa (bN aa aa ⟨(.sl A),A,aa,(.inl aa),ae,L,ae,(gI.cast (And.left dZ) ae)⟩)))
end Go.Ev.Rp
namespace Go.Ev.Rp
open Go Go.Ev.Pp
attribute [local irreducible] VC VO VQ VI Sound bW
theorem Yq{T:aL}(F:FT T){p:Prop}(h:p:=by repeat' (first|refine wp 6 rfl ?_|refine wp 2 rfl ?_|refine wp 1 rfl ?_|(refine PJ ?_;first|exact bN rfl rfl fin|exact sJ|exact fin)|(refine PK ?_;first|exact⟨_,rz fin ae⟩|exact fin)|refine wo 1 rfl ?_|refine wc 1 rfl ?_|refine wq 1 rfl ?_|refine mc ?_|refine qU 8 rfl rfl ?_|refine qU 3 rfl rfl ?_|refine qU 1 rfl rfl ?_|refine dq ?_|refine Ar ?_|refine qV 8 rfl rfl ?_|refine qV 3 rfl rfl ?_|refine qV 1 rfl rfl ?_|refine A2 ?_|refine rX ?_|(refine ki ?_;exact bN rfl rfl fin)|(refine ki ?_;exact sJ)|refine eA rfl (by first|with_reducible rfl|assumption) ?_|refine dn rfl (by first|with_reducible rfl|assumption) ?_|(refine ay rfl (fun h=>?_) (fun h=>?_)<;>(try(have h:(_:Bool)=_:=h;subst h)))|refine jw ?_|refine mQ ?_|refine jN ?_|refine iu ?_|refine eR ?_|refine iv rfl ?_|refine bw rfl (by first|with_reducible rfl|assumption) (iO (d:=0) rfl ?_)|refine bw (W:=[]) rfl (by first|with_reducible rfl|assumption) ?_|refine lI rfl (by first|with_reducible exact Bool.not_true.symm|with_reducible exact Bool.not_false.symm|assumption) ?_|(refine bu rfl (fun h=>?_) (fun h=>?_)<;>(try(have h:(_:Bool)=_:=h;subst h)))|refine aq (W:=[]) ?_|refine tB rfl dZ rfl ?_|refine tC rfl dZ rfl ?_|refine iO (d:=0) rfl ?_|refine bB rfl rfl ae ae ?_|refine dr rfl rfl ae ae ?_|refine aR rfl Et ?_|(refine Lk rfl rfl Et dZ rfl ae ae ?_;repeat intro _)|(refine bJ (j:=0) rfl rfl (aV rfl) ?_)|refine c7 rfl rfl rfl ae ae ?_|refine pn rfl rfl ?_|refine pn (b:=[]) rfl rfl ?_|refine kL rfl rfl ?_|refine kL (b:=[]) rfl rfl ?_|refine rY rfl rfl rfl rfl ae ae ae ao ?_|refine eO rfl ao ae ae ?_|refine Af rfl rfl ao (fun _=>?_)|refine oB rfl rfl (fun _ _=>?_)|refine mR rfl rfl (fun _ _=>?_)|refine tO rfl rfl (fun _ _=>?_)|refine qB rfl rfl ?_|refine tA rfl rfl ?_|(refine aA rfl (by apply fitsC F<;>first|assumption|exact ae|exact fin) ?_;rintro _ _⟨_,rfl,_⟩)|(refine aA rfl (by apply aeQ F<;>first|assumption|exact ae|exact fin) ?_;rintro _ _⟨_,rfl,_⟩)|(refine aA rfl (by apply aeP F<;>first|assumption|exact ae|exact fin) ?_;rintro _ _⟨_,rfl,_⟩)|(exfalso;first|omega|((try simp only[eM,gQ,gD,mE] at*);first|omega|(simp_all;done)))|exact⟨_,rz fin ae⟩|exact fin|refine aU (W:=[]) ?_|(rename (Ty.ok Ty.b _)=>z;obtain⟨_,e⟩:=Ty.eU z;subst e;clear z)|(rename (Ty.ok (Ty.i _ _ _) _)=>z;obtain⟨_,e,_,_⟩:=Ty.dV z;first|(subst e;clear z)|clear z)|(rename (Ty.ok (Ty.s _) _)=>z;obtain⟨_,e,_⟩:=Ty.bH z;first|(subst e;clear z)|clear z)|(rename (Ty.ok (Ty.l _ _) _)=>z;obtain⟨_,_,_,_⟩:=Ty.aM z;clear z))):p:=h
theorem checkC{T:aL}(F:FT T){a0 a2:DC}{bM:ah}(cJ:au bM a0)(cM:bM.length≤200)(bO:af ey bM){aN:Int}(jJ:0≤aN)(jK:aN≤(bM.length:Int) -1){bz:ah}(cr:au bz a2)(cY:bz.length≤1000000000)(bY:af bn bz){A:ah}(U:af ez A)(hma3:aN+1≤(A.length:Int)):bW T 242 [.d a0,.d (dJ aN),.d a2,.bs 1004 A.length 2] [(1004,.arr 382 16 2 A.length A)] fun r B=>∃y0 y1,r= .agg [.d y0,.d y1]∧B=[(1004,.arr 382 16 2 A.length A)]∧tJ.ok y0∧tJ.ok y1:=by
 refine gq F.q242 aa (r0 8 aa ?_);obtain⟨_,⟨G,rfl,Ma,Mb⟩,_,⟨M,rfl,Tg,Th⟩,_,⟨O,rfl,Ti,Tj⟩,_,⟨Y,rfl,hzx1_3,kzx1_3⟩,ajY,aho,O',ahp,WR,hx1_6,tt⟩:=qI aN bO;refine aq (aH aa aa cJ ae tt aa ?_);refine aP 8 aa (aA aa (M7 (aI:=G) F ae ae) ?_);rintro _ _⟨n6,rfl,Ic⟩;refine ro 2 aa (dP [10,9,8,3,2,1,0] [1004,9,8] aa aa (fun e0 b0 VE B=>ak e0 VE∧ak b0 B) ?_ ?_)
 ·exact Yq F
 rintro VE B⟨hV,hB⟩;refine aT _ _ hV hB (dP [10,9,8,3,2,1,0] [1004,9,8] aa aa (fun e0 b0 VE B=>ak e0 VE∧ak b0 B∧(((G=10∨G=11∨(3≤G∧G≤9))→0≤M∧M<aN)∧((3≤G∧G≤9)→0≤O∧O<aN)∧(G=2→0≤Y∧Y<bz.length))) ?_ ?_)
 ·exact Yq F
 rintro VE B⟨hV,hB,ahq⟩;refine aT _ _ hV hB (rc 5 aa (dP [12,10,9,8,3,2,1,0] [1004,9,8] aa aa (fun e0 b0 VE B=>∃I,ak ((11,.d (dJ I))::e0) VE∧ak b0 B∧(-9223372036854775808≤I∧I≤9223372036854775807)) ?_ ?_))
 ·refine rc 5 aa ?_;refine ay aa ?_ ?_<;>intro zy
  ·refine rc 6 aa ?_;obtain⟨Fo,B6,Z⟩:=bx (z:=M) (n:=A.length) ae ae;obtain⟨ra,oH,_,⟨zx13_1,rfl,hzx13_1,kzx13_1⟩,mA⟩:=qN Z U;refine aq (eP rfl (by rw[←B6];rfl) Z ?_);refine aP 1 aa (jM (rows:=A) aa aa (bd _) (bd _) Z mA aa ?_);refine ro 2 aa ?_;refine ay aa ?_ ?_<;>intro tg
   ·refine rc 5 aa ?_;obtain⟨Kg,BQ,yS⟩:=bx (z:=M) (n:=A.length) ae ae;obtain⟨Ik,Mc,DX,GY,B4⟩:=qN yS U;refine aq (eP rfl (by rw[←BQ];rfl) yS ?_);refine aP 1 aa (jM (rows:=A) aa aa (bd _) (bd _) yS B4 aa ?_);exact eV 4 aa (sJ)
   refine rc 5 aa ?_;obtain⟨lZ,pZ,p0⟩:=bx (z:=M) (n:=A.length) ae ae;obtain⟨_,⟨zx16_0,rfl,hzx16_0,kzx16_0⟩,yl,L5,wt⟩:=qN p0 U;refine aq (eP rfl (by rw[←pZ];rfl) p0 ?_);refine aP 1 aa (jM (rows:=A) aa aa (bd _) (bd _) p0 wt aa ?_);exact ro 2 aa (fin)
  exact W
 rintro VE B⟨I,hV,hB,fj2_0⟩;refine aT _ _ hV hB (dP [11,10,9,8,3,2,1,0] [1004,9,8] aa aa (fun e0 b0 VE B=>∃L,ak ((12,.d (dJ L))::e0) VE∧ak b0 B∧(-9223372036854775808≤L∧L≤9223372036854775807)) ?_ ?_)
 ·refine rc 5 aa ?_;refine ay aa ?_ ?_<;>intro tn
  ·refine rc 6 aa ?_;obtain⟨qz,sV,sW⟩:=bx (z:=O) (n:=A.length) ae ae;obtain⟨ahr,Tk,_,⟨zx18_1,rfl,hzx18_1,kzx18_1⟩,mC⟩:=qN sW U;refine aq (eP rfl (by rw[←sV];rfl) sW ?_);refine aP 1 aa (jM (rows:=A) aa aa (bd _) (bd _) sW mC aa ?_);refine ro 2 aa ?_;refine ay aa ?_ ?_<;>intro P8
   ·refine rc 5 aa ?_;obtain⟨Cz,wF,rF⟩:=bx (z:=O) (n:=A.length) ae ae;obtain⟨Nf,GZ,ahs,ae4,nw⟩:=qN rF U;refine aq (eP rfl (by rw[←wF];rfl) rF ?_);refine aP 1 aa (jM (rows:=A) aa aa (bd _) (bd _) rF nw aa ?_);exact eV 4 aa (sJ)
   refine rc 5 aa ?_;obtain⟨nC,qa,mz⟩:=bx (z:=O) (n:=A.length) ae ae;obtain⟨_,⟨zx21_0,rfl,hzx21_0,kzx21_0⟩,ua,AG,mB⟩:=qN mz U;refine aq (eP rfl (by rw[←qa];rfl) mz ?_);refine aP 1 aa (jM (rows:=A) aa aa (bd _) (bd _) mz mB aa ?_);exact ro 2 aa (fin)
  exact W
 rintro VE B⟨L,hV,hB,UO⟩;refine aT _ _ hV hB (rc 12 aa ?_);refine cF aa ?_ ?_<;>intro Yn
 ·exact W
 exact Yq F
theorem Dp{T:aL}(F:FT T){a0 a1 a2:DC}{Y:ah}(M:au Y a0)(cM:Y.length≤1000000000)(bO:af ey Y)(bX:tJ.ok a1){Z:ah}(cr:au Z a2)(cY:Z.length≤1000000000)(bY:af bn Z):Sound T 201 [.d a0,.d a1,.d a2] fun r=>∃y0 y1,r= .tuple [.d y0,.d y1]∧tJ.ok y0∧tJ.ok y1:=by
 refine bk F.q201 aa ?_;obtain⟨aN,rfl,eD,eo⟩:=bX;refine bV 9 aa (aR aa M ?_);refine ro 2 aa ?_;refine ay aa ?_ ?_<;>intro h1
 ·exact W
 refine rc 7 aa ?_;refine bu aa ?_ ?_<;>intro h2
 ·exact W
 refine ro 2 aa (bw aa aa (aR aa M ?_));refine ro 3 aa ?_;refine ay aa ?_ ?_<;>intro h3
 ·exact W
 refine aB 4 aa (bB aa aa ae ae ?_);obtain⟨n4,iq⟩:∃n:Nat,(aN+1)=n:=⟨((aN+1)).toNat,(AX ae).symm⟩;refine aq (FM (n:=n4) 23 rfl rfl rfl rfl rfl (by rw[←iq];rfl) (by rw[←iq];rfl) ae ae (fun w4 Yr P9=>?_));have hb4:af ez w4:=by subst Yr;exact FK (aj al (aj al bm))
 refine ro 8 aa (bh [20,12,7,6,2,1,0] [] aa aa (fun e0 b0 k VE B=>∃I L A,ak ((8,.bs 23 L 2)::(9,.d (dJ I))::e0) VE∧ak ((23,.arr 382 16 2 L A)::b0) B∧k=(((aN+1):Int) -I).toNat∧(0≤I∧(I≤(aN+1)∨I=0))∧(A.length=L)∧(L=w4.length)∧(af ez A)) ?_ fin);rintro _ VE B⟨I,L,A,hV,hB,rfl,bU,rfl,uC,G⟩;refine aT _ _ hV hB (rc 7 aa ?_);refine ay aa ?_ ?_<;>intro g5
 ·refine aB 10 aa (iP (dc:=[.d a0,.d (dJ I),.d a2,.bs 1004 (A.length) 2]) (Bi:=[(1004,.arr 382 16 2 (A.length) A)]) [(1004,23)] 2000 aa aa aa aa aa aa aa ⟨aa,aa,trivial⟩ (checkC (aN:=I) F M ae bO ae ae cr ae bY G ae) ?_);rintro _ _⟨lP,yN,rfl,rfl,t6,vK⟩;obtain⟨j7,im,fm⟩:=bx (z:=I) (n:=A.length) ae ae;obtain⟨ns,nf,n9,qW,eF⟩:=qN fm G;refine aq (eP rfl (by rw[←im];rfl) fm ?_);refine iT (rT aa aa aa aa aa aa ao ao eF (fun w8 ow ql=>?_));have td:af ez w8:=by rw[ow];exact ff G (aj t6 (aj vK bm))
  rw[←ql];exact W
 refine rc 6 aa ?_;obtain⟨j9,tf,qm⟩:=bx (z:=aN) (n:=A.length) ae ae;obtain⟨n7,kW,_,⟨MU,rfl,aek,ael⟩,fw⟩:=qN qm G;refine aq (eP rfl (by rw[←tf];rfl) qm ?_);refine aP 1 aa (jM (rows:=A) aa aa (bd _) (bd _) qm fw aa ?_);refine ro 2 aa ?_;refine ay aa ?_ ?_<;>intro uK
 ·refine rc 4 aa ?_;obtain⟨mJ,pW,O⟩:=bx (z:=aN) (n:=A.length) ae ae;obtain⟨agT,SO,MX,Az,sN⟩:=qN O G;refine aU (eP rfl (by rw[←pW];rfl) O ?_);refine rq 1 aa (aO aa (jM (rows:=A) aa aa (bd _) (bd _) O sN aa ?_));exact W
 refine rc 5 aa ?_;obtain⟨Fg,sO,U⟩:=bx (z:=aN) (n:=A.length) ae ae;obtain⟨pI,nK,t9,xO,iH⟩:=qN U G;refine aq (eP rfl (by rw[←sO];rfl) U ?_);refine aP 1 aa (jM (rows:=A) aa aa (bd _) (bd _) U iH aa ?_);exact eV 4 aa (bN aa aa fin)
end Go.Ev.Rp
