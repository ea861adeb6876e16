/- Part 17 of rules for walks through the code of a program, and of such walks; what each part proves is said by its theorems. -/
import Derived.Test.YtmpoloiempjdpaaGreatS12
import Derived.Test.YtmpoloiempjdpaaGreatS13
import Derived.Test.YtmpoloiempjdpaaGreatS14
import Derived.Test.YtmpoloiempjdpaaGreatS15
import Derived.Test.YtmpoloiempjdpaaGreatS16
set_option linter.unusedVariables false
set_option linter.unusedSimpArgs false
noncomputable section
set_option maxRecDepth 100000
set_option maxHeartbeats 4000000
namespace Go.Ev.Rp
open Go Go.Ev.Pp
attribute [local irreducible] VC VO VQ VI Sound bW
theorem len64P{T:aL}(F:FT T){aI:Int}(L:0≤aI)(M:aI≤20):Sound T 163 [.d (.i .u64 aI)] fun r=>∃I,r= .d I∧tJ.ok I:=by
 refine bk F.q163 aa (r0 10 aa ?_);refine ay aa ?_ ?_<;>intro Z
 ·exfalso;first|assumption|omega|(simp_all;done)
 refine rc 7 aa ?_;refine ay aa ?_ ?_<;>intro g2
 ·exfalso;first|assumption|omega|(simp_all;done)
 refine rc 7 aa ?_;refine ay aa ?_ ?_<;>intro g3
 ·exfalso;first|assumption|omega|(simp_all;done)
 refine aB 5 aa (eO aa ao ae ae ?_);obtain⟨j4,A,G⟩:=bx (z:=aI) (n:=256) ae ae;refine aq (vi_idxK rfl (by rw[←A];rfl) G (fun c4 O U=>?_));refine aq (eO aa ao ae ae ?_);refine aq (oB aa aa (fun z5 Y=>?_));exact eV 3 aa (bN aa aa fin)
theorem ajw{T:aL}(F:FT T){aI:Int}(I:0≤aI)(L:aI≤20):Sound T 116 [.d (.i .u64 aI)] fun r=>∃A,r= .d A∧tJ.ok A:=by
 refine bk F.q116 aa (r0 5 aa (vc_condC (aB 4 aa (aA aa (len64P (aI:=aI) F ae ae) ?_))));rintro _ _⟨G,rfl,z⟩;exact W
theorem insS{T:aL}(F:FT T){O:ah}(bO:af fg O)(cM:(O.length:Int)≤12)(Jb:1≤(O.length:Int)){bo:Int}(nz:(O.length:Int)≤bo)(mI:bo≤(O.length:Int)):bW T 154 [.ac 1001 O.length 2,.d i0,.d (dJ bo),.fn 74 []] [(1001,.acc 46 16 2 O)] fun r B=>∃wr:ah,B=[(1001,.acc 46 16 2 wr)]∧af fg wr∧wr.length=O.length:=by
 refine gq F.aji aa (bV 3 aa (bB aa aa ae ae ?_));refine ro 3 aa (bh [3,2,1] [] aa aa (fun e0 b0 k VE B=>∃L M,ak ((0,.ac 1001 M.length 2)::(8,.d (dJ L))::e0) VE∧ak ((1001,.acc 46 16 2 M)::b0) B∧k=((bo:Int) -L).toNat∧(1≤L∧(L≤bo∨L=1))∧((M.length:Int)≤12)∧(af fg M)∧(M.length=O.length)) ?_ fin);rintro _ VE B⟨L,M,hV,hB,rfl,bU,cN,U,lR⟩;refine aT _ _ hV hB (rc 7 aa ?_);refine ay aa ?_ ?_<;>intro g1
 ·refine rc 9 aa (bh [14,8,3,2,1] [] aa aa (fun e0 b0 k VE B=>∃G A,ak ((0,.ac 1001 A.length 2)::(9,.d (dJ G))::e0) VE∧ak ((1001,.acc 46 16 2 A)::b0) B∧k=(G).toNat∧(0≤G∧G≤L)∧((A.length:Int)≤12)∧(af fg A)∧(A.length=O.length)) ?_ fin);rintro _ VE B⟨G,A,hV,hB,rfl,fi,gl,I,VX⟩;refine aT _ _ hV hB (rc 7 aa ?_);refine dL aa ?_ ?_<;>intro g2
  ·refine rq 3 aa ?_;obtain⟨j3,Ke,zs⟩:=bx (z:=G) (n:=A.length) ae ae;obtain⟨_,⟨yj,rfl,GO,Dg⟩,sM,qZ,fL⟩:=qN zs I;refine cn rfl rfl (cZ rfl (by rw[←Ke];rfl) zs ?_);refine fx aa aa aa (CG (rows:=A) aa aa fL (aV aa) (aV aa) ?_);refine rq 2 aa (cn aa aa (dr aa aa ae ae ?_));obtain⟨j4,ov,lG⟩:=bx (z:=(G-1)) (n:=A.length) ae ae;obtain⟨_,⟨q7,rfl,qK,qL⟩,fr,jT,dh⟩:=qN lG I;refine cn rfl rfl (cZ rfl (by rw[←ov];rfl) lG ?_);refine fx aa aa aa (CG (rows:=A) aa aa dh (aV aa) (aV aa) ?_);refine fx aa aa aa (Rc aa aa (jy aa) (norm1 (aI:=yj) (bo:=q7) F ae ae qZ ae ae jT) ?_);rintro _ _⟨_,rfl,zy5_0,rfl,aex,aey⟩;refine rq 3 aa ?_;refine ay aa ?_ ?_<;>intro g6
   ·refine rc 8 aa (aU (dr aa aa ae ae ?_));refine db 2 aa (dr aa aa ae ae ?_);obtain⟨j7,im,fm⟩:=bx (z:=(G-1)) (n:=A.length) ae ae;obtain⟨ns,nf,n9,qW,eF⟩:=qN fm I;refine aU (cZ rfl (by rw[←im];rfl) fm ?_);refine aO aa (CG (rows:=A) aa aa eF (aV aa) (aV aa) ?_);refine rq 2 aa ?_;obtain⟨j8,Cs,te⟩:=bx (z:=G) (n:=A.length) ae ae;obtain⟨ON,agS,V4,MW,jg⟩:=qN te I;refine aU (cZ rfl (by rw[←Cs];rfl) te ?_);refine aO aa (CG (rows:=A) aa aa jg (aV aa) (aV aa) ?_);obtain⟨j9,tf,qm⟩:=bx (z:=G) (n:=A.length) ae ae;obtain⟨n7,kW,pX,sr,fw⟩:=qN qm I;refine aU (cZ rfl (by rw[←tf];rfl) qm ?_);refine gX aa (gy aa aa aa aa aa aa ao ao fw (fun zu hw10 V5=>?_));have Y:af fg zu:=by rw[hw10];exact ff I (aj nf (aj qW bm))
    rw[←V5];obtain⟨mJ,pW,Z⟩:=bx (z:=(G-1)) (n:=zu.length) ae ae;obtain⟨agT,SO,MX,Az,sN⟩:=qN Z Y;refine aU (cZ rfl (by rw[←pW];rfl) Z ?_);refine gX aa (gy aa aa aa aa aa aa ao ao sN (fun Ff hw12 V6=>?_));have OO:af fg Ff:=by rw[hw12];exact ff Y (aj agS (aj MW bm))
    rw[←V6];exact W
   exact W
  exact rq 13 aa (W)
 refine rc 1 aa ?_;exact⟨_,[(1001,.acc 46 16 2 M)],rfl,⟨rfl,trivial⟩,⟨_,rfl,U,(by first|omega|(simp only[jA];omega))⟩⟩
theorem insN{T:aL}(F:FT T):Sound T 154 [dN,.d i0,.d i0,.fn 74 []] fun r=>True:=by
 refine bk F.aji aa (bV 3 aa (bB aa aa ae ae ?_));refine ro 3 aa (bh [3,2,1,0] [] aa aa (fun e0 G k VE B=>∃z,ak ((8,.d (dJ z))::e0) VE∧ak G B∧eg k 1 z 0) ?_ fin);rintro _ VE B⟨z,I,L,rfl,A⟩;exact aT _ _ I L (W)
theorem pdqS{T:aL}(F:FT T){I:DC}{z:ah}(A:af fg z)(L:(z.length:Int)≤12)(M:1≤(z.length:Int)){bo:Int}(Y:(z.length:Int)≤bo)(Z:bo≤(z.length:Int))(G:tJ.ok I):bW T 115 [.ac 1001 z.length 2,.d i0,.d (dJ bo),.d I,.fn 74 []] [(1001,.acc 46 16 2 z)] fun r B=>∃wr:ah,B=[(1001,.acc 46 16 2 wr)]∧af fg wr∧wr.length=z.length:=by
 refine gq F.ajd aa ?_;obtain⟨aZ,rfl,O,U⟩:=G;refine r0 9 aa (bh [11,10,4,3,2,1,0] [1001] aa aa (fun e0 b0 k VE B=>ak e0 VE∧ak b0 B∧k=((0:Int)).toNat) ?_ fin);rintro _ VE B⟨hV,hB,rfl⟩;refine aT _ _ hV hB (aB 5 aa (dr aa aa ae ae ?_));refine ro 8 aa ?_;refine ay aa ?_ ?_<;>intro g1
 ·refine aB 6 aa (iP (dc:=[.ac 1001 z.length 2,.d i0,.d (dJ bo),.fn 74 []]) (Bi:=[(1001,.acc 46 16 2 z)]) [(1001,1001)] 2000 aa aa aa aa aa aa aa ⟨aa,aa,trivial⟩ (insS (bo:=bo) F A ae ae ae ae) ?_);rintro _ _⟨w2,rfl,rJ,zl⟩;exact W
 exact W
theorem pdqN{T:aL}(F:FT T){A:DC}(z:tJ.ok A):Sound T 115 [dN,.d i0,.d i0,.d A,.fn 74 []] fun r=>True:=by
 refine bk F.ajd aa ?_;obtain⟨aZ,rfl,G,I⟩:=z;refine r0 9 aa (bh [11,10,4,3,2,1,0] [] aa aa (fun e0 L k VE B=>ak e0 VE∧ak L B∧k=((0:Int)).toNat) ?_ fin);rintro _ VE B⟨M,O,rfl⟩;refine aT _ _ M O (aB 5 aa (dr aa aa ae ae ?_));refine ro 8 aa ?_;refine ay aa ?_ ?_<;>intro Y
 ·refine aB 6 aa (aA aa (insN F) (fun Z _ U=>?_));exact W
 exact W
theorem sortS{T:aL}(F:FT T){z:ah}(G:af fg z)(O:(z.length:Int)≤12)(U:1≤(z.length:Int)):bW T 73 [.ac 1001 z.length 2,.fn 74 []] [(1001,.acc 46 16 2 z)] fun r B=>∃wr:ah,B=[(1001,.acc 46 16 2 wr)]∧af fg wr∧wr.length=z.length:=by
 refine gq F.q73 aa (dq (bZ 3 aa (iu (di 3 aa (aq (eO aa ao ae ae ?_))))));refine aq (aA aa (ajw (aI:=(z.length:Int)) F ae ae) ?_);rintro _ _⟨I,rfl,A⟩;refine di 1 aa (aq (iP (dc:=[.ac 1001 z.length 2,.d i0,.d (dJ (z.length:Int)),.d I,.fn 74 []]) (Bi:=[(1001,.acc 46 16 2 z)]) [(1001,1001)] 2000 aa aa aa aa aa aa aa ⟨aa,aa,trivial⟩ (pdqS (bo:=(z.length:Int)) F G ae ae ae ae A) ?_));rintro _ _⟨Y,rfl,L,M⟩;refine mS 0 (.ac 1001 Y.length 2) rfl (fun H X β a _ h=>by rw[M];exact h) ?_;refine mc ?_;exact⟨_,[(1001,.acc 46 16 2 Y)],rfl,⟨rfl,trivial⟩,⟨_,rfl,L,(by first|omega|(simp only[jA];omega))⟩⟩
theorem sortN{T:aL}(F:FT T):Sound T 73 [dN,.fn 74 []] fun r=>True:=by
 refine bk F.q73 aa (bV 10 aa (eO aa ao ae ae ?_));refine aq (aA aa (ajw (aI:=0) F ae ae) ?_);rintro _ _⟨A,rfl,z⟩;refine aP 1 aa (aA aa (pdqN F z) (fun I _ G=>?_));exact W
end Go.Ev.Rp
namespace Go.Ev.Rp
open Go Go.Ev.Pp
attribute [local irreducible] VC VO VQ VI Sound bW
theorem DP{T:aL}(F:FT T){a0:DC}{bM:ah}(cJ:au bM a0)(cM:bM.length≤12)(bO:af fg bM):Sound T 41 [.d a0] fun r=>∃y0 bt,r= .d y0∧au bt y0∧(bt.length:Int)≤bM.length∧af fg bt:=by
 refine bk F.q41 aa (bV 13 aa (aR aa cJ ?_));refine ro 3 aa (dz 3 90 46 16 2 aa aa (bh [11,10,4,2,0] [] aa aa (fun e0 b0 k VE B=>∃I L,ak ((3,.ac 90 L.length 2)::(12,.d (dJ I))::e0) VE∧ak ((90,.acc 46 16 2 L)::b0) B∧k=((bM.length:Int) -I).toNat∧(0≤I∧(I≤(bM.length:Int)∨I=0))∧((L.length:Int)≤I)∧(af fg L)) ?_ fin));rintro _ VE B⟨I,L,hV,hB,rfl,bU,cN,Dh⟩;refine aT _ _ hV hB (rc 5 aa ?_);refine ay aa ?_ ?_<;>intro g1
 ·refine rc 5 aa ?_;obtain⟨_,⟨Y,rfl,qJ,sd⟩,_,⟨Z,rfl,tU,oG⟩,bQ⟩:=qI I bO;refine aq (aH aa aa cJ ae bQ aa ?_);refine aP 7 aa (aA aa (Dd (aI:=Y) (aN:=Z) F ae ae ae ae) ?_);rintro _ _⟨jb,rfl,nP⟩;refine ro 1 aa ?_;refine cF aa ?_ ?_<;>intro h4
  ·have k4:=nP.1 (by simpa using h4);refine aB 4 aa (aY (rows:=L) (ys:=[[(dJ Y),(dJ Z)]]) aa aa aa (.bs (rows:=[[(dJ Y),(dJ Z)]]) aa) ao ae bP bP ?_);exact W
  have k4:¬_:=fun p=>absurd (nP.2 p) (by simpa using h4)
  exact W
 refine rc 4 aa ?_;rcases NK (L=[]) with Kf|Kf
 ·subst Kf;refine mS 3 (dN) aa (fun H X β a _ h=>GL h) (mS 23 (dN) aa (fun H X β a _ h=>GL h) (Ac 90 (aq (aA aa (sortN F) (fun r6 _ hp6=>?_)))));refine ro 9 aa (dz 4 91 46 16 2 aa aa (bh [26,25,13,12,11,10,3,2,0] [] aa aa (fun e0 b0 k VE B=>∃A G,ak ((4,.ac 91 G.length 2)::(27,.d (dJ A))::e0) VE∧ak ((91,.acc 46 16 2 G)::b0) B∧k=((0:Int) -A).toNat∧(0≤A∧(A≤0∨A=0))∧((G.length:Int)≤A)∧(af fg G)) ?_ fin));rintro _ VE B⟨A,G,hV,hB,rfl,fi,gl,M⟩;refine aT _ _ hV hB (rc 5 aa ?_);refine ay aa ?_ ?_<;>intro h7
  ·exact W
  exact rc 6 aa (ct 2 91 aa aa (fun _=>⟨aa,aa⟩) (W))
 have hw1:1≤(L.length:Int):=Int.ofNat_le.2 (List.length_pos_iff.2 Kf);refine aq (iP (dc:=[.ac 1001 L.length 2,.fn 74 []]) (Bi:=[(1001,.acc 46 16 2 L)]) [(1001,90)] 2000 aa aa aa aa aa aa aa ⟨aa,aa,trivial⟩ (sortS F Dh ae ae) ?_);rintro _ _⟨w8,rfl,td,ql⟩;refine mS 3 (.ac 90 w8.length 2) rfl (fun H X β a _ h=>by rw[ql];exact h) ?_;refine ro 9 aa (dz 4 91 46 16 2 aa aa (bh [26,25,13,12,11,10,3,2,0] [90] aa aa (fun e0 b0 k VE B=>∃A G,ak ((4,.ac 91 G.length 2)::(27,.d (dJ A))::e0) VE∧ak ((91,.acc 46 16 2 G)::b0) B∧k=((w8.length:Int) -A).toNat∧(0≤A∧(A≤(w8.length:Int)∨A=0))∧((G.length:Int)≤A)∧(af fg G)) ?_ fin));rintro _ VE B⟨A,G,hV,hB,rfl,fi,gl,M⟩;refine aT _ _ hV hB (rc 5 aa ?_);refine ay aa ?_ ?_<;>intro g9
 ·refine rc 5 aa ?_;obtain⟨rN,pV,nu⟩:=bx (z:=A) (n:=w8.length) ae ae;obtain⟨_,⟨O,rfl,RJ,RL⟩,_,⟨U,rfl,hzx10_1,kzx10_1⟩,gv⟩:=qN nu td;refine aq (cZ rfl (by rw[←pV];rfl) nu ?_);refine aq (CG (rows:=w8) aa aa gv (aV aa) (aV aa) ?_);refine ro 15 aa ?_;refine dL aa ?_ ?_<;>intro lY
  ·refine rq 4 aa (cn aa aa (dr aa aa ae ae ?_));obtain⟨Fg,sO,rD⟩:=bx (z:=((G.length:Int) -1)) (n:=G.length) ae ae;obtain⟨pI,nK,_,⟨zx12_1,rfl,hzx12_1,kzx12_1⟩,iH⟩:=qN rD M;refine cn rfl rfl (cZ rfl (by rw[←sO];rfl) rD ?_);refine rq 1 aa (fx aa aa aa (fe (rows:=G) aa aa iH aa ?_));refine rq 3 aa ?_;refine ay aa ?_ ?_<;>intro ox
   ·refine rc 4 aa (aU (dr aa aa ae ae ?_));refine db 2 aa (dr aa aa ae ae ?_);obtain⟨qn,sP,pY⟩:=bx (z:=((G.length:Int) -1)) (n:=G.length) ae ae;obtain⟨MY,GQ,_,⟨AA,rfl,RQ,RR⟩,iI⟩:=qN pY M;refine aU (cZ rfl (by rw[←sP];rfl) pY ?_);refine rq 1 aa (aO aa (fe (rows:=G) aa aa iI aa ?_));refine db 2 aa (mR aa aa (fun z15 ajx=>?_));obtain⟨lZ,pZ,p0⟩:=bx (z:=((G.length:Int) -1)) (n:=G.length) ae ae;obtain⟨A9,L4,yl,L5,wt⟩:=qN p0 M;refine aU (cZ rfl (by rw[←pZ];rfl) p0 ?_);refine rq 1 aa (gX aa (gy aa aa aa aa aa aa ao ao wt (fun uJ V7 EB=>?_)));have ajy:af fg uJ:=by rw[V7];exact ff M (aj L4 (aj al bm))
    rw[←EB];exact W
   refine rc 2 aa (hY 3 aa (aY (rows:=G) (ys:=[[(dJ O),(dJ U)]]) aa aa aa (.bs (rows:=[[(dJ O),(dJ U)]]) aa) ao ae bP bP ?_));exact W
  refine rq 11 aa (dn aa aa (rc 2 aa (hY 3 aa (aY (rows:=G) (ys:=[[(dJ O),(dJ U)]]) aa aa aa (.bs (rows:=[[(dJ O),(dJ U)]]) aa) ao ae bP bP ?_))));exact W
 exact rc 6 aa (ct 2 91 aa aa (fun _=>⟨aa,aa⟩) (W))
end Go.Ev.Rp
namespace Go.Ev.Rp
open Go Go.Ev.Pp
attribute [local irreducible] VC VO VQ VI Sound bW
theorem subP{T:aL}(F:FT T){a0 a1:DC}{bM:ah}(cJ:au bM a0)(cM:bM.length≤1)(bO:af fg bM){bD:ah}(cO:au bD a1)(dm:bD.length≤10)(cl:af fg bD):Sound T 43 [.d a0,.d a1] fun r=>∃y0 bt,r= .d y0∧au bt y0∧(bt.length:Int)≤11∧af fg bt:=by
 refine bk F.q43 aa (bV 11 aa (aA aa (DP F cO ae cl) ?_));rintro _ _⟨dG,U,rfl,M,jP,fF⟩;refine aP 6 aa (aA aa (DP F cJ ae bO) ?_);rintro _ _⟨n6,Y,rfl,O,Di,tW⟩;refine aq (aR aa O ?_);refine ro 3 aa (dz 5 90 46 16 2 aa aa (bh [15,14,4,1,0] [] aa aa (fun e0 b0 k VE B=>∃z L,ak ((5,.ac 90 L.length 2)::(16,.d (dJ z))::e0) VE∧ak ((90,.acc 46 16 2 L)::b0) B∧k=((Y.length:Int) -z).toNat∧(0≤z∧(z≤(Y.length:Int)∨z=0))∧((L.length:Int)≤11*z)∧(af fg L)) ?_ fin));rintro _ VE B⟨z,L,hV,hB,rfl,bU,cN,pA⟩;refine aT _ _ hV hB (rc 5 aa ?_);refine ay aa ?_ ?_<;>intro g3
 ·refine rc 5 aa ?_;obtain⟨_,⟨q7,rfl,qK,qL⟩,_,⟨Z,rfl,hzx4_1,kzx4_1⟩,dh⟩:=qI z tW;refine aq (aH aa aa O ae dh aa ?_);refine ro 6 aa ?_;skip;refine hY 8 aa (aR aa M ?_);refine ro 3 aa (bh [23,22,17,16,15,14,7,4,1,0] [7] aa aa (fun e0 b0 k VE B=>∃G A I,ak ((5,.ac 90 I.length 2)::(8,.d (dJ G))::(24,.d (dJ A))::e0) VE∧ak ((90,.acc 46 16 2 I)::b0) B∧k=((U.length:Int) -A).toNat∧(-9223372036854775808≤G∧G≤9223372036854775807)∧(0≤A∧(A≤(U.length:Int)∨A=0))∧((I.length:Int)≤11*z+A)∧(af fg I)) ?_ fin);rintro _ VE B⟨G,A,I,hV,hB,rfl,fi,gl,OP,GR⟩;refine aT _ _ hV hB (rc 5 aa ?_);refine ay aa ?_ ?_<;>intro g5
  ·refine rc 5 aa ?_;obtain⟨_,⟨ss,rfl,Ax,Ay⟩,_,⟨agU,rfl,hzx6_1,kzx6_1⟩,eX⟩:=qI A fF;refine aq (aH aa aa M ae eX aa ?_);refine ro 7 aa (rp 5 aa ?_);refine bu aa ?_ ?_<;>intro h7
   ·exact W
   refine ro 4 aa (rp 3 aa ?_);refine ay aa ?_ ?_<;>intro h8
   ·exact W
   refine rc 9 aa ?_;refine ay aa ?_ ?_<;>intro g9
   ·refine aB 7 aa (aY (rows:=I) (ys:=[[(dJ G),(dJ ss)]]) aa aa aa (.bs (rows:=[[(dJ G),(dJ ss)]]) aa) ao ae bP bP ?_);exact W
   exact W
  refine rc 8 aa ?_;refine ay aa ?_ ?_<;>intro uK
  ·refine aB 7 aa (aY (rows:=I) (ys:=[[(dJ G),(dJ Z)]]) aa aa aa (.bs (rows:=[[(dJ G),(dJ Z)]]) aa) ao ae bP bP ?_);exact W
  exact W
 exact rc 6 aa (ct 4 90 aa aa (fun _=>⟨aa,aa⟩) (W))
theorem forgP{T:aL}(F:FT T){a0 a1 a2 a3 a4 a5:DC}(cV:(Ty.x).ok a0)(bX:(Ty.x).ok a1)(cK:(Ty.x).ok a2)(cw:tJ.ok a3){G:ah}(O:au G a4)(e9:G.length≤10)(Y:af ga G)(cq:(Ty.x).ok a5):Sound T 21 [.agg [.d a0,.d a1,.d a2,.d a3,.d a4,.d a5]] fun r=>∃y0 U,r= .d y0∧au U y0∧(U.length:Int)≤11∧af fg U:=by
 refine bk F.q21 aa ?_;obtain⟨aZ,rfl,kC,kD⟩:=cw;refine bV 14 aa (aR aa O ?_);refine ro 3 aa (dz 3 90 46 16 2 aa aa (bh [8,7,2,1,0] [1] aa aa (fun e0 b0 k VE B=>∃z A,ak ((3,.ac 90 A.length 2)::(9,.d (dJ z))::e0) VE∧ak ((90,.acc 46 16 2 A)::b0) B∧k=((G.length:Int) -z).toNat∧(0≤z∧(z≤(G.length:Int)∨z=0))∧((A.length:Int)≤z)∧(af fg A)) ?_ fin));rintro _ VE B⟨z,A,hV,hB,rfl,bU,cN,M⟩;refine aT _ _ hV hB (rc 5 aa ?_);refine ay aa ?_ ?_<;>intro g1
 ·refine rc 5 aa ?_;obtain⟨gC,jm,_,⟨I,rfl,Z,oG⟩,_,⟨L,rfl,vt,vu⟩,bQ⟩:=qI z Y;refine aq (aH aa aa O ae bQ aa ?_);refine ro 5 aa (rp 4 aa ?_);refine aq (aY (rows:=A) (ys:=[[(dJ I),(dJ L)]]) rfl rfl rfl (.bs (rows:=[[(dJ I),(dJ L)]]) rfl) ao ae (fun h=>by rw[h];rfl) (fun h=>by rw[h];rfl) ?_);exact W
 refine rc 1 aa (ct 3 90 aa aa (fun _=>⟨aa,aa⟩) (rc 7 aa ?_));have qo:af fg [[i0,(dJ aZ)]]:=(cI (aj al (aj al bm)) cj);refine eS 22 22 aa aa (fun _=>⟨aa,aa⟩) (aq (aA aa (subP F (.inl aa) ae qo (.acc _) ae M) ?_));rintro _ _⟨gk,kX,rfl,tV,sa,sb⟩;exact W
end Go.Ev.Rp
namespace Go.Ev.Rp
open Go Go.Ev.Pp
attribute [local irreducible] VC VO VQ VI Sound bW
theorem setP{T:aL}(F:FT T){a0 a1:DC}{bM:ah}(cJ:au bM a0)(cM:bM.length≤1)(bO:af fg bM){bD:ah}(cO:au bD a1)(dm:bD.length≤11)(cl:af fg bD):Sound T 20 [.d a0,.d a1] fun r=>∃y0 bt,r= .d y0∧au bt y0∧(bt.length:Int)≤12∧af fg bt:=by
 refine bk F.q20 aa (bV 7 aa (aA aa (DP F cJ ae bO) ?_));rintro _ _⟨dG,fq,rfl,gY,jP,fF⟩;refine aP 1 aa (aA aa (DP F cO ae cl) ?_);rintro _ _⟨n6,A',rfl,GS,Di,tW⟩;refine ro 9 aa (dz 5 90 46 16 2 aa aa (bh [4] [] aa aa (fun e0 b0 k VE B=>∃Z A V8 G M,ak ((0,.d Z)::(1,.d V8)::(5,.ac 90 M.length 2)::e0) VE∧ak ((90,.acc 46 16 2 M)::b0) B∧k=((A.length:Int)+G.length).toNat∧(au A Z)∧((A.length:Int)≤1)∧(af fg A)∧(au G V8)∧((G.length:Int)≤11)∧(af fg G)∧((M.length:Int)≤12-(A.length:Int) -G.length)∧(af fg M)) ?_ fin));rintro _ VE B⟨Z,A,V8,G,M,hV,hB,rfl,I,cN,O,L,wu,U,ajr,Y⟩;refine aT _ _ hV hB (aB 4 aa (aR aa I ?_));refine ro 2 aa ?_;refine bu aa ?_ ?_<;>intro g3
 ·refine ro 1 aa (bw aa aa (aR aa L ?_));refine ro 3 aa ?_;refine ay aa ?_ ?_<;>intro g4
  ·refine rc 6 aa ?_;obtain⟨_,⟨t7,rfl,xK,xL⟩,_,⟨DQ,rfl,De,Df⟩,eW⟩:=qI 0 O;refine aU (aH aa aa I ae eW aa ?_);refine cE aa aa (ia aa (aV aa) (aV aa) ?_);refine rq 1 aa ?_;obtain⟨_,⟨ss,rfl,Ax,Ay⟩,_,⟨agU,rfl,hzx6_1,kzx6_1⟩,eX⟩:=qI 0 U;refine aU (aH aa aa L ae eX aa ?_);refine cE aa aa (ia aa (aV aa) (aV aa) ?_);refine aO aa (aA aa (acg (aI:=t7) (aN:=DQ) (bo:=ss) (aZ:=agU) F ae ae ae ae ae ae ae ae) ?_);rintro _ _⟨_,_,ajz,rfl,⟨UD,rfl,aez,aeA⟩,⟨UE,rfl,aeB,aeC⟩,MZ⟩;refine rq 11 aa ?_;refine cF aa ?_ ?_<;>intro h8
   ·have k8:=MZ.1 (by simpa using h8);refine rc 1 aa (hY 3 aa (aY (rows:=M) (ys:=[[(dJ UD),(dJ UE)]]) aa aa aa (.bs (rows:=[[(dJ UD),(dJ UE)]]) aa) ao ae bP bP ?_));refine ro 5 aa (aU (aH aa aa I ae eW aa ?_));refine rq 1 aa (cE aa aa (dy aa aa ?_));refine db 1 aa (aH aa aa L ae eX aa ?_);refine rq 1 aa (cE aa aa (dy aa aa ?_));refine rq 2 aa ?_;refine ay aa ?_ ?_<;>intro g9
    ·refine rc 2 aa ?_;obtain⟨rN,pV,nu⟩:=bx (z:=1) (n:=A.length+1) ae ae;refine aq (eC (l:=rN) (h:=A.length) rfl I O rfl (oM ae) rfl ⟨_,(by rw[←pV];rfl)⟩ ae ae (fun d11 w11 hd11 hl11 hr11=>?_));exact W
    refine rc 2 aa ?_;obtain⟨Fg,sO,rD⟩:=bx (z:=1) (n:=G.length+1) ae ae;refine aq (eC (l:=Fg) (h:=G.length) rfl L U rfl (oM ae) rfl ⟨_,(by rw[←sO];rfl)⟩ ae ae (fun d13 Ct hd13 OQ OR=>?_));exact W
   have k8:¬_:=fun p=>absurd (MZ.2 p) (by simpa using h8)
   refine rc 4 aa (aU (aH aa aa I ae eW aa ?_));refine rq 1 aa (cE aa aa (dy aa aa ?_));refine db 1 aa (aH aa aa L ae eX aa ?_);refine rq 1 aa (cE aa aa (dy aa aa ?_));refine rq 2 aa ?_;refine ay aa ?_ ?_<;>intro tg
   ·refine rc 2 aa ?_;obtain⟨Kg,BQ,yS⟩:=bx (z:=1) (n:=A.length+1) ae ae;refine aq (eC (l:=Kg) (h:=A.length) rfl I O rfl (oM ae) rfl ⟨_,(by rw[←BQ];rfl)⟩ ae ae (fun d16 PQ ajA V9 ajB=>?_));exact W
   refine rc 2 aa ?_;obtain⟨th,wx,wy⟩:=bx (z:=1) (n:=G.length+1) ae ae;refine aq (eC (l:=th) (h:=G.length) rfl L U rfl (oM ae) rfl ⟨_,(by rw[←wx];rfl)⟩ ae ae (fun d18 w18 hd18 ajC hr18=>?_));exact W
  refine rc 1 aa (ct 5 90 aa aa (fun _=>⟨aa,aa⟩) (aB 3 aa (aA aa (DP F (.acc _) ae Y) ?_)));rintro _ _⟨UF,wy19_0,rfl,acp,hny19_0,hry19_0⟩;exact W
 refine ro 5 aa (dn aa aa (rc 1 aa (ct 5 90 aa aa (fun _=>⟨aa,aa⟩) (aB 3 aa (aA aa (DP F (.acc _) ae Y) ?_)))));rintro _ _⟨Ia,aeD,rfl,acq,acr,acs⟩;exact W
end Go.Ev.Rp
namespace Go.Ev.Rp
open Go Go.Ev.Pp
attribute [local irreducible] VC VO VQ VI Sound bW
theorem insHN{T:aL}(F:FT T){L:DC}{z:ah}(M:1≤z.length)(G:au z L)(O:z.length≤1)(I:af ga z):Sound T 22 [dN,.d i0,.d L] fun r=>∃U A,r= .d U∧au A U∧(A.length:Int)≤50∧af ga A∧0≤(A.length:Int)∧(A=z):=by
 refine bk F.q22 aa (bV 8 aa (eC (rows:=[]) (row:=[.x,.x,.x]) (l:=0) (h:=0) aa (.inr ⟨aa,aa⟩) cj aa (fun _=>aa) aa ⟨_,aa⟩ (bd _) (bd _) (fun d1 w1 Y Z hr1=>?_)));refine aP 4 aa (aR aa G ?_);refine ro 8 aa ?_;refine ay aa ?_ ?_<;>intro h2
 ·exact W
 refine rc 14 aa (eA aa bI (aB 4 aa (ed (ys:=z) 25 aa aa aa aa aa (.sD G (cC I aa)) ao ae ?_)));exact ro 2 aa (ct 6 25 aa aa (fun _=>⟨aa,aa⟩) (W))
theorem insHP{T:aL}(F:FT T){U:DC}{A:ah}(Y:af ga A)(Z:0≤(A.length:Int))(ajq:(A.length:Int)≤20){aN:Int}(jJ:(A.length:Int)≤aN)(jK:aN≤(A.length:Int)){G:ah}(uy:1≤G.length)(L:au G U)(cY:G.length≤1)(M:af ga G):bW T 22 [.bs 1001 A.length 3,.d (dJ aN),.d U] [(1001,.arr 51 24 3 A.length A)] fun r B=>∃y0 I,r= .d y0∧B=[]∧au I y0∧(I.length:Int)≤50∧af ga I∧0≤(I.length:Int)∧(I=A++G):=by
 refine gq F.q22 aa (r0 8 aa ?_);obtain⟨j1,O,wY⟩:=bx (z:=aN) (n:=A.length+1) ae ae;refine GJ 1001 aa (fun p1=>?_);refine aq (Rg rfl rfl (by rw[←O];rfl) ae ?_);refine tF 1001 aa (aP 4 aa (aR aa L ?_));refine ro 8 aa ?_;refine ay aa ?_ ?_<;>intro h2
 ·exact W
 refine rc 14 aa ?_;refine ay aa ?_ ?_<;>intro g3
 ·refine aB 4 aa (qC (rows:=A) (ys:=G) aa aa aa (.sD L (cC M aa)) ao ae ?_);exact ro 2 aa (kN 6 1001 aa aa (fun _=>⟨aa,aa⟩) (W))
 exact W
end Go.Ev.Rp
namespace Go.Ev.Rp
open Go Go.Ev.Pp
attribute [local irreducible] VC VO VQ VI Sound bW
theorem clIB{T:aL}(F:FT T){M:DC}{z:ah}(I:au z M)(O:z.length≤1000000000)(L:af bn z):Sound T 56 [.d M] fun r=>∃U A,r= .d U∧au A U∧(A.length:Int)≤1000000000∧af bn A:=by
 refine bk F.XS aa (r0 8 aa ?_);rcases I with G|⟨Y,G⟩
 ·subst G;refine aq (qB aa aa ?_);refine ro 1 aa (dn aa aa (aB 5 aa (qC (rows:=[]) (ys:=z) aa aa aa (.sD (.inl aa) (cC L aa)) ao ae ?_)));exact ro 2 aa (kN 2 5 aa aa (fun _=>⟨aa,aa⟩) (W))
 subst G;exact W
theorem clRows{T:aL}(F:FT T){a0:DC}{G:ah}(U:au G a0)(cM:G.length≤4096)(bO:af HY G):Sound T 32 [.d a0] fun r=>∃y0 bt,r= .d y0∧au bt y0∧(bt.length:Int)≤4096∧af HY bt:=by
 refine bk F.q32 aa (bV 12 aa (aR aa U ?_));refine ro 3 aa (dz 3 90 134 48 2 aa aa (bh [7,6,2,0] [] aa aa (fun e0 b0 k VE B=>∃z A,ak ((3,.ac 90 A.length 2)::(8,.d (dJ z))::e0) VE∧ak ((90,.acc 134 48 2 A)::b0) B∧k=((G.length:Int) -z).toNat∧(0≤z∧(z≤(G.length:Int)∨z=0))∧((A.length:Int)≤z)∧(af HY A)) ?_ fin));rintro _ VE B⟨z,A,hV,hB,rfl,bU,cN,Dh⟩;refine aT _ _ hV hB (rc 5 aa ?_);refine ay aa ?_ ?_<;>intro g1
 ·refine rc 5 aa ?_;obtain⟨gC,⟨pJ,I,vw,L⟩,fJ,⟨nh,M,mZ,O⟩,bQ⟩:=qI z bO;refine aq (aH aa aa U ae bQ aa ?_);refine ro 8 aa (aO aa (aA aa (clV F I ae L) ?_));rintro _ _⟨Y,oS,rfl,AB,Dj,vx,L6,hfy3_0⟩;refine rq 2 aa (aO aa (aA aa (clIB F M ae O) ?_));rintro _ _⟨Z,kX,rfl,tV,sa,sb⟩;refine rq 2 aa ?_;refine aO rfl (aY (rows:=A) (ys:=[[Y,Z]]) rfl rfl rfl (.bs (rows:=[[Y,Z]]) rfl) ao ae (fun h=>by rw[h];rfl) (fun h=>by rw[h];rfl) ?_);exact W
 exact rc 6 aa (ct 2 90 aa aa (fun _=>⟨aa,aa⟩) (W))
end Go.Ev.Rp
namespace Go.Ev.Rp
open Go Go.Ev.Pp
theorem clHN{T:aL}(F:FT T):Sound T 28 [dN] fun r=>r=dN:=by
 refine bk F.q28 aa (bV 8 aa (tA aa aa ?_));exact ro 1 aa (eA aa aa (fE 5 aa (bN aa aa aa)))
theorem clHB{T:aL}(F:FT T){w:ah}(A:w.length≤100000)(z:af ga w):At T 28 [.d (.sl w)] fun r B=>r= .bs 5 w.length 3∧B=[(5,.arr 51 24 3 w.length w)]:=by
 refine gq F.q28 aa (bV 8 aa (qB aa aa ?_));refine ro 1 aa (dn aa aa (aB 5 aa (qC (rows:=[]) (ys:=w) aa aa aa (.sD (.inl aa) (cC z aa)) ao ae ?_)));exact ro 3 aa (⟨[_],[(5,.arr 51 24 3 w.length w)],aa,⟨aa,trivial⟩,aa,aa⟩)
def V'(w:ah)(y:DC)(fs:da):Prop:=(w=[]∧y= .nil∧fs=[])∨∃g,y= .raw g w.length 3∧fs=[(g,.arr 51 24 3 w.length w)]
def p7(A:da)(R G:ah)(fs:da):Prop:=∃z,fs=A++z∧gg R G z
theorem p7.nil{z:da}:p7 z [] [] z:=⟨[],by simp,rfl⟩
theorem p7.len{z:da}{R A:ah}{fs:da}(h:p7 z R A fs):R.length=A.length:=by
 obtain⟨_,_,h⟩:=h;exact h.len
theorem p7.snoc{z:da}{r r':List DC}{l:da}(h:zZ r r' l){R G:ah}{fs:da}(k:p7 z R G fs):p7 z (R++[r]) (G++[r']) (fs++l):=by
 obtain⟨A,rfl,k⟩:=k;exact⟨A++l,by simp,gg.snoc h k⟩
theorem SP{T:aL}(F:FT T){nv mv:Nat}{L M Z O a4 a5:DC}{A:ah}(cr:au A Z)(cY:A.length≤16)(bY:af (d8 nv mv) A){Y:ah}(dE:au Y a4)(e9:Y.length≤50)(dk:af ga Y){e5:ah}(fU:au e5 a5)(lS:e5.length≤13)(ig:af jE e5)(jY:nv≤99)(mL:mv≤100000):
  GK T 14 [.agg [.d L,.d M,.d Z,.d O,.d a4,.d a5]] [] fun r fs=>∃y2 y4 y5 w2 mK qp nA,r= .agg [.d L,.d M,.d y2,.d O,.d y4,.d y5]∧V' Y y4 qp∧gg A w2 mK∧au nA y5∧nA.length≤13∧af jE nA∧((w2=[]∧y2= .nil∧fs=qp++mK)∨∃g,w2≠[]∧y2= .raw g w2.length 6∧fs=qp++mK++[(g,.arr 43 136 6 w2.length w2)]):=by
 refine QT F.q14 aa (gf (bZ 2 aa (mY (xz (R:=fun x VE B fs=>x= .normal∧∃y4,V' Y y4 fs∧ak [(0,.agg [.d L,.d M,.d Z,.d O,.d a4,.d a5]),(1,.vp 1 0),(2,.vp 2 0),(3,.vp 3 0)] VE∧ak [(1,.one 29 96 [.d L,.d M,.d Z,.d O,.d a4,.d a5]),(2,.one 29 96 [.d i0,.d i0,dN,.d i0,dN,dN]),(3,.one 29 96 [.d L,.d M,dN,.d O,.d y4,dN])] B) (xz (R:=fun x VE B fs=>fs=[]∧x= .normal∧ak [(0,.agg [.d L,.d M,.d Z,.d O,.d a4,.d a5]),(1,.vp 1 0),(2,.vp 2 0),(3,.vp 3 0)] VE∧((Y=[]∧ak [(1,.one 29 96 [.d L,.d M,.d Z,.d O,.d a4,.d a5]),(2,.one 29 96 [.d i0,.d i0,dN,.d i0,dN,dN]),(3,.one 29 96 [.d L,.d M,dN,.d O,dN,dN])] B)∨∃gH,ak [(3005,.bK gH (.arr 51 24 3 Y.length Y)),(1,.one 29 96 [.d L,.d M,.d Z,.d O,.d a4,.d a5]),(2,.one 29 96 [.d i0,.d i0,dN,.d i0,dN,dN]),(3,.one 29 96 [.d L,.d M,dN,.d O,.d (.raw gH Y.length 3),dN])] B)) (mg (rX ?_)) ?_) ?_))))
 ·refine kA 8 aa ?_;rcases dE with rfl|⟨XV,rfl⟩
  ·refine aO aa (zX 3000 aa aa aa aa (clHB F an dk) (fun r1 Bn1 wX=>?_));obtain⟨rfl,rfl⟩:=wX;refine nI 3005 aa (fun gH=>?_);exact vq_rawB 18 3005 aa aa (yb 3 aa (⟨aa,aa,⟨aa,aa,aa,aa,trivial⟩,.inr ⟨gH,aa,aa,aa,aa,trivial⟩⟩))
  refine aO aa (aA aa (clHN F) (fun r1 _ wX=>?_));subst wX;exact yb 3 aa (⟨aa,aa,⟨aa,aa,aa,aa,trivial⟩,.inl ⟨XV,aa,aa,aa,trivial⟩⟩)
 ·rintro x VE B fs⟨rfl,rfl,hV,⟨XV,hB⟩|⟨gH,hB⟩⟩
  ·exact iQ _ _ hV hB (gb ⟨aa,.nil,.inl ⟨XV,aa,aa⟩,⟨aa,aa,aa,aa,trivial⟩,⟨aa,aa,aa,trivial⟩⟩)
  exact iQ _ _ hV hB (tG (t:=.arr 51 24 3 Y.length Y) 3005 aa trivial trivial aa (gb ⟨aa,.raw gH Y.length 3,.inr ⟨gH,aa,aa⟩,⟨aa,aa,aa,aa,trivial⟩,⟨aa,aa,aa,trivial⟩⟩))
 rintro x VE B qp⟨rfl,y4,hH,hV,hB⟩;refine iQ _ _ hV hB (gb ?_);refine mY (gf (di 2 aa (aq (aR aa cr ?_))));refine bZ 1 aa (kp (iQ [(0,.agg [.d L,.d M,.d Z,.d O,.d a4,.d a5]),(1,.vp 1 0),(2,.vp 2 0),(3,.vp 3 0),(21,.d Z),(22,.d (dJ (A.length:Int))),(23,.d i0)] [(1,.one 29 96 [.d L,.d M,.d Z,.d O,.d a4,.d a5]),(2,.one 29 96 [.d i0,.d i0,dN,.d i0,dN,dN]),(3,.one 29 96 [.d L,.d M,dN,.d O,.d y4,dN])] ⟨aa,aa,aa,aa,aa,aa,aa,trivial⟩ ⟨aa,aa,aa,trivial⟩ (gb ?_)));have hloopI:True:=trivial;refine kp (ZD 3 2 90 43 136 6 aa aa aa (gb ?_));refine xz (R:=fun x VE B fs=>x= .normal∧∃(i:Int)(U:ah),p7 qp A U fs∧ak [(0,.agg [.d L,.d M,.d Z,.d O,.d a4,.d a5]),(1,.vp 1 0),(2,.vp 2 0),(3,.vp 3 0),(21,.d Z)] VE∧ak [(1,.one 29 96 [.d L,.d M,.d Z,.d O,.d a4,.d a5]),(2,.one 29 96 [.d i0,.d i0,dN,.d i0,dN,dN]),(3,.one 29 96 [.d L,.d M,.ac 90 U.length 6,.d O,.d y4,dN]),(90,.acc 43 136 6 U)] B) (Rh (ab8 (fun k VE B fs=>∃(G:Int)(U:ah),0≤G∧G≤(A.length:Int)∧p7 qp (A.take G.toNat) U fs∧k=((A.length:Int) -G).toNat∧ak [(0,.agg [.d L,.d M,.d Z,.d O,.d a4,.d a5]),(1,.vp 1 0),(2,.vp 2 0),(3,.vp 3 0),(21,.d Z),(22,.d (dJ (A.length:Int))),(23,.d (dJ G))] VE∧ak [(1,.one 29 96 [.d L,.d M,.d Z,.d O,.d a4,.d a5]),(2,.one 29 96 [.d i0,.d i0,dN,.d i0,dN,dN]),(3,.one 29 96 [.d L,.d M,.ac 90 U.length 6,.d O,.d y4,dN]),(90,.acc 43 136 6 U)] B) ?_ (k:=((A.length:Int) -0).toNat) ⟨0,[],ae,ae,p7.nil,aa,⟨aa,aa,aa,aa,aa,aa,aa,trivial⟩,⟨aa,aa,aa,aa,trivial⟩⟩)) ?_
 ·rintro _ VE B fs⟨G,U,f0,f1,hO,rfl,hV,hB⟩;refine xz (R:=fun x bj B' cT=>cT=fs∧((x= .exit 0∧¬G<(A.length:Int)∧ak [(0,.agg [.d L,.d M,.d Z,.d O,.d a4,.d a5]),(1,.vp 1 0),(2,.vp 2 0),(3,.vp 3 0),(21,.d Z)] bj∧ak [(1,.one 29 96 [.d L,.d M,.d Z,.d O,.d a4,.d a5]),(2,.one 29 96 [.d i0,.d i0,dN,.d i0,dN,dN]),(3,.one 29 96 [.d L,.d M,.ac 90 U.length 6,.d O,.d y4,dN]),(90,.acc 43 136 6 U)] B')∨(x= .normal∧G<(A.length:Int)∧∃r r':List DC,A[G.toNat]?=some r∧ak [(0,.agg [.d L,.d M,.d Z,.d O,.d a4,.d a5]),(1,.vp 1 0),(2,.vp 2 0),(3,.vp 3 0),(21,.d Z),(22,.d (dJ (A.length:Int))),(23,.d (dJ (G+1)))] bj∧((zZ r r' []∧ak [(1,.one 29 96 [.d L,.d M,.d Z,.d O,.d a4,.d a5]),(2,.one 29 96 [.d i0,.d i0,dN,.d i0,dN,dN]),(3,.one 29 96 [.d L,.d M,.ac 90 (U++[r']).length 6,.d O,.d y4,dN]),(90,.acc 43 136 6 (U++[r']))] B')∨∃g w,zZ r r' [(g,.arr 48 64 6 w.length w)]∧ak [(2005,.bK g (.arr 48 64 6 w.length w)),(1,.one 29 96 [.d L,.d M,.d Z,.d O,.d a4,.d a5]),(2,.one 29 96 [.d i0,.d i0,dN,.d i0,dN,dN]),(3,.one 29 96 [.d L,.d M,.ac 90 (U++[r']).length 6,.d O,.d y4,dN]),(90,.acc 43 136 6 (U++[r']))] B')))) (mg ?_) ?_
  ·have hw3l:U.length≤16:=by have:=p7.len hO;rw[iD] at this;omega
   refine aT _ _ hV hB (dq (bZ 1 aa (eR ?_)));refine cF aa ?_ ?_<;>intro h2
   ·have g2:G<(A.length:Int):=by simpa using h2
    refine jw (eR (jN (dq ?_)));obtain⟨x0,J3,x1,E0,x2,wR,x3,XW,x4,XX,x5,Cr,fL⟩:=qI G bY;refine aq (aH aa aa cr ae fL aa ?_);refine bZ 3 aa (A2 ?_);rcases Ty.aM E0,Ty.aM wR,Ty.aM XW,Ty.aM XX,Ty.aM Cr with⟨⟨wx1,Wa,hnx1,hrx1⟩,⟨wx2,Wb,hnx2,hrx2⟩,⟨wx3,Wc,hnx3,hrx3⟩,⟨wx4,Wd,hnx4,hrx4⟩,⟨I,We,hnx5,OS⟩⟩
    refine kA 2 aa (aO aa (aA aa (clSchema F J3 Wa ae hrx1 Wb ae hrx2 Wc ae hrx3 Wd ae hrx4) ?_));rintro _ _⟨y1,pf,y2,dH,y3,wy3,y5,nA,rfl,ajD,hny1,ajE,hmy1,hq1,ajF,hny2,hry2,hmy2,hq2,ajG,hny3,hry3,hmy3,hq3,ajH,hny5,ajI,hmy5,hq5⟩;subst hq2;subst hq3;refine kA 2 aa ?_;rcases We with XY|⟨ew5,XY⟩
    ·subst XY;refine aO aa (zX 2000 aa aa aa aa (clVerB F ae OS) (fun r5 Bn5 XZ=>?_));obtain⟨rfl,rfl⟩:=XZ;refine yb 3 aa (cD [23,22,21,6,3,2,1,0] [90,3,2,1,6,2005] aa aa (eR (dq (di 2 aa (aq (Gc aa ?_))))));refine bZ 1 aa (jN (CN [36,23,22,21,6,3,2,1,0] [90,3,2,1,6,2005] aa aa (fun e0 b0 k VE B=>∃zw,0≤zw∧k=((I.length:Int) -zw).toNat∧ak ((37,.d (dJ zw))::e0) VE∧ak b0 B) ?_ (k:=((I.length:Int) -0).toNat) ⟨0,ae,aa,⟨aa,aa,aa,aa,aa,aa,aa,aa,aa,aa,trivial⟩,⟨aa,aa,aa,aa,aa,aa,trivial⟩⟩));rintro _ VE B⟨zw,f37,rfl,hV,hB⟩;refine aT _ _ hV hB (dq (bZ 1 aa (eR ?_)));refine cF aa ?_ ?_<;>intro h6
     ·have g6:zw<(I.length:Int):=by simpa using h6
      refine jw (eR (jN (dq (bZ 2 aa (rX ?_)))));obtain⟨j7,im,fm⟩:=bx (z:=zw) (n:=I.length) ae ae;obtain⟨r7,eF⟩:∃r,I[j7]?=some r:=⟨_,dx fm⟩;have PR:=lJ OS eF;obtain⟨z0,X1,z1,⟨wz1,hdz1,hnz1,hrz1⟩,z2,ny,z3,Kh,z4,hz4,z5,X2,rfl⟩:=qO PR;refine kA 6 aa ?_;refine aU (eP rfl (by rw[←im];rfl) fm ?_);refine kA 1 aa (aO aa (jM aa aa (bd _) (bd _) fm eF aa ?_));refine aO aa (aA aa (clVe F hdz1 ae hrz1) (fun r8 _ Ki=>?_));subst Ki;refine aU (eP rfl (by rw[←im];rfl) fm ?_);refine kA 1 aa (gX aa (rT aa aa aa aa aa aa ao ao eF (fun w8 ow ql=>?_)));have ow:w8=I:=by
       rw[ow,putD_same (by rfl)];obtain⟨h8,e8⟩:=List.getElem?_eq_some_iff.1 eF;rw[←e8,lm140]
      subst ow;refine Ar (iu (aq (bB aa aa ae ae ?_)));refine bZ 1 aa ?_;exact⟨_,(by omega:((w8.length:Int) -(zw+1)).toNat<_),zw+1,ae,rfl,⟨rfl,rfl,rfl,rfl,rfl,rfl,rfl,rfl,rfl,rfl,trivial⟩,⟨rfl,rfl,rfl,rfl,rfl,rfl,trivial⟩⟩
     refine mQ (iu (di 3 aa (GJ 2005 aa (fun g=>?_))));refine mS 55 (.agg [.d x0,.d y1,.d y2,.d y3,.d y5,.d (.raw g I.length 6)]) aa (fun H X β a hp h=>Gg (i:=5) aa (fun _=>raw_bs (hp 2005 g (.arr 48 64 6 I.length I) aa trivial)) h) (di 1 aa ?_);refine aq (aY (rows:=U) (ys:=[[x0,y1,y2,y3,y5,.raw g I.length 6]]) rfl rfl rfl (.bs (rows:=[[x0,y1,y2,y3,y5,.raw g I.length 6]]) rfl) ao ae (fun h=>by rw[h];rfl) (fun h=>by rw[h];rfl) ?_);refine bZ 2 aa (iu (aq (bB aa aa ae ae ?_)));refine bZ 1 aa (⟨aa,.inr ⟨aa,g2,_,[x0,y1,y2,y3,y5,.raw g I.length 6],fL,⟨aa,aa,aa,aa,aa,aa,aa,trivial⟩,.inr ⟨g,I,⟨x0,x1,y1,x2,y2,x3,y3,x4,y5,_,_,aa,aa,⟨wx1,pf,Wa,ajD,hq1,ajE⟩,⟨_,Wb,ajF⟩,⟨_,Wc,ajG⟩,⟨wx4,nA,Wd,ajH,hq5,ajI⟩,.inr ⟨I,g,aa,aa,aa⟩⟩,⟨aa,aa,aa,aa,aa,trivial⟩⟩⟩⟩)
    subst XY;refine aO aa (aA aa (clVerN F) (fun r5 _ XZ=>?_));subst XZ;refine yb 3 aa (cD [23,22,21,6,3,2,1,0] [90,3,2,1,6] aa aa (eR (dq (di 2 aa (aq (Ad aa ?_))))));refine bZ 1 aa (jN (CN [37,36,23,22,21,6,3,2,1,0] [90,3,2,1,6] aa aa (fun e0 b0 k VE B=>k=0∧ak e0 VE∧ak b0 B) ?_ (k:=0) ⟨aa,⟨aa,aa,aa,aa,aa,aa,aa,aa,aa,aa,trivial⟩,⟨aa,aa,aa,aa,aa,trivial⟩⟩));rintro _ VE B⟨rfl,hV,hB⟩;refine aT _ _ hV hB (dq (bZ 1 aa (eR ?_)));refine cF aa ?_ ?_<;>intro h6
    ·exact absurd h6 ao
    refine mQ (iu (di 3 aa (di 1 aa ?_)));refine aq (aY (rows:=U) (ys:=[[x0,y1,y2,y3,y5,.nil]]) rfl rfl rfl (.bs (rows:=[[x0,y1,y2,y3,y5,.nil]]) rfl) ao ae (fun h=>by rw[h];rfl) (fun h=>by rw[h];rfl) ?_);refine bZ 2 aa (iu (aq (bB aa aa ae ae ?_)));refine bZ 1 aa (⟨aa,.inr ⟨aa,g2,_,[x0,y1,y2,y3,y5,.nil],fL,⟨aa,aa,aa,aa,aa,aa,aa,trivial⟩,.inl ⟨⟨x0,x1,y1,x2,y2,x3,y3,x4,y5,_,_,aa,aa,⟨wx1,pf,Wa,ajD,hq1,ajE⟩,⟨_,Wb,ajF⟩,⟨_,Wc,ajG⟩,⟨wx4,nA,Wd,ajH,hq5,ajI⟩,.inl ⟨aa,aa,aa⟩⟩,⟨aa,aa,aa,aa,trivial⟩⟩⟩⟩)
   have g2:¬G<(A.length:Int):=by simpa using h2
   exact mQ (⟨aa,.inl ⟨aa,g2,⟨aa,aa,aa,aa,aa,trivial⟩,⟨aa,aa,aa,aa,trivial⟩⟩⟩)
  rintro x bj B' cT⟨rfl,⟨rfl,hx,kV,kB⟩|⟨rfl,hx,r,r',hg,kV,⟨hc,kB⟩|⟨g,w,hc,kB⟩⟩⟩
  ·refine gb ⟨aa,G,U,?_,kV,kB⟩;rwa [rf an] at hO
  ·refine gb ⟨_,?_,G+1,U++[r'],an,an,?_,aa,kV,kB⟩
   ·omega
   rw[take_succ f0 hg];have:=p7.snoc hc hO;rwa [Ef] at this
  refine iQ _ _ kV kB (tG (t:=.arr 48 64 6 w.length w) 2005 aa trivial trivial aa (gb ⟨_,?_,G+1,U++[r'],an,an,?_,aa,⟨aa,aa,aa,aa,aa,aa,aa,trivial⟩,⟨aa,aa,aa,aa,trivial⟩⟩))
  ·omega
  rw[take_succ f0 hg];exact p7.snoc hc hO
 rintro x VE B fs⟨rfl,i,U,hO,hV,hB⟩;obtain⟨mK,rfl,hO⟩:=hO;refine iQ _ _ hV hB (gb ?_);refine kp (ZD 3 5 91 90 72 6 aa aa aa (gb ?_));refine mY (gf (di 2 aa (aq (aR aa fU ?_))));refine bZ 1 aa (mg (jN (CN [62,61,3,2,1,0] [90,2,1] aa aa (fun e0 b0 k VE B=>∃tm wc,(0≤tm∧(tm≤(e5.length:Int)∨tm=0))∧((wc.length:Int)≤tm)∧af jE wc∧k=((e5.length:Int) -tm).toNat∧ak ((63,.d (dJ tm))::e0) VE∧ak ((3,.one 29 96 [.d L,.d M,.ac 90 U.length 6,.d O,.d y4,.ac 91 wc.length 6])::(91,.acc 90 72 6 wc)::b0) B) ?_ (k:=((e5.length:Int) -0).toNat) ⟨0,[],⟨ae,.inr aa⟩,ae,cj,aa,⟨aa,aa,aa,aa,aa,aa,aa,trivial⟩,⟨aa,aa,aa,aa,aa,trivial⟩⟩)));rintro _ VE B⟨tm,wc,f0,f1,J9,rfl,hV,hB⟩;refine aT _ _ hV hB (dq (bZ 1 aa (eR ?_)));refine cF aa ?_ ?_<;>intro h6
 ·have g6:tm<(e5.length:Int):=by simpa using h6
  refine jw (eR (jN (dq ?_)));obtain⟨x0,J3,x1,E0,x2,wR,x3,XW,x4,XX,x5,Cr,eF⟩:=qI tm ig;obtain⟨I,We,hnx5,OS⟩:=Ty.aM Cr;refine aq (aH aa aa fU ae eF aa ?_);refine bZ 3 aa (dq (di 2 aa (aq (aA aa (clRows F We ae OS) (fun r8 _ Ki=>?_)))));obtain⟨y8,wy8,rfl,hdy8,hny8,hry8⟩:=Ki;refine bZ 2 aa (iu (di 4 aa ?_));refine aq (aY (rows:=wc) (ys:=[[x0,x1,x2,x3,x4,y8]]) rfl rfl rfl (.bs (rows:=[[x0,x1,x2,x3,x4,y8]]) rfl) ao ae (fun h=>by rw[h];rfl) (fun h=>by rw[h];rfl) ?_);refine bZ 2 aa (iu (aq (bB aa aa ae ae ?_)));refine bZ 1 aa ?_;exact⟨_,(by omega:((e5.length:Int) -(tm+1)).toNat<_),tm+1,wc++[[x0,x1,x2,x3,x4,y8]],⟨ae,.inl ae⟩,dj,eB J9 (ee (aj J3 (aj E0 (aj wR (aj XW (aj XX (aj (aM hdy8 ae hry8) bm))))))),rfl,⟨rfl,rfl,rfl,rfl,rfl,rfl,rfl,trivial⟩,⟨rfl,rfl,rfl,rfl,rfl,trivial⟩⟩
 refine mQ (gf (di 1 aa (eL 78 91 aa aa ⟨trivial,trivial,(fun e=>absurd e ao),trivial,trivial,(fun _=>⟨aa,aa⟩),trivial⟩ ?_)));have mM:au wc (.cR wc):=by
  cases wc with
  |nil=>exact .inr ⟨rfl,rfl⟩
  |cons=>exact .inl rfl
 cases U with
 |nil=>
  refine mS 78 (.agg [.d L,.d M,dN,.d O,.d y4,.d (.cR wc)]) aa (fun H X β a hp h=>Gg (i:=2) aa (fun _=>GL) h) (bZ 1 aa (mg (ki ?_)));exact⟨_,aa,jy aa,.nil,y4,.cR wc,[],mK,qp,wc,aa,hH,hO,mM,an,J9,.inl ⟨aa,aa,aa⟩⟩
 |cons q U=>
  refine GJ 90 aa (fun g=>?_);refine mS 78 (.agg [.d L,.d M,.d (.raw g (q::U).length 6),.d O,.d y4,.d (.cR wc)]) rfl (fun H X β a hp h=>Gg (i:=2) rfl (fun _=>raw_ac (hp 90 g (.acc 43 136 6 (q::U)) rfl (fun e=>by cases e)) (NL _)) h) ?_;refine bZ 1 aa ?_;refine kp (tG (t:=.arr 43 136 6 (q::U).length (q::U)) 90 rfl (fun e=>by cases e) trivial rfl (gb (mg (ki ?_))));exact⟨_,rfl,jy rfl,.raw g (q::U).length 6,y4,.cR wc,q::U,mK,qp,wc,rfl,hH,hO,mM,an,J9,.inr ⟨g,(fun e=>by cases e),rfl,rfl⟩⟩
end Go.Ev.Rp
namespace Go.Ev.Rp
open Go Go.Ev.Pp
theorem bS.ajJ{H:ax}{X:Nat→Prop}{x y:DC}(z:∀a,bA H X x a→bA H X y a):∀{row:List DC}{l:List ai}{o:Nat},row[o]?=some x→bS H X row l→bS H X (row.set o y) l
 |[],_,_,h,_=>by cases h
 |d::r,l,0,h,k=>by
  cases h
  simp only[bS,T3] at k⊢;obtain⟨a,s,rfl,A,h2⟩:=k;exact⟨a,s,aa,z a A,h2⟩
 |d::r,l,o+1,h,k=>by
  simp only[bS,T5] at k⊢;obtain⟨a,s,rfl,A,h2⟩:=k;exact⟨a,s,aa,A,bS.ajJ z h h2⟩
section
variable{VE:bb}{B:aK}
theorem Rel.frzRA{H0:Nat→Nat}{X0:Nat→Prop}{E:Env}{H:ax}{β:Nat→Nat}(Y:Rel H0 X0 VE B E H β){b c f gT elem aC es e2 G zq I j o:Nat}{w rows:ah}{row:List DC}(hb:aF B b=some (.bK f (.arr elem aC es w.length w)))(hc:aF B c=some (.bK gT (.arr e2 G zq I rows)))(Ka:b≠c)(hj:rows[j]?=some row)(ho:row[o]?=some (.raw f w.length es)):Rel H0 X0 VE ((c,.bK gT (.arr e2 G zq I (rows.set j (row.set o (.sl w)))))::cL B b) E H β:=by
 have hf:=Y.pinned hb trivial;have h:=Y.drop b;have L:∀d s,aF (cL B b) d=some s→b≠d∧aF B d=some s:=fun d s z=>by
  rw[gz] at z
  by_cases e:b=d
  ·rw[bg e] at z;cases z
  rw[aX e] at z;exact⟨e,z⟩
 have o8:aF (cL B b) c=some (.bK gT (.arr e2 G zq I rows)):=by rw[gz,aX Ka];exact hc
 have Z:=ji (s':=.bK gT (.arr e2 G zq I (rows.set j (row.set o (.sl w))))) o8 fS;generalize hX:XB X0 ((c,.bK gT (.arr e2 G zq I (rows.set j (row.set o (.sl w)))))::cL B b) β=X;have hl:eJ H (XB X0 (cL B b) β) H X:=by rw[←hX];exact⟨bd _,fun f _ hx=>⟨fun k=>hx (k.imp id fun⟨c,t,z,ho,h2⟩=>by obtain⟨u,A,M⟩:=Z c t z ho;exact⟨c,u,A,M,h2⟩),rfl⟩⟩
 have kG:eJ H (XB X0 B β) H X:=by rw[←hX];exact⟨bd _,fun f _ hx=>⟨fun k=>hx (k.imp id fun⟨c,t,z,ho,h2⟩=>by obtain⟨u,A,M⟩:=Z c t z ho;exact⟨c,u,(L c u A).2,M,h2⟩),rfl⟩⟩
 have hx:¬X (β b):=by
  rw[←hX];rintro(k|⟨d,s,z,pb,h2⟩)
  ·exact(Y.new b _ hb trivial).1 k
  obtain⟨u,A,M⟩:=Z d s z pb;exact(L d u A).1 (Y.inj d b u _ (L d u A).2 hb M trivial h2).symm
 have BF:bA H X (.sl w) (.slice f w.length 0 w.length es):=by
  simp only[bA];refine⟨f,w.length,0,es,rfl,.inr ⟨hf▸hx,hf▸(Y.new b _ hb trivial).2,0,by simp,dF.mW fun q r U=>?_⟩⟩;obtain⟨l,z,h2,h3⟩:=de.cells (Y.box b _ hb).2 (bd _) (bd _) (List.getElem?_eq_some_iff.1 U).1 U;exact⟨l,by rw[e6];exact hf▸z,h2,h3.lift kG⟩
 refine⟨h.jr,h.aS,h.x0,fun d t hc ho=>?_,fun c d t u hc lU hs ht he=>?_,fun k v hk=>?_,fun d t O=>?_⟩
 ·obtain⟨u,A,M⟩:=Z d t hc ho;exact h.new d u A M
 ·obtain⟨s1,A,M⟩:=Z c t hc hs;obtain⟨t1,k3,k4⟩:=Z d u lU ht;exact h.inj c d s1 t1 A k3 M k4 he
 ·obtain⟨a,z,h2⟩:=h.env k v hk;exact⟨a,z,hX▸h2.lift hl⟩
 rw[hX];rw[cP] at O
 by_cases k:c=d
 ·subst k;rw[bg rfl] at O
  cases O
  obtain⟨k0,qe,cs,z,h2,h3,h4⟩:=(h.box c _ o8).lift hl rfl;refine⟨k0,qe,cs,by rw[jA];exact z,h2,by rw[jA];exact h3,fun q r U=>?_⟩
  by_cases e:j=q
  ·subst e;rw[HB (List.getElem?_eq_some_iff.1 hj).1] at U
   cases U
   obtain⟨l,A,M,k3⟩:=h4 j _ hj;exact⟨l,A,M,bS.ajJ (fun a ha=>by simp only[bA] at ha;rw[ha];exact BF) ho k3⟩
  rw[MA e] at U;exact h4 q r U
 rw[aX k] at O;exact(h.box d t O).lift hl rfl
end
theorem Lo{α:Type}:∀{r l m:List (Nat×α)},ak r l→(∀k v,aF l k=some v→aF m k=some v)→ak r m
 |[],_,_,_,_=>trivial
 |(i,v)::r,_,_,h,k=>⟨k i v h.1,Lo h.2 k⟩
section
variable{VE:bb}{B0:aK}{cT:da}{R:bb→aK→da→Prop}
theorem ent_frz1{g z lo j:Nat}{w rows:ah}{row:List DC}(Y:j0 2003 VE=true)(Z:ak VE VE)(h2:fX 2002 B0=true)(L:fX 2003 B0=true)(hS:ak B0 B0)(hj:rows[j]?=some row)(ho:row[5]?=some (.raw g w.length 6))
  (h:gP VE ((2002,.bK z (.arr 43 136 6 lo (rows.set j (row.set 5 (.sl w)))))::B0) cT R):gP VE ((2002,.bK z (.arr 43 136 6 lo rows))::B0) ((g,.arr 48 64 6 w.length w)::cT) R:=
 nE 2003 Y (by simp only[fX,BS.no,L];rfl) fun H0 X0 P Hs E H β M=>by
  have hc:aF (cL ((2003,BS.bK g (.arr 48 64 6 w.length w))::(2002,.bK z (.arr 43 136 6 lo rows))::B0) 2003) 2002=some (.bK z (.arr 43 136 6 lo rows)):=by rw[gz];rfl
  have r:=Rel.frzRA (b:=2003) (c:=2002) M.rel rfl rfl ao hj ho
  have G:=M.uu (W:=fun _=>False) ⟨rfl,bd _,fun _ h=>.inl h,fun c t k1 k2=>.inl (by
   obtain⟨u,A,m2⟩:=ji (s':=.bK z (.arr 43 136 6 lo (rows.set j (row.set 5 (.sl w))))) hc fS c t k1 k2;rw[gz] at A
   by_cases e:2003=c
   ·rw[bg e] at A;cases A
   rw[aX e] at A;exact⟨u,A,m2,rfl⟩),fun _ _ _=>rfl⟩ r
  refine iQ VE ((2002,.bK z (.arr 43 136 6 lo (rows.set j (row.set 5 (.sl w)))))::B0) Z ⟨aa,Lo hS fun k v I=>?_⟩ h H0 X0 P Hs E H β G;have O:=(tN h2 I).1;have U:=(tN L I).1;rw[cP,aX (fun e=>O e.symm),gz,aX (fun e=>U e.symm),cP,aX (fun e=>U e.symm),cP,aX (fun e=>O e.symm)];exact I
theorem zZ.gx{nv mv:Nat}{r r':List DC}{l:da}(h:zZ r r' l)(z:fk (d8 nv mv) r):(l=[]∧fk (d8 nv mv) r')∨∃g w,l=[(g,.arr 48 64 6 w.length w)]∧r'[5]?=some (.raw g w.length 6)∧fk (d8 nv mv) (r'.set 5 (.sl w)):=by
 obtain⟨nm,v,v',k,k',f,f',c,c',x,x',rfl,rfl,⟨wv,wv',A,G,I,L⟩,⟨wk,M,O⟩,⟨wf,U,Y⟩,⟨wc,wc',Z,hc2,hc3,X3⟩,hx⟩:=h;obtain⟨_,_,e,k0,z⟩:=dw z
 cases e
 obtain⟨_,_,e,⟨u1,a1,b1,c1⟩,z⟩:=dw z
 cases e
 obtain⟨_,_,e,⟨u2,a2,b2,c2⟩,z⟩:=dw z
 cases e
 obtain⟨_,_,e,⟨u3,a3,b3,c3⟩,z⟩:=dw z
 cases e
 obtain⟨_,_,e,⟨u4,a4,b4,c4⟩,z⟩:=dw z
 cases e
 obtain⟨_,_,e,⟨u5,a5,b5,c5⟩,z⟩:=dw z
 cases e
 obtain rfl:=au.uniq A a1;obtain rfl:=au.uniq M a2;obtain rfl:=au.uniq U a3;obtain rfl:=au.uniq Z a4;have rest:∀y:DC,(Ty.l mv gj).ok y→fk (d8 nv mv) [nm,v',k',f',c',y]:=fun y hy=>
  aj k0 (aj (aM G (I.1▸b1) L) (aj (aM O b2 c2) (aj (aM Y b3 c3) (aj (aM hc2 (hc3.1▸b4) X3) (aj hy bm)))))
 rcases hx with⟨rfl,rfl,rfl⟩|⟨w,g,rfl,rfl,rfl⟩
 ·exact .inl ⟨aa,rest _ gK⟩
 refine .inr ⟨g,w,aa,aa,rest _ (aM (.inl aa) ?_ ?_)⟩
 ·obtain rfl:=au.uniq (.inl rfl:au w (.sl w)) a5;exact b5
 obtain rfl:=au.uniq (.inl rfl:au w (.sl w)) a5;exact c5
theorem abo{O lo nv mv:Nat}(hE:j0 2003 VE=true)(hV:ak VE VE)(h2:fX 2002 B0=true)(h3:fX 2003 B0=true)(hS:ak B0 B0):∀{M I P:ah}{A:da},gg M I A→af (d8 nv mv) M→af (d8 nv mv) P→
  (∀W,W.length=P.length+I.length→af (d8 nv mv) W→gP VE ((2002,.bK O (.arr 43 136 6 lo W))::B0) cT R)→gP VE ((2002,.bK O (.arr 43 136 6 lo (P++I)))::B0) (A++cT) R
 |[],[],P,A,z,_,U,h=>by
  simp only[gg] at z;subst z;rw[Ef];exact h P aa U
 |r::M,r'::I,P,A,z,hw,U,h=>by
  simp only[gg] at z;obtain⟨l,Y,rfl,hc,z⟩:=z;have Z:af (d8 nv mv) M:=fun q hq=>hw q (oV _ hq)
  have key:∀G:List DC,fk (d8 nv mv) G→gP VE ((2002,.bK O (.arr 43 136 6 lo (P++G::I)))::B0) (Y++cT) R:=fun G L=>by
   have:=abo (lo:=lo) hE hV h2 h3 hS (P:=P++[G]) z Z (eB U (ee L)) (fun W hl hW=>h W (by rw[hl];simp;omega) hW);rwa [MB] at this
  rcases hc.gx (hw r (jo ..)) with⟨rfl,hd⟩|⟨g,w,rfl,h5,hd⟩
  ·exact key r' hd
  refine ent_frz1 (j:=P.length) hE hV h2 h3 hS bI h5 ?_;have:=key _ hd;rwa [show(P++r'::I).set P.length (r'.set 5 (.sl w))=P++r'.set 5 (.sl w)::I by simp]
 |[],_::_,_,_,z,_,_,_=>by simp only[gg] at z
 |_::_,[],_,_,z,_,_,_=>by simp only[gg] at z
end
end Go.Ev.Rp
namespace Go.Ev.Rp
open Go Go.Ev.Pp
section
variable{T:aL}{VE:bb}{B:aK}{fs:da}
theorem xA{k:Key}{a b:IC}{t:Bool}{R:Ex→bb→aK→da→Prop}(A:aF VE k.n=some (dB t))(G:t=true→VD T a VE B fs R)(h2:t=false→VD T b VE B fs R):VD T (.cond (.t k) a b) VE B fs R:=fun H0 X0 P Hs E H β z=>
 FI (t:=t) (z.rel.bool A) (fun e=>G e H0 X0 P Hs E H β z) (fun e=>h2 e H0 X0 P Hs E H β z)
theorem vd_condTH{k:Key}{a b:IC}{t:Bool}{R:Ex→bb→aK→da→Prop}(z:aF VE k.n=some (dB t))(A:t=true)(h:VD T a VE B fs R):VD T (.cond (.t k) a b) VE B fs R:=xA z (fun _=>h) (fun e=>by rw[A] at e;cases e)
theorem Lp{R:Ex→bb→aK→da→Prop}(h:R .normal VE B fs):VD T .skip VE B fs R:=mg (jw h)
theorem tX{R:Ex→bb→aK→da→Prop}(h:R .ret VE B fs):VD T .ret VE B fs R:=mg (ki h)
theorem aas{id:Nat}{c:IC}{R:Ex→bb→aK→da→Prop}(h:VD T c VE B fs fun x=>R (Ci id x)):VD T (.block id c) VE B fs R:=Rh (by
 have:(fun x=>R (E9 id x))=fun x=>R (Ci id x):=funext fun x=>by rw[aea]
 rw[this];exact h)
theorem Rel.frzRV{H0:Nat→Nat}{X0:Nat→Prop}{E:Env}{H:ax}{β:Nat→Nat}(M:Rel H0 X0 VE B E H β){b c f elem aC es lo e U i n:Nat}{w:ah}{row:List VV}(Y:aF B b=some (.bK f (.arr elem aC es lo w)))(Z:aF B c=some (.one e U row))(Ka:b≠c)(hn:n=w.length)(hi:row[i]?=some (.d (.raw f n es))):Rel H0 X0 VE ((c,.one e U (row.set i (.d (.sl w))))::cL B b) E H β:=by
 subst hn;have hf:=M.pinned Y trivial;have h:=M.drop b;have A:∀d s,aF (cL B b) d=some s→b≠d∧aF B d=some s:=fun d s z=>by
  rw[gz] at z
  by_cases e:b=d
  ·rw[bg e] at z;cases z
  rw[aX e] at z;exact⟨e,z⟩
 have o8:aF (cL B b) c=some (.one e U row):=by rw[gz,aX Ka];exact Z
 have O:=ji (s':=.one e U (row.set i (.d (.sl w)))) o8 fS;generalize hX:XB X0 ((c,.one e U (row.set i (.d (.sl w))))::cL B b) β=X;have hl:eJ H (XB X0 (cL B b) β) H X:=by rw[←hX];exact⟨bd _,fun f _ hx=>⟨fun k=>hx (k.imp id fun⟨c,t,z,ho,h2⟩=>by obtain⟨u,I,L⟩:=O c t z ho;exact⟨c,u,I,L,h2⟩),rfl⟩⟩
 have kG:eJ H (XB X0 B β) H X:=by rw[←hX];exact⟨bd _,fun f _ hx=>⟨fun k=>hx (k.imp id fun⟨c,t,z,ho,h2⟩=>by obtain⟨u,I,L⟩:=O c t z ho;exact⟨c,u,(A c u I).2,L,h2⟩),rfl⟩⟩
 have hx:¬X (β b):=by
  rw[←hX];rintro(k|⟨d,s,z,pb,h2⟩)
  ·exact(M.new b _ Y trivial).1 k
  obtain⟨u,I,L⟩:=O d s z pb;exact(A d u I).1 (M.inj d b u _ (A d u I).2 Y L trivial h2).symm
 have BF:bA H X (.sl w) (.slice f w.length 0 w.length es):=by
  simp only[bA];refine⟨f,w.length,0,es,rfl,.inr ⟨hf▸hx,hf▸(M.new b _ Y trivial).2,0,by simp,dF.mW fun q r hq=>?_⟩⟩;have PI:=(M.box b _ Y).2;have EW:lo≤w.length:=by obtain⟨_,_,_,_,h,_⟩:=PI;exact h
  obtain⟨l,z,h2,h3⟩:=de.cells PI EW (bd _) (List.getElem?_eq_some_iff.1 hq).1 hq;exact⟨l,by rw[e6];exact hf▸z,h2,h3.lift kG⟩
 refine⟨h.jr,h.aS,h.x0,fun d t Z ho=>?_,fun c d t u Z lU hs ht he=>?_,fun k v hk=>?_,fun d t G=>?_⟩
 ·obtain⟨u,I,L⟩:=O d t Z ho;exact h.new d u I L
 ·obtain⟨s1,I,L⟩:=O c t Z hs;obtain⟨t1,k3,k4⟩:=O d u lU ht;exact h.inj c d s1 t1 I k3 L k4 he
 ·obtain⟨a,z,h2⟩:=h.env k v hk;exact⟨a,z,hX▸h2.lift hl⟩
 rw[hX];rw[cP] at G
 by_cases k:c=d
 ·subst k;rw[bg rfl] at G
  cases G
  obtain⟨l,qe,cs,z,h2,h3,h4⟩:=(h.box c _ o8).lift hl rfl;exact⟨l,qe,cs,z,h2,h3,bc.I9 (fun a ha=>by simp only[aE,bA] at ha⊢;rw[ha];exact(by simpa only[bA] using BF)) hi h4⟩
 rw[aX k] at G;exact(h.box d t G).lift hl rfl
theorem abp{R:bb→aK→da→Prop}(b c i:Nat){f elem aC es lo e G n:Nat}{w:ah}{row:List VV}(O:aF B b=some (.bK f (.arr elem aC es lo w)))(L:aF B c=some (.one e G row))(z:b≠c)(U:n=w.length)(hi:row[i]?=some (.d (.raw f n es)))
  (h:gP VE ((c,.one e G (row.set i (.d (.sl w))))::cL B b) fs R):gP VE B fs R:=fun H0 X0 P Hs E H β M=>by
 have I:aF (cL B b) c=some (.one e G row):=by rw[gz,aX z];exact L
 exact h H0 X0 P Hs E H β (M.uu (W:=fun _=>False) ⟨rfl,bd _,fun _ h=>.inl h,fun d t Y Z=>.inl (by
  obtain⟨u,A,m2⟩:=ji (s':=.one e G (row.set i (.d (.sl w)))) I fS d t Y Z;rw[gz] at A
  by_cases e:b=d
  ·rw[bg e] at A;cases A
  rw[aX e] at A;exact⟨u,A,m2,rfl⟩),fun _ _ _=>rfl⟩ (Rel.frzRV M.rel O L z U hi))
end
section
variable{VE:bb}{B1:aK}{R:bb→aK→da→Prop}
theorem ent_tabs{nv mv c e I:Nat}{L z:ah}{M:DC}{A G fs:da}{x0 x1 x3 x4 x5:VV}(Y:gg L z A)(O:af (d8 nv mv) L)(hc:(z=[]∧M= .nil∧fs=G++A)∨∃g,z≠[]∧M= .raw g z.length 6∧fs=G++A++[(g,.arr 43 136 6 z.length z)])
  (hE:j0 2002 VE=true) (hE3:j0 2003 VE=true) (hV:ak VE VE) (h2:fX 2002 ((c,.one e I [x0,x1,.d M,x3,x4,x5])::B1)=true) (h3:fX 2003 ((c,.one e I [x0,x1,.d M,x3,x4,x5])::B1)=true) (hS:ak ((c,.one e I [x0,x1,.d M,x3,x4,x5])::B1) ((c,.one e I [x0,x1,.d M,x3,x4,x5])::B1)) (hS1:ak B1 B1) (hn:fX c B1=true) (U:2002≠c)
  (h:∀y w,au w y→w.length=z.length→af (d8 nv mv) w→gP VE ((c,.one e I [x0,x1,.d y,x3,x4,x5])::B1) G R):gP VE ((c,.one e I [x0,x1,.d M,x3,x4,x5])::B1) fs R:=by
 rcases hc with⟨rfl,rfl,rfl⟩|⟨g,fB,rfl,rfl⟩
 ·have Z:=Y.len;obtain rfl:L=[]:=List.length_eq_zero_iff.1 (by rw[Z];rfl);simp only[gg] at Y;subst Y;rw[Ef];exact h .nil [] (.inr ⟨aa,aa⟩) aa cj
 have Xt:fX 2002 B1=true:=by simp only[fX,cU] at h2;exact h2.2
 refine abc (cT:=(g,.arr 43 136 6 z.length z)::(A++G)) ?_ (nE 2002 hE h2 (abo hE3 hV h2 h3 hS (P:=[]) Y O cj (fun W Z hW=>abp 2002 c 2 (n:=z.length) rfl (by rw[cP,aX U,cP,bg rfl]) U (by rw[Z];simp) rfl (iQ VE ((c,.one e I [x0,x1,.d (.sl W),x3,x4,x5])::B1) hV ⟨by rw[cP,bg rfl];rfl,Lo hS1 fun k v hk=>?_⟩ (h (.sl W) W (.inl rfl) (by rw[Z];simp) hW)))))
 ·exact(T' _ _).trans (.cons _ List.perm_append_comm)
 have n1:=(tN hn hk).1;have n2:=(tN Xt hk).1;rw[cP,aX (fun e=>n1 e.symm),gz,aX (fun e=>n2 e.symm),cP,aX (fun e=>n2 e.symm),cP,aX (fun e=>n1 e.symm)];exact hk
end
theorem HoldP{T:aL}(F:FT T){nv mv:Nat}{a1 a2 a4 a5:DC}{z0 z3:Int}{bz:ah}(cr:au bz a2)(cY:bz.length≤16)(bY:af (d8 nv mv) bz){z:ah}(G:au z a4)(e9:z.length≤10)(I:af ga z){e5:ah}(fU:au e5 a5)(lS:e5.length≤13)(ig:af jE e5)(jY:nv≤99)(mL:mv≤100000)(X1:0≤z0∧z0≤1000)(Kh:0≤z3∧z3≤z0)(Fe:cutAt z 99 (z.length:Int)){Y zt:Int}(hv:0≤Y∧Y<zt∧zt≤1099511627776):
  Sound T 9 [.agg [.d (dJ z0),.d a1,.d a2,.d (dJ z3),.d a4,.d a5],.agg [.d (dJ 99),.d (dJ Y),.d (dJ zt)]] fun r=>r= .tuple [.agg [.d i0,.d i0,dN,.d i0,dN,dN],.d (dJ 14)]∨∃y2 y4 y5 w2 L,r= .tuple [.agg [.d (dJ z0),.d a1,.d y2,.d (dJ z3),.d y4,.d y5],.d i0]∧au w2 y2∧w2.length≤16∧af (d8 nv mv) w2∧au (z++[[(dJ 99),(dJ Y),(dJ zt)]]) y4∧au L y5∧L.length≤13∧af jE L:=by
 refine bk F.q9 aa (Ri ?_);refine gf (bZ 4 aa (mY (gf (di 4 aa (bw aa aa (va aa ?_))))));refine bw aa aa (KI aa aa (aV aa) (aV aa) ?_);refine bw aa aa (aA aa (Dd (aI:=Y) (aN:=zt) F ae ae ae ae) ?_);rintro _ _⟨dG,rfl,M⟩;refine bw aa aa (SA aa ?_);refine aq (tC aa aa aa ?_);refine mc (xA aa (fun h2=>?_) (fun h2=>?_))
 ·have k2:¬_:=fun p=>absurd (M.2 p) (by simpa using h2)
  refine gf (bZ 3 aa (tX ?_));exfalso;first|omega|(simp_all;omega)
 have k2:=M.1 (by simpa using h2);refine Lp (gf (di 4 aa (aq (aA aa (aew (aN:=99) (cc:=(z.length:Int)) F G ae I ae ae ae ae Fe) ?_))));rintro _ _⟨jb,BR,rfl,⟨agQ,agR,nP⟩,O⟩;refine bZ 5 aa (mY (aas (gf (bZ 2 aa (xA aa (fun h4=>?_) (fun h4=>?_))))))
 ·have k4:=O.1 (by simpa using h4);refine gf (bZ 3 aa (tX ?_));exfalso;first|omega|(simp_all;omega)
 have k4:¬_:=fun p=>absurd (O.2 p) (by simpa using h4)
 refine gf (di 2 aa (aq (aR aa G ?_)));refine bZ 2 aa (xA aa (fun h5=>?_) (fun h5=>?_))
 ·have g5:=rG h5;refine gf (bZ 3 aa (tX ?_));exfalso;first|omega|(simp_all;omega)
 have g5:=rG h5;refine vd_sq (kA 4 aa (aO aa (aA aa (forgP F cg cg cg al G ae I cg) ?_)));rintro _ _⟨lP,q8,rfl,Z,xM,nL⟩;have Cu:af fg [[(dJ Y),(dJ zt)]]:=(cI (aj al (aj al bm)) cj);refine SB 39 39 aa aa (fun _=>⟨aa,aa⟩) (aO aa (aA aa (setP F (.inl aa) ae Cu Z ae nL) ?_));rintro _ _⟨sQ,UG,rfl,Dk,SQ,GU⟩;refine aU (aR aa Dk ?_);refine yb 2 aa (xA aa (fun h9=>?_) (fun h9=>?_))
 ·have g9:=rG h9;exact gf (bZ 3 aa (tX (bN aa aa (.inl aa))))
 have g9:=rG h9;refine Lp (mY (zQ ?_));refine DJ 1 aa (zR aa (jy aa) (SP F cr cY bY G an I fU lS ig jY mL) (fun r10 OT _ Je=>?_));obtain⟨y2,y4,y5,w2,mK,qp,L,rfl,hH,hO,mM,fo,lH,hc⟩:=Je;have hlen:=hO.len;refine DJ 2 aa (Ag ?_);obtain rfl:jb=(z.length:Int):=nP;refine kp (iQ [(3,.vp 3 0),(4,.vp 4 0),(6,.d (dJ (z.length:Int))),(8,.vp 8 0)] [(8,.one 29 96 [.d (dJ z0),.d a1,.d y2,.d (dJ z3),.d y4,.d y5]),(3,.one 51 24 [.d (dJ 99),.d (dJ Y),.d (dJ zt)]),(4,.one 29 96 [.d i0,.d i0,dN,.d i0,dN,dN])] ⟨aa,aa,aa,aa,trivial⟩ ⟨aa,aa,aa,trivial⟩ (ent_tabs hO bY hc aa aa ⟨aa,aa,aa,aa,trivial⟩ aa aa ⟨aa,aa,aa,trivial⟩ ⟨aa,aa,trivial⟩ aa ao (fun y2 w2 lU zl Fa=>gb ?_)));have OU:af ga [[(dJ 99),(dJ Y),(dJ zt)]]:=(cI (aj al (aj al (aj al bm))) cj);rcases hH with⟨rfl,rfl,rfl⟩|⟨gH,rfl,rfl⟩
 ·refine gf (di 5 aa (eS 52 52 aa aa (fun _=>⟨aa,aa⟩) (aq (aA aa (insHN F ae (.inl aa) ae OU) (fun r12 _ U=>?_)))));obtain⟨wZ,wy12,rfl,A, -, -, -,rfl⟩:=U;exact bZ 2 aa (gf (bZ 3 aa (tX (bN aa aa (.inr ⟨y2,wZ,y5,w2,L,aa,lU,an,Fa,A,mM,fo,lH⟩)))))
 refine kp (nE 2005 aa aa (gb ?_));refine gf (di 2 aa (aaj 49 2005 aa aa (tF 2005 aa (di 3 aa (eS 52 52 aa aa (fun _=>⟨aa,aa⟩) (aq (iP (dc:=[.bs 1001 z.length 3,.d (dJ (z.length:Int)),.d (.sl [[(dJ 99),(dJ Y),(dJ zt)]])]) (Bi:=[(1001,.arr 51 24 3 z.length z)]) [(1001,2005)] 3000 aa aa aa aa aa aa aa ⟨aa,aa,trivial⟩ (insHP (aN:=(z.length:Int)) F I ae ae ae ae ae (.inl aa) ae OU) (fun r12 Bn12 U=>?_))))))));obtain⟨wZ,wy12,rfl,rfl,A, -, -, -,rfl⟩:=U;exact bZ 2 aa (gf (bZ 3 aa (tX (bN aa aa (.inr ⟨y2,wZ,y5,w2,L,aa,lU,an,Fa,A,mM,fo,lH⟩)))))
end Go.Ev.Rp
namespace Go.Ev.Rp
open Go Go.Ev.Pp
theorem acu{T:aL}(F:FT T){g:Nat}{z A G I L:DC}:GK T 15 [.k (.ptr g 1 0)] [(g,.one 29 96 [.d z,.d A,dN,.d G,.d I,.d L])] fun r fs=>fs=[(g,.one 29 96 [.d z,.d A,dN,.d G,.d I,.d L])]:=by
 refine QT F.q15 aa (kp (nE 2000 aa aa (tH (k:=0) (v':=.vp 2000 0) aa (fun H X β a O h=>Dc (O 2000 g (.one 29 96 [.d z,.d A,dN,.d G,.d I,.d L]) aa trivial) h) (gb ?_))));refine xz (R:=fun x VE B fs=>fs=[]∧x= .normal∧ak [(2000,.bK g (.one 29 96 [.d z,.d A,dN,.d G,.d I,.d L]))] B) (mg ?_) ?_
 ·refine dq (bZ 1 aa (dq (di 3 aa (aq (KD aa aa aa ?_)))));refine aq (Ad aa ?_);refine bZ 1 aa (jN (CN [9,8] [2000] aa aa (fun e0 U k VE B=>k=0∧ak e0 VE∧ak U B) ?_ (k:=0) ⟨aa,⟨aa,aa,trivial⟩,⟨aa,trivial⟩⟩));rintro _ VE B⟨rfl,Y,M⟩;exact aT _ _ Y M (dq (bZ 1 aa (eR (dn aa aa (mQ (⟨aa,aa,⟨aa,trivial⟩⟩))))))
 rintro x VE B fs⟨rfl,rfl,M⟩;refine iQ [] _ trivial M (tG (t:=.one 29 96 [.d z,.d A,dN,.d G,.d I,.d L]) 2000 aa trivial (jy aa) aa (gb ?_));exact⟨[],aa,trivial,aa⟩
end Go.Ev.Rp
namespace Go.Ev.Rp
open Go Go.Ev.Pp
attribute [local irreducible] VC VO VQ VI Sound bW
theorem delH{T:aL}(F:FT T){w:ah}{m:Nat}(z:w.length=m+1)(A:m≤20)(G:af ga w):bW T 24 [.bs 1001 w.length 3,.d (dJ (m:Int)),.d (dJ ((m+1:Nat):Int))] [(1001,.arr 51 24 3 w.length w)] fun r B=>r= .d (.sl (w.take m))∧B=[]:=by
 refine gq F.q24 aa (bV 10 aa (Gc aa ?_));refine GJ 1001 aa (fun p=>?_);refine aq (vi_sl3B (i:=m) (j:=m+1) (n:=w.length) aa aa ⟨_,aa⟩ ⟨_,aa⟩ ⟨_,aa⟩ an an ?_);refine ro 8 aa ?_;refine dn rfl (by simp;omega) ?_;refine aB 4 aa (Gc aa ?_);refine ro 6 aa (aU (aba (j:=m) (n:=w.length) aa aa aa an ?_));refine db 2 aa (Rg (j:=m+1) (n:=w.length) aa aa aa an ?_);refine aO rfl (vi_appK0 (g2:=w.length) (o2:=(m+1)*3) (zq:=3) rfl (by rw[show w.length-(m+1)=0 by omega];rfl) ?_);refine rq 6 aa (aq (vi_lenK aa ?_));refine ro 1 aa ?_;refine aq (vi_slKK (i:=m) (j:=w.length) rfl ⟨_,rfl⟩ ⟨_,rfl⟩ an (by rw[upTo_gen ao an];exact bd _) F4 ?_);refine iT (abb (b:=1001) (zr:=[.i .i64 0,.i .i64 0,.i .i64 0]) (n:=w.length) (j:=m) (rows:=w) aa aa aa an aa aa ao ?_);refine ro 6 aa ?_;refine ab7 6 1001 (n:=w.length) rfl (by simp only[e7,iD,qQ];omega) rfl an ?_;refine rc 1 aa (⟨_,[],aa,trivial,?_,aa⟩);rw[agp (by rw[iD];omega),List.take_take,T6];rfl
end Go.Ev.Rp
