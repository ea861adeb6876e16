/- Part 38 of rules for walks through the code of a program, and of such walks; what each part proves is said by its theorems. -/
import Derived.Test.YtdaamclhcpjdpaaGreatDoorR21
import Derived.Test.YtdaamclhcpjdpaaGreatDoorR22
import Derived.Test.YtdaamclhcpjdpaaGreatDoorR23
import Derived.Test.YtdaamclhcpjdpaaGreatDoorR31
import Derived.Test.YtdaamclhcpjdpaaGreatDoorR37
set_option linter.unusedVariables false
set_option linter.unusedSimpArgs false
noncomputable section
set_option maxRecDepth 100000
set_option maxHeartbeats 4000000
namespace Go.Ev.Rp
open Go Go.Ev.Pp
attribute [local irreducible] VC VO VQ VI Sound cm
theorem columnsN{T:aN}(F:FT T){a0 a1 a3:DC}{bP:ak}(cr:aA bP a0)(cK:bP.length≤40)(bM:af jG bP){bL:ak}(cN:aA bL a1)(df:bL.length≤200)(cb:af ew bL){bf:Int}(nz:0≤bf)(kL:bf≤0){de:ak}(e6:aA de a3)(fI:de.length≤16)(eA:af yC de)(hn:1≤bP.length):Sound T 422 [.agg [.d a0,.d a1],.d (dJ bf),.d a3,dN] fun r=>∃y0 bu y2,r= .tuple [.d y0,.d (dJ y2)]∧aA bu y0∧(bu.length:Int)≤64∧af br bu∧((-9223372036854775808)≤y2∧y2≤9223372036854775807∧(y2=0→tf bP bf∧1≤bu.length)):=by
 refine bj F.aiE aa (r0 11 aa ?_);obtain⟨_,⟨mY,rfl,L0,L1⟩,_,⟨tB,rfl,Sp,Sq⟩,_,⟨tC,rfl,Sr,Ss⟩,Wb,Nj,_,⟨sx1_4,rfl,hsx1_4⟩,Jm,⟨vx,Hc,SH,S5⟩,V4,⟨DP,Hd,hnx1_6,S7⟩,nE⟩:=qI bf bM;refine ax (aI aa aa cr ae nE aa ?_);refine ro 7 aa (rp 4 aa ?_);refine bm aa ?_ ?_<;>intro h2
 ·exact W
 refine ro 5 aa ?_;refine au aa ?_ ?_<;>intro h3
 ·exact W
 refine rc 1 aa (dE [42,10,9,8,4,3,2,1,0] [10,4] aa aa (fun e0 b0 VE B=>an e0 VE∧an b0 B∧((mY≠1→0≤tB∧tB<bf)∧((4≤mY∧mY≤8)→0≤tC∧tC<bf))) ?_ ?_)
 ·refine rc 6 aa ?_;refine bm aa ?_ ?_<;>intro g4
  ·refine ro 4 aa ?_;refine bm aa ?_ ?_<;>intro h5
   ·exact W
   refine ro 7 aa ?_;refine bm aa ?_ ?_<;>intro h6
   ·exact W
   refine ro 2 aa (bJ aa aa (ay aa (BP (aE:=mY) F ae ae) ?_));rintro _ _⟨qS,rfl,n6⟩;refine ro 1 aa ?_;refine bm aa ?_ ?_<;>intro h8
   ·have k8:=n6.1 (by simpa using h8);exact W
   have k8:¬_:=fun p=>absurd (n6.2 p) (by simpa using h8)
   exact W
  refine ro 4 aa (iZ aa (iZ aa (iZ aa (iZ aa (ro 5 aa (bJ aa aa (ay aa (BP (aE:=mY) F ae ae) ?_)))))));rintro _ _⟨qA,rfl,rF⟩;refine ro 1 aa ?_;refine bm aa ?_ ?_<;>intro nC
  ·have XW:=rF.1 (by simpa using nC);exact W
  have XW:¬_:=fun p=>absurd (rF.2 p) (by simpa using nC)
  exact W
 rintro VE B⟨hV,hB,agu⟩;refine aU _ _ hV hB (rc 7 aa (dE [42,12,10,9,8,4,3,2,1,0] [10,4] aa aa (fun e0 b0 VE B=>∃Au z Av uP Aw uQ,an ((11,.d Au)::(13,.d Av)::(14,.d Aw)::e0) VE∧an b0 B∧(aA z Au)∧((z.length:Int)≤64)∧(af br z)∧(aA uP Av)∧((uP.length:Int)≤64)∧(af br uP)∧(aA uQ Aw)∧((uQ.length:Int)≤200)∧(af br uQ)∧(mY=1)) ?_ ?_))
 ·refine rc 6 aa ?_;refine au aa ?_ ?_<;>intro ur
  ·refine rc 6 aa (bd [75,42,14,13,12,11,10,9,8,4,3,2,1,0] [10,4] aa aa (fun e0 b0 k VE B=>∃fN,an ((15,.d (dJ fN))::e0) VE∧an b0 B∧dP k 0 fN (de.length:Int)) ?_ fin);rintro _ VE B⟨fN,hV,hB,rfl,bS⟩;refine aU _ _ hV hB (rc 5 aa (aR (aO aa e6 ?_)));refine rq 2 aa ?_;refine dw aa ?_ ?_<;>intro nB
   ·refine rq 2 aa ?_;obtain⟨_,⟨sx17_0,rfl,hsx17_0⟩,xW,GS,ji⟩:=qI fN eA;refine ca aa aa (aI aa aa e6 ae ji aa ?_);refine rq 4 aa (ca aa aa (oM aa aa ?_));exact rq 1 aa (W)
   exact rq 9 aa (W)
  exfalso;omega
 rintro VE B⟨Au,z,Av,uP,Aw,uQ,hV,hB,L,fj2_1,M,hdv13_j2,fj2_4,hrv13_j2,hdv14_j2,fj2_7,hrv14_j2,fj2_9⟩;refine aU _ _ hV hB (dE [42,14,13,11,10,9,8,4,3,2,1,0] [10,4] aa aa (fun e0 b0 VE B=>∃Ax O,an ((12,.d Ax)::e0) VE∧an b0 B∧(aA O Ax)∧((O.length:Int)≤64)∧(af br O)) ?_ ?_)
 ·refine aB 4 aa (ay aa (BP (aE:=mY) F ae ae) ?_);rintro _ _⟨M6,rfl,ae2⟩;refine ro 1 aa ?_;refine cH aa ?_ ?_<;>intro Cf
  ·have k24:=ae2.1 (by simpa using Cf);exfalso;omega
  have k24:¬_:=fun p=>absurd (ae2.2 p) (by simpa using Cf)
  exact W
 rintro VE B⟨Ax,O,hV,hB,U,agA,Y⟩;refine aU _ _ hV hB (dE [42,12,11,10,9,8,4,3,2,1,0] [10,4] aa aa (fun e0 b0 VE B=>∃Ay nJ Az uR,an ((13,.d Ay)::(14,.d Az)::e0) VE∧an b0 B∧(aA nJ Ay)∧((nJ.length:Int)≤200)∧(af br nJ)∧(aA uR Az)∧((uR.length:Int)≤200)∧(af br uR)) ?_ ?_)
 ·refine rc 6 aa ?_;refine bm aa ?_ ?_<;>intro O3
  ·refine ro 5 aa (eG aa aa (aB 3 aa (dQ (ys:=z) 125 aa aa aa aa aa (.sD L (cO M aa)) ao ae ?_)));refine ro 1 aa ?_;refine ax (aX (rows:=z) (ys:=O) rfl rfl rfl (.sD U (cO Y rfl)) ao ae (fun h=>by rw[h];rfl) (fun h=>by rw[h];rfl) ?_);exact ro 2 aa (cf 13 125 aa aa (fun _=>⟨aa,aa⟩) (W))
  refine ro 5 aa ?_;refine au aa ?_ ?_<;>intro g26
  ·refine aB 3 aa (dQ (ys:=z) 125 aa aa aa aa aa (.sD L (cO M aa)) ao ae ?_);refine ro 1 aa ?_;refine ax (aX (rows:=z) (ys:=O) rfl rfl rfl (.sD U (cO Y rfl)) ao ae (fun h=>by rw[h];rfl) (fun h=>by rw[h];rfl) ?_);exact ro 2 aa (cf 13 125 aa aa (fun _=>⟨aa,aa⟩) (W))
  exact W
 rintro VE B⟨Ay,nJ,Az,uR,hV,hB,rm,ahf,s0,hdv14_j7,fj7_4,hrv14_j7⟩;refine aU _ _ hV hB (rc 4 aa (dE [42,14,13,12,11,10,9,8,4,3,2,1,0] [10,4] aa aa (fun e0 b0 VE B=>∃Dg,an ((16,dB Dg)::e0) VE∧an b0 B) ?_ ?_))
 ·refine aB 4 aa (ay aa (hpC F ai) ?_);rintro _ _⟨_,rfl,by27_0,rfl⟩;refine ro 1 aa ?_;refine cH aa ?_ ?_<;>intro h28
  ·refine aB 7 aa (ay aa (Ap F cN ae cb Nj rm ae s0) ?_);rintro _ _⟨y29_0,y29_1,rfl,hy29_0,hy29_1⟩;exact W
  exact W
 rintro VE B⟨Dg,hV,hB⟩;refine aU _ _ hV hB (rc 4 aa (dh 19 90 3 8 1 aa aa (dE [42,16,14,13,12,11,10,9,8,4,3,2,1,0] [10,4] aa aa (fun e0 b0 VE B=>∃Z,an ((19,.ac 90 Z.length 1)::e0) VE∧an ((90,.acc 3 8 1 Z)::b0) B∧((Z.length:Int)≤64)∧(af br Z)) ?_ ?_)))
 ·refine aB 4 aa (ay aa (Pn F ai) ?_);rintro _ _⟨_,rfl,by32_0,rfl⟩;refine ro 1 aa ?_;refine cH aa ?_ ?_<;>intro h33
  ·refine rc 2 aa (gz 2 aa (aO aa Hc ?_));refine ro 3 aa (bd [155,154,152,42,16,14,13,12,11,10,9,8,4,3,2,1,0] [10,4] aa aa (fun e0 b0 k VE B=>∃A o6,an ((19,.ac 90 o6.length 1)::(156,.d (dJ A))::e0) VE∧an ((90,.acc 3 8 1 o6)::b0) B∧k=((vx.length:Int) -A).toNat∧(0≤A∧(A≤(vx.length:Int)∨A=0))∧((o6.length:Int)≤A)∧(af br o6)) ?_ fin);rintro _ VE B⟨A,o6,hV,hB,rfl,eU,fO,acC⟩;refine aU _ _ hV hB (rc 5 aa ?_);refine au aa ?_ ?_<;>intro Kb
   ·refine rc 5 aa ?_;obtain⟨x35_0,hx35_0,EA⟩:=qI A S5;refine ax (aI aa aa Hc ae EA aa ?_);refine aK 9 aa (ay aa (Ap F cN ae cb hx35_0 rm ae s0) ?_);rintro _ _⟨_,_,rfl,⟨ae3,rfl,hzy36_0,kzy36_0⟩,zy36_1,rfl,hzy36_1,kzy36_1⟩;refine ro 9 aa (rp 3 aa ?_);refine au aa ?_ ?_<;>intro Xy
    ·exact W
    refine rc 2 aa (rp 3 aa ?_);refine ax (aX (rows:=o6) (ys:=[[(dJ ae3)]]) rfl rfl rfl (.bs (rows:=[[(dJ ae3)]]) rfl) ao ae (fun h=>by rw[h];rfl) (fun h=>by rw[h];rfl) ?_);exact W
   exact W
  exact W
 rintro VE B⟨Z,hV,hB,fj10_0,ZG⟩;refine aU _ _ hV hB (dE [42,14,13,12,11,10,9,8,4,3,2,1,0] [10,4] aa aa (fun e0 b0 VE B=>∃Gm rz,an ((16,dB Gm)::(19,.ac 90 rz.length 1)::e0) VE∧an ((90,.acc 3 8 1 rz)::b0) B∧((rz.length:Int)≤128)∧(af br rz)) ?_ ?_)
 ·refine rc 6 aa ?_;refine au aa ?_ ?_<;>intro g38
  ·refine rc 2 aa (gz 2 aa (aO aa Hd ?_));refine ro 3 aa (bd [181,180,178,42,14,13,12,11,10,9,8,4,3,2,1,0] [10,4] aa aa (fun e0 b0 k VE B=>∃Iw G I,an ((16,dB Iw)::(19,.ac 90 I.length 1)::(182,.d (dJ G))::e0) VE∧an ((90,.acc 3 8 1 I)::b0) B∧k=((DP.length:Int) -G).toNat∧(0≤G∧(G≤(DP.length:Int)∨G=0))∧((I.length:Int)≤64+G)∧(af br I)) ?_ (k:=((DP.length:Int) -0).toNat) ⟨Dg,0,Z,⟨aa,aa,aa,aa,aa,aa,aa,aa,aa,aa,aa,aa,aa,aa,aa,aa,aa,aa,aa,trivial⟩,⟨aa,aa,aa,trivial⟩,aa,ae,ae,ZG⟩);rintro _ VE B⟨Iw,G,I,hV,hB,rfl,ox,yN,hrw19_2⟩;refine aU _ _ hV hB (rc 5 aa ?_);refine au aa ?_ ?_<;>intro O6
   ·refine rc 5 aa ?_;obtain⟨_,⟨zx40_0,rfl,hzx40_0,kzx40_0⟩,x40_1,hx40_1,hg40⟩:=qI G S7;refine ax (aI aa aa Hd ae hg40 aa ?_);refine ro 7 aa (rp 4 aa ?_);refine bm aa ?_ ?_<;>intro h41
    ·exact W
    refine ro 5 aa ?_;refine au aa ?_ ?_<;>intro h42
    ·exact W
    refine rc 8 aa ?_;refine au aa ?_ ?_<;>intro g43
    ·refine rc 4 aa ?_;refine ax (aX (rows:=I) (ys:=[[(dJ 1)]]) rfl rfl rfl (.bs (rows:=[[(dJ 1)]]) rfl) ao ae (fun h=>by rw[h];rfl) (fun h=>by rw[h];rfl) ?_);exact W
    refine aB 8 aa (ay aa (Ap F cN ae cb hx40_1 rm ae s0) ?_);rintro _ _⟨_,_,rfl,⟨ae4,rfl,hzy44_0,kzy44_0⟩,zy44_1,rfl,hzy44_1,kzy44_1⟩;refine ro 9 aa (rp 3 aa ?_);refine au aa ?_ ?_<;>intro h45
    ·exact W
    refine rc 8 aa ?_;refine au aa ?_ ?_<;>intro g46
    ·refine rc 4 aa ?_;refine bm aa ?_ ?_<;>intro O'
     ·refine ro 3 aa (iZ aa (iZ aa (ro 11 aa ?_)));refine ax (aX (rows:=I) (ys:=[[(dJ 1)]]) rfl rfl rfl (.bs (rows:=[[(dJ 1)]]) rfl) ao ae (fun h=>by rw[h];rfl) (fun h=>by rw[h];rfl) ?_);exact W
     refine ro 1 aa (rp 2 aa ?_);refine bm aa ?_ ?_<;>intro g48
     ·refine ro 13 aa ?_;refine ax (aX (rows:=I) (ys:=[[(dJ 1)]]) rfl rfl rfl (.bs (rows:=[[(dJ 1)]]) rfl) ao ae (fun h=>by rw[h];rfl) (fun h=>by rw[h];rfl) ?_);exact W
     refine ro 13 aa ?_;refine ax (aX (rows:=I) (ys:=[[(dJ 1)]]) rfl rfl rfl (.bs (rows:=[[(dJ 1)]]) rfl) ao ae (fun h=>by rw[h];rfl) (fun h=>by rw[h];rfl) ?_);exact W
    refine rc 2 aa (rp 3 aa ?_);refine ax (aX (rows:=I) (ys:=[[(dJ ae4)]]) rfl rfl rfl (.bs (rows:=[[(dJ ae4)]]) rfl) ao ae (fun h=>by rw[h];rfl) (fun h=>by rw[h];rfl) ?_);exact W
   exact W
  exact W
 rintro VE B⟨Gm,rz,hV,hB,fj14_0,hrw19_j14⟩;refine aU _ _ hV hB (dE [42,16,13,12,11,10,9,8,4,3,2,1,0] [10,4] aa aa (fun e0 b0 VE B=>∃zW uL,an ((14,.d zW)::e0) VE∧an b0 B∧(aA uL zW)∧((uL.length:Int)≤200)∧(af br uL)) ?_ ?_)
 ·refine aB 4 aa (ay aa (Pn F ai) ?_);rintro _ _⟨_,rfl,by49_0,rfl⟩;refine ro 1 aa ?_;refine cH aa ?_ ?_<;>intro h50
  ·exact cf 19 90 aa aa (fun _=>⟨aa,aa⟩) (W)
  exact W
 rintro VE B⟨zW,uL,hV,hB,hdv14_j21,fj21_1,hrv14_j21⟩;refine aU _ _ hV hB (dE [42,13,12,11,10,9,8,4,3,2,1,0] [10,4] aa aa (fun e0 b0 VE B=>∃uT rn Gn,an ((14,.d uT)::(16,dB Gn)::e0) VE∧an b0 B∧(aA rn uT)∧((rn.length:Int)≤200)∧(af br rn)) ?_ ?_)
 ·refine rc 6 aa ?_;refine bm aa ?_ ?_<;>intro g51
  ·refine ro 10 aa (eG aa aa (aB 4 aa (ay aa (CI F L ae M U ae Y) ?_)));rintro _ _⟨y52_0,wy52_0,y52_2,rfl,hdy52_0,hny52_0,hry52_0,hy52_2⟩;exact W
  refine ro 5 aa ?_;refine bm aa ?_ ?_<;>intro XG
  ·refine ro 5 aa (eG aa aa (aB 4 aa (ay aa (CI F L ae M U ae Y) ?_)));rintro _ _⟨y54_0,wy54_0,y54_2,rfl,hdy54_0,hny54_0,hry54_0,hy54_2⟩;exact W
  refine ro 5 aa ?_;refine au aa ?_ ?_<;>intro g55
  ·refine aB 4 aa (ay aa (CI F L ae M U ae Y) ?_);rintro _ _⟨agz,wy56_0,y56_2,rfl,hdy56_0,hny56_0,hry56_0,hy56_2⟩;exact W
  exact W
 rintro VE B⟨uT,rn,Gn,hV,hB,zB,fj22_1,P1⟩;refine aU _ _ hV hB (rc 5 aa ?_);refine cH aa ?_ ?_<;>intro h57
 ·exact W
 refine aB 5 aa (aO aa zB ?_);refine ro 2 aa ?_;refine bm aa ?_ ?_<;>intro h58
 ·exact W
 refine ro 1 aa (bJ aa aa (aO aa zB ?_));refine ro 3 aa ?_;refine au aa ?_ ?_<;>intro h59
 ·exact W
 refine dO 8 aa ?_;exact bI rfl rfl ⟨uT,rn,0,rfl,zB,ae,P1,⟨ae,ae,(by first|(intro hb;exfalso;omega)|(intro hb;exact⟨tf.mk (by assumption) (by assumption),ae⟩))⟩⟩
theorem columnsC{T:aN}(F:FT T){a0 a1 a3:DC}{bP:ak}(cr:aA bP a0)(cK:bP.length≤40)(bM:af jG bP){bL:ak}(cN:aA bL a1)(df:bL.length≤200)(cb:af ew bL){bf:Int}(nz:0≤bf)(kL:bf≤(bP.length:Int) -1){de:ak}(e6:aA de a3)(fI:de.length≤16)(eA:af yC de){eu:ak}(dg:af TO eu)(EG:bf≤(eu.length:Int)):cm T 422 [.agg [.d a0,.d a1],.d (dJ bf),.d a3,.bs 1005 eu.length 1] [(1005,.arr 51 24 1 eu.length eu)] fun r B=>∃y0 bu y2,r= .tuple [.d y0,.d (dJ y2)]∧B=[(1005,.arr 51 24 1 eu.length eu)]∧aA bu y0∧(bu.length:Int)≤64∧af br bu∧((-9223372036854775808)≤y2∧y2≤9223372036854775807∧(y2=0→tf bP bf∧1≤bu.length)):=by
 refine kM F.aiE aa (r0 11 aa ?_);obtain⟨_,⟨mY,rfl,L0,L1⟩,_,⟨tB,rfl,Sp,Sq⟩,_,⟨tC,rfl,Sr,Ss⟩,Wb,Nj,_,⟨sx1_4,rfl,hsx1_4⟩,Jm,⟨vx,Hc,SH,S5⟩,V4,⟨DP,Hd,hnx1_6,S7⟩,nE⟩:=qI bf bM;refine ax (aI aa aa cr ae nE aa ?_);refine ro 7 aa (rp 4 aa ?_);refine bm aa ?_ ?_<;>intro h2
 ·exact W
 refine ro 5 aa ?_;refine au aa ?_ ?_<;>intro h3
 ·exact W
 refine rc 1 aa (dE [42,10,9,8,4,3,2,1,0] [1005,10,4] aa aa (fun e0 b0 VE B=>an e0 VE∧an b0 B∧((mY≠1→0≤tB∧tB<bf)∧((4≤mY∧mY≤8)→0≤tC∧tC<bf))) ?_ ?_)
 ·refine rc 6 aa ?_;refine bm aa ?_ ?_<;>intro g4
  ·refine ro 4 aa ?_;refine bm aa ?_ ?_<;>intro h5
   ·exact W
   refine ro 7 aa ?_;refine bm aa ?_ ?_<;>intro h6
   ·exact W
   refine ro 2 aa (bJ aa aa (ay aa (BP (aE:=mY) F ae ae) ?_));rintro _ _⟨qS,rfl,n6⟩;refine ro 1 aa ?_;refine bm aa ?_ ?_<;>intro h8
   ·have k8:=n6.1 (by simpa using h8);exact W
   have k8:¬_:=fun p=>absurd (n6.2 p) (by simpa using h8)
   exact W
  refine ro 4 aa (iZ aa (iZ aa (iZ aa (iZ aa (ro 5 aa (bJ aa aa (ay aa (BP (aE:=mY) F ae ae) ?_)))))));rintro _ _⟨qA,rfl,rF⟩;refine ro 1 aa ?_;refine bm aa ?_ ?_<;>intro nC
  ·have XW:=rF.1 (by simpa using nC);exact W
  have XW:¬_:=fun p=>absurd (rF.2 p) (by simpa using nC)
  exact W
 rintro VE B⟨hV,hB,agu⟩;refine aU _ _ hV hB (rc 7 aa (dE [42,12,10,9,8,4,3,2,1,0] [1005,10,4] aa aa (fun e0 b0 VE B=>∃Au A Av uP Aw uQ,an ((11,.d Au)::(13,.d Av)::(14,.d Aw)::e0) VE∧an b0 B∧(aA A Au)∧((A.length:Int)≤64)∧(af br A)∧(aA uP Av)∧((uP.length:Int)≤64)∧(af br uP)∧(aA uQ Aw)∧((uQ.length:Int)≤200)∧(af br uQ)) ?_ ?_))
 ·refine rc 6 aa ?_;refine au aa ?_ ?_<;>intro ur
  ·refine rc 6 aa (bd [75,42,14,13,12,11,10,9,8,4,3,2,1,0] [1005,10,4] aa aa (fun e0 b0 k VE B=>∃fN,an ((15,.d (dJ fN))::e0) VE∧an b0 B∧dP k 0 fN (de.length:Int)) ?_ fin);rintro _ VE B⟨fN,hV,hB,rfl,bS⟩;refine aU _ _ hV hB (rc 5 aa (aR (aO aa e6 ?_)));refine rq 2 aa ?_;refine dw aa ?_ ?_<;>intro nB
   ·refine rq 2 aa ?_;obtain⟨_,⟨sx17_0,rfl,hsx17_0⟩,xW,GS,ji⟩:=qI fN eA;refine ca aa aa (aI aa aa e6 ae ji aa ?_);refine rq 4 aa (ca aa aa (oM aa aa ?_));exact rq 1 aa (W)
   exact rq 9 aa (W)
  refine rc 5 aa ?_;obtain⟨j23,Jx,v9⟩:=bz (z:=tB) (n:=eu.length) ae ae;obtain⟨ag3,⟨wx23_0,hdx23_0,hnx23_0,hrx23_0⟩,vT⟩:=qN v9 dg;refine ax (fi rfl (by rw[←Jx];rfl) v9 ?_);refine ax (jy (rows:=eu) aa aa (bq _) (bq _) v9 vT aa ?_);exact ro 8 aa (fin)
 rintro VE B⟨Au,A,Av,uP,Aw,uQ,hV,hB,M,fj2_1,O,hdv13_j2,fj2_4,hrv13_j2,hdv14_j2,fj2_7,hrv14_j2⟩;refine aU _ _ hV hB (dE [42,14,13,11,10,9,8,4,3,2,1,0] [1005,10,4] aa aa (fun e0 b0 VE B=>∃Ax U,an ((12,.d Ax)::e0) VE∧an b0 B∧(aA U Ax)∧((U.length:Int)≤64)∧(af br U)) ?_ ?_)
 ·refine aB 4 aa (ay aa (BP (aE:=mY) F ae ae) ?_);rintro _ _⟨Iq,rfl,SX⟩;refine ro 1 aa ?_;refine cH aa ?_ ?_<;>intro Xx
  ·have k25:=SX.1 (by simpa using Xx);refine rc 4 aa ?_;obtain⟨zp,BM,yL⟩:=bz (z:=tC) (n:=eu.length) ae ae;obtain⟨x26_0,⟨wx26_0,hdx26_0,hnx26_0,hrx26_0⟩,yO⟩:=qN yL dg;refine ax (fi rfl (by rw[←BM];rfl) yL ?_);refine ax (jy (rows:=eu) aa aa (bq _) (bq _) yL yO aa ?_);exact ro 2 aa (fin)
  have k25:¬_:=fun p=>absurd (SX.2 p) (by simpa using Xx)
  exact W
 rintro VE B⟨Ax,U,hV,hB,Y,agA,Z⟩;refine aU _ _ hV hB (dE [42,12,11,10,9,8,4,3,2,1,0] [1005,10,4] aa aa (fun e0 b0 VE B=>∃Ay nJ Az uR,an ((13,.d Ay)::(14,.d Az)::e0) VE∧an b0 B∧(aA nJ Ay)∧((nJ.length:Int)≤200)∧(af br nJ)∧(aA uR Az)∧((uR.length:Int)≤200)∧(af br uR)) ?_ ?_)
 ·refine rc 6 aa ?_;refine bm aa ?_ ?_<;>intro g27
  ·refine ro 5 aa (eG aa aa (aB 3 aa (dQ (ys:=A) 125 aa aa aa aa aa (.sD M (cO O aa)) ao ae ?_)));refine ro 1 aa ?_;refine ax (aX (rows:=A) (ys:=U) rfl rfl rfl (.sD Y (cO Z rfl)) ao ae (fun h=>by rw[h];rfl) (fun h=>by rw[h];rfl) ?_);exact ro 2 aa (cf 13 125 aa aa (fun _=>⟨aa,aa⟩) (W))
  refine ro 5 aa ?_;refine au aa ?_ ?_<;>intro Ph
  ·refine aB 3 aa (dQ (ys:=A) 125 aa aa aa aa aa (.sD M (cO O aa)) ao ae ?_);refine ro 1 aa ?_;refine ax (aX (rows:=A) (ys:=U) rfl rfl rfl (.sD Y (cO Z rfl)) ao ae (fun h=>by rw[h];rfl) (fun h=>by rw[h];rfl) ?_);exact ro 2 aa (cf 13 125 aa aa (fun _=>⟨aa,aa⟩) (W))
  exact W
 rintro VE B⟨Ay,nJ,Az,uR,hV,hB,rm,ahf,s0,hdv14_j7,fj7_4,hrv14_j7⟩;refine aU _ _ hV hB (rc 4 aa (dE [42,14,13,12,11,10,9,8,4,3,2,1,0] [1005,10,4] aa aa (fun e0 b0 VE B=>∃Dg,an ((16,dB Dg)::e0) VE∧an b0 B) ?_ ?_))
 ·refine aB 4 aa (ay aa (hpC F ai) ?_);rintro _ _⟨_,rfl,by29_0,rfl⟩;refine ro 1 aa ?_;refine cH aa ?_ ?_<;>intro h30
  ·refine aB 7 aa (ay aa (Ap F cN ae cb Nj rm ae s0) ?_);rintro _ _⟨TW,y31_1,rfl,hy31_0,hy31_1⟩;exact W
  exact W
 rintro VE B⟨Dg,hV,hB⟩;refine aU _ _ hV hB (rc 4 aa (dh 19 90 3 8 1 aa aa (dE [42,16,14,13,12,11,10,9,8,4,3,2,1,0] [1005,10,4] aa aa (fun e0 b0 VE B=>∃Gp,an ((19,.ac 90 Gp.length 1)::e0) VE∧an ((90,.acc 3 8 1 Gp)::b0) B∧((Gp.length:Int)≤64)∧(af br Gp)) ?_ ?_)))
 ·refine aB 4 aa (ay aa (Pn F ai) ?_);rintro _ _⟨_,rfl,by34_0,rfl⟩;refine ro 1 aa ?_;refine cH aa ?_ ?_<;>intro h35
  ·refine rc 2 aa (gz 2 aa (aO aa Hc ?_));refine ro 3 aa (bd [155,154,152,42,16,14,13,12,11,10,9,8,4,3,2,1,0] [1005,10,4] aa aa (fun e0 b0 k VE B=>∃G o6,an ((19,.ac 90 o6.length 1)::(156,.d (dJ G))::e0) VE∧an ((90,.acc 3 8 1 o6)::b0) B∧k=((vx.length:Int) -G).toNat∧(0≤G∧(G≤(vx.length:Int)∨G=0))∧((o6.length:Int)≤G)∧(af br o6)) ?_ fin);rintro _ VE B⟨G,o6,hV,hB,rfl,eU,fO,acC⟩;refine aU _ _ hV hB (rc 5 aa ?_);refine au aa ?_ ?_<;>intro g36
   ·refine rc 5 aa ?_;obtain⟨x37_0,hx37_0,Ww⟩:=qI G S5;refine ax (aI aa aa Hc ae Ww aa ?_);refine aK 9 aa (ay aa (Ap F cN ae cb hx37_0 rm ae s0) ?_);rintro _ _⟨_,_,rfl,⟨ae5,rfl,hzy38_0,kzy38_0⟩,zy38_1,rfl,hzy38_1,kzy38_1⟩;refine ro 9 aa (rp 3 aa ?_);refine au aa ?_ ?_<;>intro h39
    ·exact W
    refine rc 2 aa (rp 3 aa ?_);refine ax (aX (rows:=o6) (ys:=[[(dJ ae5)]]) rfl rfl rfl (.bs (rows:=[[(dJ ae5)]]) rfl) ao ae (fun h=>by rw[h];rfl) (fun h=>by rw[h];rfl) ?_);exact W
   exact W
  exact W
 rintro VE B⟨Gp,hV,hB,fj10_0,ZG⟩;refine aU _ _ hV hB (dE [42,14,13,12,11,10,9,8,4,3,2,1,0] [1005,10,4] aa aa (fun e0 b0 VE B=>∃Gm rz,an ((16,dB Gm)::(19,.ac 90 rz.length 1)::e0) VE∧an ((90,.acc 3 8 1 rz)::b0) B∧((rz.length:Int)≤128)∧(af br rz)) ?_ ?_)
 ·refine rc 6 aa ?_;refine au aa ?_ ?_<;>intro Xz
  ·refine rc 2 aa (gz 2 aa (aO aa Hd ?_));refine ro 3 aa (bd [181,180,178,42,14,13,12,11,10,9,8,4,3,2,1,0] [1005,10,4] aa aa (fun e0 b0 k VE B=>∃Iw I L,an ((16,dB Iw)::(19,.ac 90 L.length 1)::(182,.d (dJ I))::e0) VE∧an ((90,.acc 3 8 1 L)::b0) B∧k=((DP.length:Int) -I).toNat∧(0≤I∧(I≤(DP.length:Int)∨I=0))∧((L.length:Int)≤64+I)∧(af br L)) ?_ fin);rintro _ VE B⟨Iw,I,L,hV,hB,rfl,ox,yN,hrw19_2⟩;refine aU _ _ hV hB (rc 5 aa ?_);refine au aa ?_ ?_<;>intro XJ
   ·refine rc 5 aa ?_;obtain⟨_,⟨Dh,rfl,acD,acE⟩,x42_1,hx42_1,JF⟩:=qI I S7;refine ax (aI aa aa Hd ae JF aa ?_);refine ro 7 aa (rp 4 aa ?_);refine bm aa ?_ ?_<;>intro h43
    ·exact W
    refine ro 5 aa ?_;refine au aa ?_ ?_<;>intro h44
    ·exact W
    refine rc 8 aa ?_;refine au aa ?_ ?_<;>intro Xj
    ·refine rc 4 aa ?_;refine ax (aX (rows:=L) (ys:=[[(dJ 1)]]) rfl rfl rfl (.bs (rows:=[[(dJ 1)]]) rfl) ao ae (fun h=>by rw[h];rfl) (fun h=>by rw[h];rfl) ?_);exact W
    refine aB 8 aa (ay aa (Ap F cN ae cb hx42_1 rm ae s0) ?_);rintro _ _⟨_,_,rfl,⟨ae6,rfl,hzy46_0,kzy46_0⟩,zy46_1,rfl,hzy46_1,kzy46_1⟩;refine ro 9 aa (rp 3 aa ?_);refine au aa ?_ ?_<;>intro O'
    ·exact W
    refine rc 8 aa ?_;refine au aa ?_ ?_<;>intro g48
    ·refine rc 4 aa ?_;refine bm aa ?_ ?_<;>intro h49
     ·refine ro 3 aa (iZ aa (iZ aa (ro 11 aa ?_)));refine ax (aX (rows:=L) (ys:=[[(dJ 1)]]) rfl rfl rfl (.bs (rows:=[[(dJ 1)]]) rfl) ao ae (fun h=>by rw[h];rfl) (fun h=>by rw[h];rfl) ?_);exact W
     refine ro 1 aa (rp 2 aa ?_);refine bm aa ?_ ?_<;>intro Xk
     ·refine ro 13 aa ?_;refine ax (aX (rows:=L) (ys:=[[(dJ 1)]]) rfl rfl rfl (.bs (rows:=[[(dJ 1)]]) rfl) ao ae (fun h=>by rw[h];rfl) (fun h=>by rw[h];rfl) ?_);exact W
     refine ro 13 aa ?_;refine ax (aX (rows:=L) (ys:=[[(dJ 1)]]) rfl rfl rfl (.bs (rows:=[[(dJ 1)]]) rfl) ao ae (fun h=>by rw[h];rfl) (fun h=>by rw[h];rfl) ?_);exact W
    refine rc 2 aa (rp 3 aa ?_);refine ax (aX (rows:=L) (ys:=[[(dJ ae6)]]) rfl rfl rfl (.bs (rows:=[[(dJ ae6)]]) rfl) ao ae (fun h=>by rw[h];rfl) (fun h=>by rw[h];rfl) ?_);exact W
   exact W
  exact W
 rintro VE B⟨Gm,rz,hV,hB,fj14_0,hrw19_j14⟩;refine aU _ _ hV hB (dE [42,16,13,12,11,10,9,8,4,3,2,1,0] [1005,10,4] aa aa (fun e0 b0 VE B=>∃zW uL,an ((14,.d zW)::e0) VE∧an b0 B∧(aA uL zW)∧((uL.length:Int)≤200)∧(af br uL)) ?_ ?_)
 ·refine aB 4 aa (ay aa (Pn F ai) ?_);rintro _ _⟨_,rfl,by51_0,rfl⟩;refine ro 1 aa ?_;refine cH aa ?_ ?_<;>intro h52
  ·exact cf 19 90 aa aa (fun _=>⟨aa,aa⟩) (W)
  exact W
 rintro VE B⟨zW,uL,hV,hB,hdv14_j21,fj21_1,hrv14_j21⟩;refine aU _ _ hV hB (dE [42,13,12,11,10,9,8,4,3,2,1,0] [1005,10,4] aa aa (fun e0 b0 VE B=>∃uT rn Gn,an ((14,.d uT)::(16,dB Gn)::e0) VE∧an b0 B∧(aA rn uT)∧((rn.length:Int)≤200)∧(af br rn)) ?_ ?_)
 ·refine rc 6 aa ?_;refine bm aa ?_ ?_<;>intro XG
  ·refine ro 10 aa (eG aa aa (aB 4 aa (ay aa (CI F M ae O Y ae Z) ?_)));rintro _ _⟨y54_0,wy54_0,y54_2,rfl,hdy54_0,hny54_0,hry54_0,hy54_2⟩;exact W
  refine ro 5 aa ?_;refine bm aa ?_ ?_<;>intro g55
  ·refine ro 5 aa (eG aa aa (aB 4 aa (ay aa (CI F M ae O Y ae Z) ?_)));rintro _ _⟨agz,wy56_0,y56_2,rfl,hdy56_0,hny56_0,hry56_0,hy56_2⟩;exact W
  refine ro 5 aa ?_;refine au aa ?_ ?_<;>intro g57
  ·refine aB 4 aa (ay aa (CI F M ae O Y ae Z) ?_);rintro _ _⟨y58_0,wy58_0,y58_2,rfl,hdy58_0,hny58_0,hry58_0,hy58_2⟩;exact W
  exact W
 rintro VE B⟨uT,rn,Gn,hV,hB,zB,fj22_1,P1⟩;refine aU _ _ hV hB (rc 5 aa ?_);refine cH aa ?_ ?_<;>intro h59
 ·exact W
 refine aB 5 aa (aO aa zB ?_);refine ro 2 aa ?_;refine bm aa ?_ ?_<;>intro h60
 ·exact W
 refine ro 1 aa (bJ aa aa (aO aa zB ?_));refine ro 3 aa ?_;refine au aa ?_ ?_<;>intro h61
 ·exact W
 refine rc 8 aa ?_;exact⟨_,[(1005,.arr 51 24 1 eu.length eu)],rfl,⟨rfl,trivial⟩,⟨uT,rn,0,rfl,rfl,zB,ae,P1,⟨ae,ae,(by first|(intro hb;exfalso;omega)|(intro hb;exact⟨tf.mk (by assumption) (by assumption),ae⟩))⟩⟩⟩
end Go.Ev.Rp
namespace Go.Ev.Rp
open Go Go.Ev.Pp
attribute [local irreducible] VC VO VQ VI Sound cm
theorem aav{T:aN}(F:FT T){a0 a1 a2:DC}{G:ak}(L:aA G a0)(cK:G.length≤1000)(bM:af jG G){bL:ak}(M:aA bL a1)(df:bL.length≤1000)(cb:af ew bL){bt:ak}(cF:aA bt a2)(dc:bt.length≤16)(bV:af yC bt):Sound T 323 [.agg [.d a0,.d a1],.d a2] fun r=>∃y0 Z y2,r= .tuple [.d y0,.d (dJ y2)]∧aA Z y0∧(Z.length:Int)≤40∧af TO Z∧((-9223372036854775808)≤y2∧y2≤9223372036854775807∧(y2=0→1≤G.length∧G.length≤40∧(Z.length:Int)=G.length∧l4 G G.length)):=by
 refine bj F.q323 aa (bY 11 aa (aO aa L ?_));refine ro 2 aa ?_;refine bm aa ?_ ?_<;>intro h1
 ·exact W
 refine ro 2 aa (bJ aa aa (aO aa L ?_));refine ro 3 aa ?_;refine bm aa ?_ ?_<;>intro h2
 ·exact W
 refine ro 2 aa (bJ aa aa (aO aa M ?_));refine ro 3 aa ?_;refine au aa ?_ ?_<;>intro h3
 ·exact W
 refine rc 11 aa (dh 6 90 51 24 1 aa aa (bd [25,5,4,2,1,0] [2] aa aa (fun e0 b0 k VE B=>∃A z,an ((6,.ac 90 z.length 1)::(7,.d (dJ A))::e0) VE∧an ((90,.acc 51 24 1 z)::b0) B∧k=((G.length:Int) -A).toNat∧(0≤A∧(A≤(G.length:Int)∨A=0))∧((z.length:Int)≤A)∧(af TO z)∧((z.length:Int)=A)∧(l4 G A)) ?_ fin));rintro _ VE B⟨A,z,hV,hB,rfl,bS,cM,I,js,qM⟩;refine aU _ _ hV hB (aB 6 aa (aO aa L ?_));refine ro 2 aa ?_;refine au aa ?_ ?_<;>intro g4
 ·refine rc 9 aa ?_;rcases NA (z=[]) with O|O
  ·have Fc:z.length=0:=by rw[O];rfl
   refine zQ 37 (dN) rfl (fun H X β a _ h=>LO (by rw[Fc] at h;exact h)) ?_;refine ax (ay aa (columnsN (bf:=A) F L ae bM M ae cb ae ae cF ae bV ae) ?_);rintro _ _⟨U,nZ,qP,rfl,oW,xm,ma,ly6_2,uy6_2,DJ⟩;refine ro 1 aa ?_;skip;refine rp 11 aa ?_;refine au aa ?_ ?_<;>intro h7
   ·exact W
   refine aB 5 aa (aX (rows:=z) (ys:=[[U]]) aa aa aa (.bs (rows:=[[U]]) aa) ao ae bN bN ?_);refine aK 4 aa (bC aa aa ae ae ?_);refine cW 2 aa ?_;exact⟨((G.length:Int) -((A+1))).toNat,ae,(A+1),(z++[[U]]),⟨rfl,rfl,rfl,rfl,rfl,rfl,rfl,rfl,trivial⟩,⟨rfl,rfl,trivial⟩,rfl,ae,cJ,(dC I (dr (aj (aM oW ae ma) bg))),(by first|rfl|(simp only[fA,gr,jF];omega)),(by first|exact YU|exact l4.succ (by assumption) (Hx ((by assumption:_=(0:Int)→tf _ _∧_) ah)))⟩
  have Fc:0<z.length:=List.length_pos_iff.2 O;refine zQ 37 (.bs 90 z.length 1) aa (fun H X β a _ h=>ac_bs Fc h) (vo_accArr 90 aa O (ax (mM (dj:=[.agg [.d a0,.d a1],.d (dJ A),.d a2,.bs 1005 (z.length) 1]) (Bi:=[(1005,.arr 51 24 1 (z.length) z)]) [(1005,90)] 2000 aa aa aa aa aa aa aa ⟨aa,aa,trivial⟩ (columnsC (bf:=A) F L ae bM M ae cb ae ae cF ae bV I ae) ?_)));rintro _ _⟨Y,wy8_0,ajE,rfl,rfl,aey,hny8_0,aez,ly8_2,uy8_2,hy8_2⟩;refine ro 1 aa (Zz 90 aa O (ro 11 aa ?_));refine au aa ?_ ?_<;>intro h9
  ·exact W
  refine aB 5 aa (aX (rows:=z) (ys:=[[Y]]) aa aa aa (.bs (rows:=[[Y]]) aa) ao ae bN bN ?_);refine aK 4 aa (bC aa aa ae ae ?_);refine cW 2 aa ?_;exact⟨((G.length:Int) -((A+1))).toNat,ae,(A+1),(z++[[Y]]),⟨rfl,rfl,rfl,rfl,rfl,rfl,rfl,rfl,trivial⟩,⟨rfl,rfl,trivial⟩,rfl,ae,cJ,(dC I (dr (aj (aM aey ae aez) bg))),(by first|rfl|(simp only[fA,gr,jF];omega)),(by first|exact YU|exact l4.succ (by assumption) (Hx ((by assumption:_=(0:Int)→tf _ _∧_) ah)))⟩
 refine rc 7 aa (cf 4 90 aa aa (fun _=>⟨aa,aa⟩) (dO 1 aa ?_));exact bI rfl rfl ⟨(.cE z),z,0,rfl,(.acc _),ae,I,⟨ae,ae,(by first|(intro hb;exfalso;omega)|(intro hb;exact⟨ae,ae,ae,l4.all (by assumption) ae⟩))⟩⟩
theorem CheckQ{T:aN}(F:FT T){a0 a1 a2:DC}{A:ak}(O:aA A a0)(cK:A.length≤1000)(U:af jG A){G:ak}(Y:aA G a1)(df:G.length≤1000)(Z:af ew G){I:ak}(cF:aA I a2)(dc:I.length≤16)(bV:af yC I):Sound T 322 [.agg [.d a0,.d a1],.d a2] fun r=>∃y0 L y2,r= .tuple [.d y0,.d y2]∧aA L y0∧(L.length:Int)≤64∧af br L∧tJ.ok y2:=by
 refine bj F.q322 aa (bY 10 aa (ay aa (aav F O ae U Y ae Z cF ae bV) ?_));rintro _ _⟨ez,fg,v3,rfl,z,jE,fy,ly1_2,uy1_2,M⟩;refine ro 12 aa ?_;refine au aa ?_ ?_<;>intro h2
 ·exact W
 refine aB 5 aa (aO aa z ?_);refine ax (dq aa aa ae ae ?_);have kf:=M ae;exact W
end Go.Ev.Rp
