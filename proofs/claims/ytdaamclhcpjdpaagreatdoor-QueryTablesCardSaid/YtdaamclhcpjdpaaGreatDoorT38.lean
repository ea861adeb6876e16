/- Part 38 of walks through the code of a program. -/
import Derived.Test.YtdaamclhcpjdpaaGreatDoorT37
set_option linter.unusedVariables false
set_option linter.unusedSimpArgs false
noncomputable section
set_option maxRecDepth 100000
set_option maxHeartbeats 4000000
namespace Go.Ev.Rp
open Go Go.Ev.Pp
attribute [local irreducible] VC VO VQ VI Sound cF
theorem columnsN{T:aO}(F:FT T){a0 a1 a3:DC}{bV:aj}(cg:ao bV a0)(cI:bV.length≤40)(bJ:af jR bV){bN:aj}(cW:ao bN a1)(dg:bN.length≤200)(cq:af eB bN){bA:Int}(pF:0≤bA)(nw:bA≤0){da:aj}(ez:ao da a3)(fe:da.length≤16)(dQ:af ph da)(hn:1≤bV.length):Sound T 422 [.agg [.d a0,.d a1],.d (dJ bA),.d a3,dN] fun r=>∃y0 br y2,r= .tuple [.d y0,.d (dJ y2)]∧ao br y0∧(br.length:Int)≤64∧af bc br∧((-9223372036854775808)≤y2∧y2≤9223372036854775807∧(y2=0→sV bV bA∧1≤br.length)):=by
 refine bg F.aiY aa (r0 11 aa ?_);obtain⟨_,⟨mZ,rfl,Mm,Mn⟩,_,⟨ts,rfl,SR,SS⟩,_,⟨tt,rfl,SU,SV⟩,WJ,Nr,_,⟨sx1_4,rfl,hsx1_4⟩,Jp,⟨vG,Hl,Tc,Tz⟩,WA,⟨Ei,Hp,hnx1_6,TA⟩,nC⟩:=qI bA bJ;refine aw (aF aa aa cg ae nC aa ?_);refine ro 7 aa (rp 4 aa ?_);refine bk aa ?_ ?_<;>intro h2
 ·exact W
 refine ro 5 aa ?_;refine ax aa ?_ ?_<;>intro h3
 ·exact W
 refine rc 1 aa (dE [42,10,9,8,4,3,2,1,0] [10,4] aa aa (fun e0 b0 VE B=>an e0 VE∧an b0 B∧((mZ≠1→0≤ts∧ts<bA)∧((4≤mZ∧mZ≤8)→0≤tt∧tt<bA))) ?_ ?_)
 ·refine rc 6 aa ?_;refine bk aa ?_ ?_<;>intro g4
  ·refine ro 4 aa ?_;refine bk aa ?_ ?_<;>intro h5
   ·exact W
   refine ro 7 aa ?_;refine bk aa ?_ ?_<;>intro h6
   ·exact W
   refine ro 2 aa (bw aa aa (aA aa (Cj (aK:=mZ) F ae ae) ?_));rintro _ _⟨nf,rfl,qm⟩;refine ro 1 aa ?_;refine bk aa ?_ ?_<;>intro h8
   ·have k8:=qm.1 (by simpa using h8);exact W
   have k8:¬_:=fun p=>absurd (qm.2 p) (by simpa using h8)
   exact W
  refine ro 4 aa (jb aa (jb aa (jb aa (jb aa (ro 5 aa (bw aa aa (aA aa (Cj (aK:=mZ) F ae ae) ?_)))))));rintro _ _⟨qp,rfl,rz⟩;refine ro 1 aa ?_;refine bk aa ?_ ?_<;>intro nA
  ·have Yp:=rz.1 (by simpa using nA);exact W
  have Yp:¬_:=fun p=>absurd (rz.2 p) (by simpa using nA)
  exact W
 rintro VE B⟨hV,hB,agM⟩;refine aS _ _ hV hB (rc 7 aa (dE [42,12,10,9,8,4,3,2,1,0] [10,4] aa aa (fun e0 b0 VE B=>∃A6 z A7 uN A8 uO,an ((11,.d A6)::(13,.d A7)::(14,.d A8)::e0) VE∧an b0 B∧(ao z A6)∧((z.length:Int)≤64)∧(af bc z)∧(ao uN A7)∧((uN.length:Int)≤64)∧(af bc uN)∧(ao uO A8)∧((uO.length:Int)≤200)∧(af bc uO)∧(mZ=1)) ?_ ?_))
 ·refine rc 6 aa ?_;refine ax aa ?_ ?_<;>intro uu
  ·refine rc 6 aa (bd [75,42,14,13,12,11,10,9,8,4,3,2,1,0] [10,4] aa aa (fun e0 b0 k VE B=>∃fU,an ((15,.d (dJ fU))::e0) VE∧an b0 B∧dT k 0 fU (da.length:Int)) ?_ fin);rintro _ VE B⟨fU,hV,hB,rfl,bR⟩;refine aS _ _ hV hB (rc 5 aa (aT (aM aa ez ?_)));refine rq 2 aa ?_;refine dK aa ?_ ?_<;>intro nz
   ·refine rq 2 aa ?_;obtain⟨_,⟨sx17_0,rfl,hsx17_0⟩,yo,G8,jm⟩:=qI fU dQ;refine cb aa aa (aF aa aa ez ae jm aa ?_);refine rq 4 aa (cb aa aa (nE aa aa ?_));exact rq 1 aa (W)
   exact rq 9 aa (W)
  exfalso;omega
 rintro VE B⟨A6,z,A7,uN,A8,uO,hV,hB,L,fj2_1,M,hdv13_j2,fj2_4,hrv13_j2,hdv14_j2,fj2_7,hrv14_j2,fj2_9⟩;refine aS _ _ hV hB (dE [42,14,13,11,10,9,8,4,3,2,1,0] [10,4] aa aa (fun e0 b0 VE B=>∃A9 O,an ((12,.d A9)::e0) VE∧an b0 B∧(ao O A9)∧((O.length:Int)≤64)∧(af bc O)) ?_ ?_)
 ·refine aB 4 aa (aA aa (Cj (aK:=mZ) F ae ae) ?_);rintro _ _⟨Nh,rfl,afn⟩;refine ro 1 aa ?_;refine cO aa ?_ ?_<;>intro sr
  ·have k24:=afn.1 (by simpa using sr);exfalso;omega
  have k24:¬_:=fun p=>absurd (afn.2 p) (by simpa using sr)
  exact W
 rintro VE B⟨A9,O,hV,hB,U,agS,Y⟩;refine aS _ _ hV hB (dE [42,12,11,10,9,8,4,3,2,1,0] [10,4] aa aa (fun e0 b0 VE B=>∃A' nI Ba uP,an ((13,.d A')::(14,.d Ba)::e0) VE∧an b0 B∧(ao nI A')∧((nI.length:Int)≤200)∧(af bc nI)∧(ao uP Ba)∧((uP.length:Int)≤200)∧(af bc uP)) ?_ ?_)
 ·refine rc 6 aa ?_;refine bk aa ?_ ?_<;>intro Pd
  ·refine ro 5 aa (eM aa aa (aB 3 aa (dZ (ys:=z) 125 aa aa aa aa aa (.sD L (cP M aa)) au ae ?_)));refine ro 1 aa ?_;refine aw (aW (rows:=z) (ys:=O) rfl rfl rfl (.sD U (cP Y rfl)) au ae (fun h=>by rw[h];rfl) (fun h=>by rw[h];rfl) ?_);exact ro 2 aa (cl 13 125 aa aa (fun _=>⟨aa,aa⟩) (W))
  refine ro 5 aa ?_;refine ax aa ?_ ?_<;>intro g26
  ·refine aB 3 aa (dZ (ys:=z) 125 aa aa aa aa aa (.sD L (cP M aa)) au ae ?_);refine ro 1 aa ?_;refine aw (aW (rows:=z) (ys:=O) rfl rfl rfl (.sD U (cP Y rfl)) au ae (fun h=>by rw[h];rfl) (fun h=>by rw[h];rfl) ?_);exact ro 2 aa (cl 13 125 aa aa (fun _=>⟨aa,aa⟩) (W))
  exact W
 rintro VE B⟨A',nI,Ba,uP,hV,hB,re,ahz,sK,hdv14_j7,fj7_4,hrv14_j7⟩;refine aS _ _ hV hB (rc 4 aa (dE [42,14,13,12,11,10,9,8,4,3,2,1,0] [10,4] aa aa (fun e0 b0 VE B=>∃DL,an ((16,dB DL)::e0) VE∧an b0 B) ?_ ?_))
 ·refine aB 4 aa (aA aa (hpC F ai) ?_);rintro _ _⟨_,rfl,by27_0,rfl⟩;refine ro 1 aa ?_;refine cO aa ?_ ?_<;>intro h28
  ·refine aB 7 aa (aA aa (A0 F cW ae cq Nr re ae sK) ?_);rintro _ _⟨y29_0,y29_1,rfl,hy29_0,hy29_1⟩;exact W
  exact W
 rintro VE B⟨DL,hV,hB⟩;refine aS _ _ hV hB (rc 4 aa (de 19 90 3 8 1 aa aa (dE [42,16,14,13,12,11,10,9,8,4,3,2,1,0] [10,4] aa aa (fun e0 b0 VE B=>∃Z,an ((19,.ac 90 Z.length 1)::e0) VE∧an ((90,.acc 3 8 1 Z)::b0) B∧((Z.length:Int)≤64)∧(af bc Z)) ?_ ?_)))
 ·refine aB 4 aa (aA aa (Pz F ai) ?_);rintro _ _⟨_,rfl,by32_0,rfl⟩;refine ro 1 aa ?_;refine cO aa ?_ ?_<;>intro h33
  ·refine rc 2 aa (iw 2 aa (aM aa Hl ?_));refine ro 3 aa (bd [155,154,152,42,16,14,13,12,11,10,9,8,4,3,2,1,0] [10,4] aa aa (fun e0 b0 k VE B=>∃A oY,an ((19,.ac 90 oY.length 1)::(156,.d (dJ A))::e0) VE∧an ((90,.acc 3 8 1 oY)::b0) B∧k=((vG.length:Int) -A).toNat∧(0≤A∧(A≤(vG.length:Int)∨A=0))∧((oY.length:Int)≤A)∧(af bc oY)) ?_ fin);rintro _ VE B⟨A,oY,hV,hB,rfl,fh,gn,ac0⟩;refine aS _ _ hV hB (rc 5 aa ?_);refine ax aa ?_ ?_<;>intro Kg
   ·refine rc 5 aa ?_;obtain⟨x35_0,hx35_0,EP⟩:=qI A Tz;refine aw (aF aa aa Hl ae EP aa ?_);refine aJ 9 aa (aA aa (A0 F cW ae cq hx35_0 re ae sK) ?_);rintro _ _⟨_,_,rfl,⟨afo,rfl,hzy36_0,kzy36_0⟩,zy36_1,rfl,hzy36_1,kzy36_1⟩;refine ro 9 aa (rp 3 aa ?_);refine ax aa ?_ ?_<;>intro XZ
    ·exact W
    refine rc 2 aa (rp 3 aa ?_);refine aw (aW (rows:=oY) (ys:=[[(dJ afo)]]) rfl rfl rfl (.bs (rows:=[[(dJ afo)]]) rfl) au ae (fun h=>by rw[h];rfl) (fun h=>by rw[h];rfl) ?_);exact W
   exact W
  exact W
 rintro VE B⟨Z,hV,hB,fj10_0,Z5⟩;refine aS _ _ hV hB (dE [42,14,13,12,11,10,9,8,4,3,2,1,0] [10,4] aa aa (fun e0 b0 VE B=>∃Gz rj,an ((16,dB Gz)::(19,.ac 90 rj.length 1)::e0) VE∧an ((90,.acc 3 8 1 rj)::b0) B∧((rj.length:Int)≤128)∧(af bc rj)) ?_ ?_)
 ·refine rc 6 aa ?_;refine ax aa ?_ ?_<;>intro g38
  ·refine rc 2 aa (iw 2 aa (aM aa Hp ?_));refine ro 3 aa (bd [181,180,178,42,14,13,12,11,10,9,8,4,3,2,1,0] [10,4] aa aa (fun e0 b0 k VE B=>∃IF G I,an ((16,dB IF)::(19,.ac 90 I.length 1)::(182,.d (dJ G))::e0) VE∧an ((90,.acc 3 8 1 I)::b0) B∧k=((Ei.length:Int) -G).toNat∧(0≤G∧(G≤(Ei.length:Int)∨G=0))∧((I.length:Int)≤64+G)∧(af bc I)) ?_ (k:=((Ei.length:Int) -0).toNat) ⟨DL,0,Z,⟨aa,aa,aa,aa,aa,aa,aa,aa,aa,aa,aa,aa,aa,aa,aa,aa,aa,aa,aa,trivial⟩,⟨aa,aa,aa,trivial⟩,aa,ae,ae,Z5⟩);rintro _ VE B⟨IF,G,I,hV,hB,rfl,ot,zu,hrw19_2⟩;refine aS _ _ hV hB (rc 5 aa ?_);refine ax aa ?_ ?_<;>intro Ph
   ·refine rc 5 aa ?_;obtain⟨_,⟨zx40_0,rfl,hzx40_0,kzx40_0⟩,x40_1,hx40_1,hg40⟩:=qI G TA;refine aw (aF aa aa Hp ae hg40 aa ?_);refine ro 7 aa (rp 4 aa ?_);refine bk aa ?_ ?_<;>intro h41
    ·exact W
    refine ro 5 aa ?_;refine ax aa ?_ ?_<;>intro h42
    ·exact W
    refine rc 8 aa ?_;refine ax aa ?_ ?_<;>intro g43
    ·refine rc 4 aa ?_;refine aw (aW (rows:=I) (ys:=[[(dJ 1)]]) rfl rfl rfl (.bs (rows:=[[(dJ 1)]]) rfl) au ae (fun h=>by rw[h];rfl) (fun h=>by rw[h];rfl) ?_);exact W
    refine aB 8 aa (aA aa (A0 F cW ae cq hx40_1 re ae sK) ?_);rintro _ _⟨_,_,rfl,⟨afp,rfl,hzy44_0,kzy44_0⟩,zy44_1,rfl,hzy44_1,kzy44_1⟩;refine ro 9 aa (rp 3 aa ?_);refine ax aa ?_ ?_<;>intro h45
    ·exact W
    refine rc 8 aa ?_;refine ax aa ?_ ?_<;>intro g46
    ·refine rc 4 aa ?_;refine bk aa ?_ ?_<;>intro Pl
     ·refine ro 3 aa (jb aa (jb aa (ro 11 aa ?_)));refine aw (aW (rows:=I) (ys:=[[(dJ 1)]]) rfl rfl rfl (.bs (rows:=[[(dJ 1)]]) rfl) au ae (fun h=>by rw[h];rfl) (fun h=>by rw[h];rfl) ?_);exact W
     refine ro 1 aa (rp 2 aa ?_);refine bk aa ?_ ?_<;>intro g48
     ·refine ro 13 aa ?_;refine aw (aW (rows:=I) (ys:=[[(dJ 1)]]) rfl rfl rfl (.bs (rows:=[[(dJ 1)]]) rfl) au ae (fun h=>by rw[h];rfl) (fun h=>by rw[h];rfl) ?_);exact W
     refine ro 13 aa ?_;refine aw (aW (rows:=I) (ys:=[[(dJ 1)]]) rfl rfl rfl (.bs (rows:=[[(dJ 1)]]) rfl) au ae (fun h=>by rw[h];rfl) (fun h=>by rw[h];rfl) ?_);exact W
    refine rc 2 aa (rp 3 aa ?_);refine aw (aW (rows:=I) (ys:=[[(dJ afp)]]) rfl rfl rfl (.bs (rows:=[[(dJ afp)]]) rfl) au ae (fun h=>by rw[h];rfl) (fun h=>by rw[h];rfl) ?_);exact W
   exact W
  exact W
 rintro VE B⟨Gz,rj,hV,hB,fj14_0,hrw19_j14⟩;refine aS _ _ hV hB (dE [42,16,13,12,11,10,9,8,4,3,2,1,0] [10,4] aa aa (fun e0 b0 VE B=>∃AE uI,an ((14,.d AE)::e0) VE∧an b0 B∧(ao uI AE)∧((uI.length:Int)≤200)∧(af bc uI)) ?_ ?_)
 ·refine aB 4 aa (aA aa (Pz F ai) ?_);rintro _ _⟨_,rfl,by49_0,rfl⟩;refine ro 1 aa ?_;refine cO aa ?_ ?_<;>intro h50
  ·exact cl 19 90 aa aa (fun _=>⟨aa,aa⟩) (W)
  exact W
 rintro VE B⟨AE,uI,hV,hB,hdv14_j21,fj21_1,hrv14_j21⟩;refine aS _ _ hV hB (dE [42,13,12,11,10,9,8,4,3,2,1,0] [10,4] aa aa (fun e0 b0 VE B=>∃uQ rf GA,an ((14,.d uQ)::(16,dB GA)::e0) VE∧an b0 B∧(ao rf uQ)∧((rf.length:Int)≤200)∧(af bc rf)) ?_ ?_)
 ·refine rc 6 aa ?_;refine bk aa ?_ ?_<;>intro g51
  ·refine ro 10 aa (eM aa aa (aB 4 aa (aA aa (De F L ae M U ae Y) ?_)));rintro _ _⟨y52_0,wy52_0,y52_2,rfl,hdy52_0,hny52_0,hry52_0,hy52_2⟩;exact W
  refine ro 5 aa ?_;refine bk aa ?_ ?_<;>intro X6
  ·refine ro 5 aa (eM aa aa (aB 4 aa (aA aa (De F L ae M U ae Y) ?_)));rintro _ _⟨y54_0,wy54_0,y54_2,rfl,hdy54_0,hny54_0,hry54_0,hy54_2⟩;exact W
  refine ro 5 aa ?_;refine ax aa ?_ ?_<;>intro g55
  ·refine aB 4 aa (aA aa (De F L ae M U ae Y) ?_);rintro _ _⟨agR,wy56_0,y56_2,rfl,hdy56_0,hny56_0,hry56_0,hy56_2⟩;exact W
  exact W
 rintro VE B⟨uQ,rf,GA,hV,hB,Al,fj22_1,Qi⟩;refine aS _ _ hV hB (rc 5 aa ?_);refine cO aa ?_ ?_<;>intro h57
 ·exact W
 refine aB 5 aa (aM aa Al ?_);refine ro 2 aa ?_;refine bk aa ?_ ?_<;>intro h58
 ·exact W
 refine ro 1 aa (bw aa aa (aM aa Al ?_));refine ro 3 aa ?_;refine ax aa ?_ ?_<;>intro h59
 ·exact W
 refine dH 8 aa ?_;exact bD rfl rfl ⟨uQ,rf,0,rfl,Al,ae,Qi,⟨ae,ae,(by first|(intro hb;exfalso;omega)|(intro hb;exact⟨sV.mk (by assumption) (by assumption),ae⟩))⟩⟩
theorem columnsC{T:aO}(F:FT T){a0 a1 a3:DC}{bV:aj}(cg:ao bV a0)(cI:bV.length≤40)(bJ:af jR bV){bN:aj}(cW:ao bN a1)(dg:bN.length≤200)(cq:af eB bN){bA:Int}(pF:0≤bA)(nw:bA≤(bV.length:Int) -1){da:aj}(ez:ao da a3)(fe:da.length≤16)(dQ:af ph da){ed:aj}(dw:af Um ed)(EW:bA≤(ed.length:Int)):cF T 422 [.agg [.d a0,.d a1],.d (dJ bA),.d a3,.bs 1005 ed.length 1] [(1005,.arr 51 24 1 ed.length ed)] fun r B=>∃y0 br y2,r= .tuple [.d y0,.d (dJ y2)]∧B=[(1005,.arr 51 24 1 ed.length ed)]∧ao br y0∧(br.length:Int)≤64∧af bc br∧((-9223372036854775808)≤y2∧y2≤9223372036854775807∧(y2=0→sV bV bA∧1≤br.length)):=by
 refine pP F.aiY aa (r0 11 aa ?_);obtain⟨_,⟨mZ,rfl,Mm,Mn⟩,_,⟨ts,rfl,SR,SS⟩,_,⟨tt,rfl,SU,SV⟩,WJ,Nr,_,⟨sx1_4,rfl,hsx1_4⟩,Jp,⟨vG,Hl,Tc,Tz⟩,WA,⟨Ei,Hp,hnx1_6,TA⟩,nC⟩:=qI bA bJ;refine aw (aF aa aa cg ae nC aa ?_);refine ro 7 aa (rp 4 aa ?_);refine bk aa ?_ ?_<;>intro h2
 ·exact W
 refine ro 5 aa ?_;refine ax aa ?_ ?_<;>intro h3
 ·exact W
 refine rc 1 aa (dE [42,10,9,8,4,3,2,1,0] [1005,10,4] aa aa (fun e0 b0 VE B=>an e0 VE∧an b0 B∧((mZ≠1→0≤ts∧ts<bA)∧((4≤mZ∧mZ≤8)→0≤tt∧tt<bA))) ?_ ?_)
 ·refine rc 6 aa ?_;refine bk aa ?_ ?_<;>intro g4
  ·refine ro 4 aa ?_;refine bk aa ?_ ?_<;>intro h5
   ·exact W
   refine ro 7 aa ?_;refine bk aa ?_ ?_<;>intro h6
   ·exact W
   refine ro 2 aa (bw aa aa (aA aa (Cj (aK:=mZ) F ae ae) ?_));rintro _ _⟨nf,rfl,qm⟩;refine ro 1 aa ?_;refine bk aa ?_ ?_<;>intro h8
   ·have k8:=qm.1 (by simpa using h8);exact W
   have k8:¬_:=fun p=>absurd (qm.2 p) (by simpa using h8)
   exact W
  refine ro 4 aa (jb aa (jb aa (jb aa (jb aa (ro 5 aa (bw aa aa (aA aa (Cj (aK:=mZ) F ae ae) ?_)))))));rintro _ _⟨qp,rfl,rz⟩;refine ro 1 aa ?_;refine bk aa ?_ ?_<;>intro nA
  ·have Yp:=rz.1 (by simpa using nA);exact W
  have Yp:¬_:=fun p=>absurd (rz.2 p) (by simpa using nA)
  exact W
 rintro VE B⟨hV,hB,agM⟩;refine aS _ _ hV hB (rc 7 aa (dE [42,12,10,9,8,4,3,2,1,0] [1005,10,4] aa aa (fun e0 b0 VE B=>∃A6 A A7 uN A8 uO,an ((11,.d A6)::(13,.d A7)::(14,.d A8)::e0) VE∧an b0 B∧(ao A A6)∧((A.length:Int)≤64)∧(af bc A)∧(ao uN A7)∧((uN.length:Int)≤64)∧(af bc uN)∧(ao uO A8)∧((uO.length:Int)≤200)∧(af bc uO)) ?_ ?_))
 ·refine rc 6 aa ?_;refine ax aa ?_ ?_<;>intro uu
  ·refine rc 6 aa (bd [75,42,14,13,12,11,10,9,8,4,3,2,1,0] [1005,10,4] aa aa (fun e0 b0 k VE B=>∃fU,an ((15,.d (dJ fU))::e0) VE∧an b0 B∧dT k 0 fU (da.length:Int)) ?_ fin);rintro _ VE B⟨fU,hV,hB,rfl,bR⟩;refine aS _ _ hV hB (rc 5 aa (aT (aM aa ez ?_)));refine rq 2 aa ?_;refine dK aa ?_ ?_<;>intro nz
   ·refine rq 2 aa ?_;obtain⟨_,⟨sx17_0,rfl,hsx17_0⟩,yo,G8,jm⟩:=qI fU dQ;refine cb aa aa (aF aa aa ez ae jm aa ?_);refine rq 4 aa (cb aa aa (nE aa aa ?_));exact rq 1 aa (W)
   exact rq 9 aa (W)
  refine rc 5 aa ?_;obtain⟨j23,JA,wz⟩:=bF (z:=ts) (n:=ed.length) ae ae;obtain⟨ahn,⟨wx23_0,hdx23_0,hnx23_0,hrx23_0⟩,v8⟩:=qN wz dw;refine aw (fb rfl (by rw[←JA];rfl) wz ?_);refine aw (jK (rows:=ed) aa aa (bt _) (bt _) wz v8 aa ?_);exact ro 8 aa (fin)
 rintro VE B⟨A6,A,A7,uN,A8,uO,hV,hB,M,fj2_1,O,hdv13_j2,fj2_4,hrv13_j2,hdv14_j2,fj2_7,hrv14_j2⟩;refine aS _ _ hV hB (dE [42,14,13,11,10,9,8,4,3,2,1,0] [1005,10,4] aa aa (fun e0 b0 VE B=>∃A9 U,an ((12,.d A9)::e0) VE∧an b0 B∧(ao U A9)∧((U.length:Int)≤64)∧(af bc U)) ?_ ?_)
 ·refine aB 4 aa (aA aa (Cj (aK:=mZ) F ae ae) ?_);rintro _ _⟨ID,rfl,Tt⟩;refine ro 1 aa ?_;refine cO aa ?_ ?_<;>intro XY
  ·have k25:=Tt.1 (by simpa using XY);refine rc 4 aa ?_;obtain⟨Ad,Cf,zq⟩:=bF (z:=tt) (n:=ed.length) ae ae;obtain⟨x26_0,⟨wx26_0,hdx26_0,hnx26_0,hrx26_0⟩,zw⟩:=qN zq dw;refine aw (fb rfl (by rw[←Cf];rfl) zq ?_);refine aw (jK (rows:=ed) aa aa (bt _) (bt _) zq zw aa ?_);exact ro 2 aa (fin)
  have k25:¬_:=fun p=>absurd (Tt.2 p) (by simpa using XY)
  exact W
 rintro VE B⟨A9,U,hV,hB,Y,agS,Z⟩;refine aS _ _ hV hB (dE [42,12,11,10,9,8,4,3,2,1,0] [1005,10,4] aa aa (fun e0 b0 VE B=>∃A' nI Ba uP,an ((13,.d A')::(14,.d Ba)::e0) VE∧an b0 B∧(ao nI A')∧((nI.length:Int)≤200)∧(af bc nI)∧(ao uP Ba)∧((uP.length:Int)≤200)∧(af bc uP)) ?_ ?_)
 ·refine rc 6 aa ?_;refine bk aa ?_ ?_<;>intro g27
  ·refine ro 5 aa (eM aa aa (aB 3 aa (dZ (ys:=A) 125 aa aa aa aa aa (.sD M (cP O aa)) au ae ?_)));refine ro 1 aa ?_;refine aw (aW (rows:=A) (ys:=U) rfl rfl rfl (.sD Y (cP Z rfl)) au ae (fun h=>by rw[h];rfl) (fun h=>by rw[h];rfl) ?_);exact ro 2 aa (cl 13 125 aa aa (fun _=>⟨aa,aa⟩) (W))
  refine ro 5 aa ?_;refine ax aa ?_ ?_<;>intro Pu
  ·refine aB 3 aa (dZ (ys:=A) 125 aa aa aa aa aa (.sD M (cP O aa)) au ae ?_);refine ro 1 aa ?_;refine aw (aW (rows:=A) (ys:=U) rfl rfl rfl (.sD Y (cP Z rfl)) au ae (fun h=>by rw[h];rfl) (fun h=>by rw[h];rfl) ?_);exact ro 2 aa (cl 13 125 aa aa (fun _=>⟨aa,aa⟩) (W))
  exact W
 rintro VE B⟨A',nI,Ba,uP,hV,hB,re,ahz,sK,hdv14_j7,fj7_4,hrv14_j7⟩;refine aS _ _ hV hB (rc 4 aa (dE [42,14,13,12,11,10,9,8,4,3,2,1,0] [1005,10,4] aa aa (fun e0 b0 VE B=>∃DL,an ((16,dB DL)::e0) VE∧an b0 B) ?_ ?_))
 ·refine aB 4 aa (aA aa (hpC F ai) ?_);rintro _ _⟨_,rfl,by29_0,rfl⟩;refine ro 1 aa ?_;refine cO aa ?_ ?_<;>intro h30
  ·refine aB 7 aa (aA aa (A0 F cW ae cq Nr re ae sK) ?_);rintro _ _⟨Uw,y31_1,rfl,hy31_0,hy31_1⟩;exact W
  exact W
 rintro VE B⟨DL,hV,hB⟩;refine aS _ _ hV hB (rc 4 aa (de 19 90 3 8 1 aa aa (dE [42,16,14,13,12,11,10,9,8,4,3,2,1,0] [1005,10,4] aa aa (fun e0 b0 VE B=>∃GB,an ((19,.ac 90 GB.length 1)::e0) VE∧an ((90,.acc 3 8 1 GB)::b0) B∧((GB.length:Int)≤64)∧(af bc GB)) ?_ ?_)))
 ·refine aB 4 aa (aA aa (Pz F ai) ?_);rintro _ _⟨_,rfl,by34_0,rfl⟩;refine ro 1 aa ?_;refine cO aa ?_ ?_<;>intro h35
  ·refine rc 2 aa (iw 2 aa (aM aa Hl ?_));refine ro 3 aa (bd [155,154,152,42,16,14,13,12,11,10,9,8,4,3,2,1,0] [1005,10,4] aa aa (fun e0 b0 k VE B=>∃G oY,an ((19,.ac 90 oY.length 1)::(156,.d (dJ G))::e0) VE∧an ((90,.acc 3 8 1 oY)::b0) B∧k=((vG.length:Int) -G).toNat∧(0≤G∧(G≤(vG.length:Int)∨G=0))∧((oY.length:Int)≤G)∧(af bc oY)) ?_ fin);rintro _ VE B⟨G,oY,hV,hB,rfl,fh,gn,ac0⟩;refine aS _ _ hV hB (rc 5 aa ?_);refine ax aa ?_ ?_<;>intro g36
   ·refine rc 5 aa ?_;obtain⟨x37_0,hx37_0,WZ⟩:=qI G Tz;refine aw (aF aa aa Hl ae WZ aa ?_);refine aJ 9 aa (aA aa (A0 F cW ae cq hx37_0 re ae sK) ?_);rintro _ _⟨_,_,rfl,⟨afq,rfl,hzy38_0,kzy38_0⟩,zy38_1,rfl,hzy38_1,kzy38_1⟩;refine ro 9 aa (rp 3 aa ?_);refine ax aa ?_ ?_<;>intro h39
    ·exact W
    refine rc 2 aa (rp 3 aa ?_);refine aw (aW (rows:=oY) (ys:=[[(dJ afq)]]) rfl rfl rfl (.bs (rows:=[[(dJ afq)]]) rfl) au ae (fun h=>by rw[h];rfl) (fun h=>by rw[h];rfl) ?_);exact W
   exact W
  exact W
 rintro VE B⟨GB,hV,hB,fj10_0,Z5⟩;refine aS _ _ hV hB (dE [42,14,13,12,11,10,9,8,4,3,2,1,0] [1005,10,4] aa aa (fun e0 b0 VE B=>∃Gz rj,an ((16,dB Gz)::(19,.ac 90 rj.length 1)::e0) VE∧an ((90,.acc 3 8 1 rj)::b0) B∧((rj.length:Int)≤128)∧(af bc rj)) ?_ ?_)
 ·refine rc 6 aa ?_;refine ax aa ?_ ?_<;>intro X1
  ·refine rc 2 aa (iw 2 aa (aM aa Hp ?_));refine ro 3 aa (bd [181,180,178,42,14,13,12,11,10,9,8,4,3,2,1,0] [1005,10,4] aa aa (fun e0 b0 k VE B=>∃IF I L,an ((16,dB IF)::(19,.ac 90 L.length 1)::(182,.d (dJ I))::e0) VE∧an ((90,.acc 3 8 1 L)::b0) B∧k=((Ei.length:Int) -I).toNat∧(0≤I∧(I≤(Ei.length:Int)∨I=0))∧((L.length:Int)≤64+I)∧(af bc L)) ?_ fin);rintro _ VE B⟨IF,I,L,hV,hB,rfl,ot,zu,hrw19_2⟩;refine aS _ _ hV hB (rc 5 aa ?_);refine ax aa ?_ ?_<;>intro X9
   ·refine rc 5 aa ?_;obtain⟨_,⟨DM,rfl,ac1,ac2⟩,x42_1,hx42_1,JI⟩:=qI I TA;refine aw (aF aa aa Hp ae JI aa ?_);refine ro 7 aa (rp 4 aa ?_);refine bk aa ?_ ?_<;>intro h43
    ·exact W
    refine ro 5 aa ?_;refine ax aa ?_ ?_<;>intro CC
    ·exact W
    refine rc 8 aa ?_;refine ax aa ?_ ?_<;>intro XJ
    ·refine rc 4 aa ?_;refine aw (aW (rows:=L) (ys:=[[(dJ 1)]]) rfl rfl rfl (.bs (rows:=[[(dJ 1)]]) rfl) au ae (fun h=>by rw[h];rfl) (fun h=>by rw[h];rfl) ?_);exact W
    refine aB 8 aa (aA aa (A0 F cW ae cq hx42_1 re ae sK) ?_);rintro _ _⟨_,_,rfl,⟨afr,rfl,hzy46_0,kzy46_0⟩,zy46_1,rfl,hzy46_1,kzy46_1⟩;refine ro 9 aa (rp 3 aa ?_);refine ax aa ?_ ?_<;>intro Pl
    ·exact W
    refine rc 8 aa ?_;refine ax aa ?_ ?_<;>intro g48
    ·refine rc 4 aa ?_;refine bk aa ?_ ?_<;>intro h49
     ·refine ro 3 aa (jb aa (jb aa (ro 11 aa ?_)));refine aw (aW (rows:=L) (ys:=[[(dJ 1)]]) rfl rfl rfl (.bs (rows:=[[(dJ 1)]]) rfl) au ae (fun h=>by rw[h];rfl) (fun h=>by rw[h];rfl) ?_);exact W
     refine ro 1 aa (rp 2 aa ?_);refine bk aa ?_ ?_<;>intro XK
     ·refine ro 13 aa ?_;refine aw (aW (rows:=L) (ys:=[[(dJ 1)]]) rfl rfl rfl (.bs (rows:=[[(dJ 1)]]) rfl) au ae (fun h=>by rw[h];rfl) (fun h=>by rw[h];rfl) ?_);exact W
     refine ro 13 aa ?_;refine aw (aW (rows:=L) (ys:=[[(dJ 1)]]) rfl rfl rfl (.bs (rows:=[[(dJ 1)]]) rfl) au ae (fun h=>by rw[h];rfl) (fun h=>by rw[h];rfl) ?_);exact W
    refine rc 2 aa (rp 3 aa ?_);refine aw (aW (rows:=L) (ys:=[[(dJ afr)]]) rfl rfl rfl (.bs (rows:=[[(dJ afr)]]) rfl) au ae (fun h=>by rw[h];rfl) (fun h=>by rw[h];rfl) ?_);exact W
   exact W
  exact W
 rintro VE B⟨Gz,rj,hV,hB,fj14_0,hrw19_j14⟩;refine aS _ _ hV hB (dE [42,16,13,12,11,10,9,8,4,3,2,1,0] [1005,10,4] aa aa (fun e0 b0 VE B=>∃AE uI,an ((14,.d AE)::e0) VE∧an b0 B∧(ao uI AE)∧((uI.length:Int)≤200)∧(af bc uI)) ?_ ?_)
 ·refine aB 4 aa (aA aa (Pz F ai) ?_);rintro _ _⟨_,rfl,by51_0,rfl⟩;refine ro 1 aa ?_;refine cO aa ?_ ?_<;>intro h52
  ·exact cl 19 90 aa aa (fun _=>⟨aa,aa⟩) (W)
  exact W
 rintro VE B⟨AE,uI,hV,hB,hdv14_j21,fj21_1,hrv14_j21⟩;refine aS _ _ hV hB (dE [42,13,12,11,10,9,8,4,3,2,1,0] [1005,10,4] aa aa (fun e0 b0 VE B=>∃uQ rf GA,an ((14,.d uQ)::(16,dB GA)::e0) VE∧an b0 B∧(ao rf uQ)∧((rf.length:Int)≤200)∧(af bc rf)) ?_ ?_)
 ·refine rc 6 aa ?_;refine bk aa ?_ ?_<;>intro X6
  ·refine ro 10 aa (eM aa aa (aB 4 aa (aA aa (De F M ae O Y ae Z) ?_)));rintro _ _⟨y54_0,wy54_0,y54_2,rfl,hdy54_0,hny54_0,hry54_0,hy54_2⟩;exact W
  refine ro 5 aa ?_;refine bk aa ?_ ?_<;>intro g55
  ·refine ro 5 aa (eM aa aa (aB 4 aa (aA aa (De F M ae O Y ae Z) ?_)));rintro _ _⟨agR,wy56_0,y56_2,rfl,hdy56_0,hny56_0,hry56_0,hy56_2⟩;exact W
  refine ro 5 aa ?_;refine ax aa ?_ ?_<;>intro g57
  ·refine aB 4 aa (aA aa (De F M ae O Y ae Z) ?_);rintro _ _⟨y58_0,wy58_0,y58_2,rfl,hdy58_0,hny58_0,hry58_0,hy58_2⟩;exact W
  exact W
 rintro VE B⟨uQ,rf,GA,hV,hB,Al,fj22_1,Qi⟩;refine aS _ _ hV hB (rc 5 aa ?_);refine cO aa ?_ ?_<;>intro h59
 ·exact W
 refine aB 5 aa (aM aa Al ?_);refine ro 2 aa ?_;refine bk aa ?_ ?_<;>intro h60
 ·exact W
 refine ro 1 aa (bw aa aa (aM aa Al ?_));refine ro 3 aa ?_;refine ax aa ?_ ?_<;>intro h61
 ·exact W
 refine rc 8 aa ?_;exact⟨_,[(1005,.arr 51 24 1 ed.length ed)],rfl,⟨rfl,trivial⟩,⟨uQ,rf,0,rfl,rfl,Al,ae,Qi,⟨ae,ae,(by first|(intro hb;exfalso;omega)|(intro hb;exact⟨sV.mk (by assumption) (by assumption),ae⟩))⟩⟩⟩
end Go.Ev.Rp
namespace Go.Ev.Rp
open Go Go.Ev.Pp
attribute [local irreducible] VC VO VQ VI Sound cF
theorem aaQ{T:aO}(F:FT T){a0 a1 a2:DC}{G:aj}(L:ao G a0)(cI:G.length≤1000)(bJ:af jR G){bN:aj}(M:ao bN a1)(dg:bN.length≤1000)(cq:af eB bN){bu:aj}(cu:ao bu a2)(cX:bu.length≤16)(bS:af ph bu):Sound T 323 [.agg [.d a0,.d a1],.d a2] fun r=>∃y0 Z y2,r= .tuple [.d y0,.d (dJ y2)]∧ao Z y0∧(Z.length:Int)≤40∧af Um Z∧((-9223372036854775808)≤y2∧y2≤9223372036854775807∧(y2=0→1≤G.length∧G.length≤40∧(Z.length:Int)=G.length∧mc G G.length)):=by
 refine bg F.q323 aa (cf 11 aa (aM aa L ?_));refine ro 2 aa ?_;refine bk aa ?_ ?_<;>intro h1
 ·exact W
 refine ro 2 aa (bw aa aa (aM aa L ?_));refine ro 3 aa ?_;refine bk aa ?_ ?_<;>intro h2
 ·exact W
 refine ro 2 aa (bw aa aa (aM aa M ?_));refine ro 3 aa ?_;refine ax aa ?_ ?_<;>intro h3
 ·exact W
 refine rc 11 aa (de 6 90 51 24 1 aa aa (bd [25,5,4,2,1,0] [2] aa aa (fun e0 b0 k VE B=>∃A z,an ((6,.ac 90 z.length 1)::(7,.d (dJ A))::e0) VE∧an ((90,.acc 51 24 1 z)::b0) B∧k=((G.length:Int) -A).toNat∧(0≤A∧(A≤(G.length:Int)∨A=0))∧((z.length:Int)≤A)∧(af Um z)∧((z.length:Int)=A)∧(mc G A)) ?_ fin));rintro _ VE B⟨A,z,hV,hB,rfl,bR,cM,I,hH,tZ⟩;refine aS _ _ hV hB (aB 6 aa (aM aa L ?_));refine ro 2 aa ?_;refine ax aa ?_ ?_<;>intro g4
 ·refine rc 9 aa ?_;rcases Vq (z=[]) with O|O
  ·have Fw:z.length=0:=by rw[O];rfl
   refine Q6 37 (dN) rfl (fun H X β a _ h=>adF (by rw[Fw] at h;exact h)) ?_;refine aw (aA aa (columnsN (bA:=A) F L ae bJ M ae cq ae ae cu ae bS ae) ?_);rintro _ _⟨U,oX,qD,rfl,oP,u9,lz,ly6_2,uy6_2,Ed⟩;refine ro 1 aa ?_;skip;refine rp 11 aa ?_;refine ax aa ?_ ?_<;>intro h7
   ·exact W
   refine aB 5 aa (aW (rows:=z) (ys:=[[U]]) aa aa aa (.bs (rows:=[[U]]) aa) au ae bW bW ?_);refine aJ 4 aa (bB aa aa ae ae ?_);refine cA 2 aa ?_;exact⟨((G.length:Int) -((A+1))).toNat,ae,(A+1),(z++[[U]]),⟨rfl,rfl,rfl,rfl,rfl,rfl,rfl,rfl,trivial⟩,⟨rfl,rfl,trivial⟩,rfl,ae,cE,(df I (c9 (ah (aL oP ae lz) bf))),(by first|rfl|(simp only[fv,gy,jP];omega)),(by first|exact Zj|exact mc.succ (by assumption) (And.left ((by assumption:_=(0:Int)→sV _ _∧_) aq)))⟩
  have Fw:0<z.length:=List.length_pos_iff.2 O;refine Q6 37 (.bs 90 z.length 1) aa (fun H X β a _ h=>ac_bs Fw h) (vo_accArr 90 aa O (aw (sJ (dV:=[.agg [.d a0,.d a1],.d (dJ A),.d a2,.bs 1005 (z.length) 1]) (Bi:=[(1005,.arr 51 24 1 (z.length) z)]) [(1005,90)] 2000 aa aa aa aa aa aa aa ⟨aa,aa,trivial⟩ (columnsC (bA:=A) F L ae bJ M ae cq ae ae cu ae bS I ae) ?_)));rintro _ _⟨Y,wy8_0,ajV,rfl,rfl,aeV,hny8_0,aeW,ly8_2,uy8_2,hy8_2⟩;refine ro 1 aa (ZY 90 aa O (ro 11 aa ?_));refine ax aa ?_ ?_<;>intro h9
  ·exact W
  refine aB 5 aa (aW (rows:=z) (ys:=[[Y]]) aa aa aa (.bs (rows:=[[Y]]) aa) au ae bW bW ?_);refine aJ 4 aa (bB aa aa ae ae ?_);refine cA 2 aa ?_;exact⟨((G.length:Int) -((A+1))).toNat,ae,(A+1),(z++[[Y]]),⟨rfl,rfl,rfl,rfl,rfl,rfl,rfl,rfl,trivial⟩,⟨rfl,rfl,trivial⟩,rfl,ae,cE,(df I (c9 (ah (aL aeV ae aeW) bf))),(by first|rfl|(simp only[fv,gy,jP];omega)),(by first|exact Zj|exact mc.succ (by assumption) (And.left ((by assumption:_=(0:Int)→sV _ _∧_) aq)))⟩
 refine rc 7 aa (cl 4 90 aa aa (fun _=>⟨aa,aa⟩) (dH 1 aa ?_));exact bD rfl rfl ⟨(.cm z),z,0,rfl,(.acc _),ae,I,⟨ae,ae,(by first|(intro hb;exfalso;omega)|(intro hb;exact⟨ae,ae,ae,mc.all (by assumption) ae⟩))⟩⟩
theorem CheckQ{T:aO}(F:FT T){a0 a1 a2:DC}{A:aj}(O:ao A a0)(cI:A.length≤1000)(U:af jR A){G:aj}(Y:ao G a1)(dg:G.length≤1000)(Z:af eB G){I:aj}(cu:ao I a2)(cX:I.length≤16)(bS:af ph I):Sound T 322 [.agg [.d a0,.d a1],.d a2] fun r=>∃y0 L y2,r= .tuple [.d y0,.d y2]∧ao L y0∧(L.length:Int)≤64∧af bc L∧tJ.ok y2:=by
 refine bg F.q322 aa (cf 10 aa (aA aa (aaQ F O ae U Y ae Z cu ae bS) ?_));rintro _ _⟨eo,eY,tY,rfl,z,jh,fF,ly1_2,uy1_2,M⟩;refine ro 12 aa ?_;refine ax aa ?_ ?_<;>intro h2
 ·exact W
 refine aB 5 aa (aM aa z ?_);refine aw (dO aa aa ae ae ?_);have kf:=M ae;exact W
end Go.Ev.Rp
