/- Part 25 of rules for walks through the code of a program, and of such walks; what each part proves is said by its theorems. -/
import Derived.Test.YtmpoloiempjdpaaGreatS12
import Derived.Test.YtmpoloiempjdpaaGreatS13
import Derived.Test.YtmpoloiempjdpaaGreatS14
import Derived.Test.YtmpoloiempjdpaaGreatS19
import Derived.Test.YtmpoloiempjdpaaGreatS20
import Derived.Test.YtmpoloiempjdpaaGreatS21
import Derived.Test.YtmpoloiempjdpaaGreatS23
import Derived.Test.YtmpoloiempjdpaaGreatS24
set_option linter.unusedVariables false
set_option linter.unusedSimpArgs false
noncomputable section
set_option maxRecDepth 100000
set_option maxHeartbeats 4000000
namespace Go.Ev.Rp
open Go Go.Ev.Pp
attribute [local irreducible] VC VO VQ VI Sound bW
theorem Qj{T:aL}(F:FT T){p:Prop}(h:p:=by repeat' (first|refine wp 6 rfl ?_|refine wp 2 rfl ?_|refine wp 1 rfl ?_|(refine PJ ?_;first|exact bN rfl rfl fin|exact sJ|exact fin)|(refine PK ?_;first|exact⟨_,rz fin ae⟩|exact fin)|refine wo 1 rfl ?_|refine wc 1 rfl ?_|refine wq 1 rfl ?_|refine mc ?_|refine qU 8 rfl rfl ?_|refine qU 3 rfl rfl ?_|refine qU 1 rfl rfl ?_|refine dq ?_|refine Ar ?_|refine qV 8 rfl rfl ?_|refine qV 3 rfl rfl ?_|refine qV 1 rfl rfl ?_|refine A2 ?_|refine rX ?_|(refine ki ?_;exact bN rfl rfl fin)|(refine ki ?_;exact sJ)|refine eA rfl (by first|with_reducible rfl|assumption) ?_|refine dn rfl (by first|with_reducible rfl|assumption) ?_|(refine ay rfl (fun h=>?_) (fun h=>?_)<;>(try(have h:(_:Bool)=_:=h;subst h)))|refine jw ?_|refine mQ ?_|refine jN ?_|refine iu ?_|refine eR ?_|refine iv rfl ?_|refine bw rfl (by first|with_reducible rfl|assumption) (iO (d:=0) rfl ?_)|refine bw (W:=[]) rfl (by first|with_reducible rfl|assumption) ?_|refine lI rfl (by first|with_reducible exact Bool.not_true.symm|with_reducible exact Bool.not_false.symm|assumption) ?_|(refine bu rfl (fun h=>?_) (fun h=>?_)<;>(try(have h:(_:Bool)=_:=h;subst h)))|refine aq (W:=[]) ?_|refine tB rfl dZ rfl ?_|refine tC rfl dZ rfl ?_|refine iO (d:=0) rfl ?_|refine bB rfl rfl ae ae ?_|refine dr rfl rfl ae ae ?_|refine aR rfl Et ?_|(refine Lk rfl rfl Et dZ rfl ae ae ?_;repeat intro _)|(refine bJ (j:=0) rfl rfl (aV rfl) ?_)|refine c7 rfl rfl rfl ae ae ?_|refine pn rfl rfl ?_|refine pn (b:=[]) rfl rfl ?_|refine kL rfl rfl ?_|refine kL (b:=[]) rfl rfl ?_|refine rY rfl rfl rfl rfl ae ae ae ao ?_|refine eO rfl ao ae ae ?_|refine Af rfl rfl ao (fun _=>?_)|refine oB rfl rfl (fun _ _=>?_)|refine mR rfl rfl (fun _ _=>?_)|refine tO rfl rfl (fun _ _=>?_)|refine qB rfl rfl ?_|refine tA rfl rfl ?_|(refine aA rfl (by apply Dp F<;>first|assumption|exact ae|exact fin) ?_;rintro _ _⟨_,_,rfl,_,_⟩)|(refine aA rfl (by apply commonC F<;>first|assumption|exact ae|exact fin) ?_;rintro _ _⟨_,_,_,rfl,_,_,_,_⟩)|(refine aA rfl (by apply hpC F<;>first|assumption|exact ae|exact fin) ?_;rintro _ _⟨_,rfl,_⟩)|(exfalso;first|omega|((try simp only[eM,gQ,gD,mE] at*);first|omega|(simp_all;done)))|exact⟨_,rz fin ae⟩|exact fin|refine aU (W:=[]) ?_|(rename (Ty.ok Ty.b _)=>z;obtain⟨_,e⟩:=Ty.eU z;subst e;clear z)|(rename (Ty.ok (Ty.i _ _ _) _)=>z;obtain⟨_,e,_,_⟩:=Ty.dV z;first|(subst e;clear z)|clear z)|(rename (Ty.ok (Ty.s _) _)=>z;obtain⟨_,e,_⟩:=Ty.bH z;first|(subst e;clear z)|clear z)|(rename (Ty.ok (Ty.l _ _) _)=>z;obtain⟨_,_,_,_⟩:=Ty.aM z;clear z))):p:=h
theorem columnsN{T:aL}(F:FT T){a0 a1 a3:DC}{bM:ah}(cJ:au bM a0)(cM:bM.length≤40)(bO:af ku bM){bD:ah}(cO:au bD a1)(dm:bD.length≤200)(cl:af ey bD){bo:Int}(nz:0≤bo)(mI:bo≤0){dD:ah}(eZ:au dD a3)(fO:dD.length≤16)(eu:af yM dD)(hn:1≤bM.length):Sound T 228 [.agg [.d a0,.d a1],.d (dJ bo),.d a3,dN] fun r=>∃y0 bt y2,r= .tuple [.d y0,.d (dJ y2)]∧au bt y0∧(bt.length:Int)≤64∧af bn bt∧((-9223372036854775808)≤y2∧y2≤9223372036854775807∧(y2=0→tT bM bo∧1≤bt.length)):=by
 refine bk F.ajm aa (r0 11 aa ?_);obtain⟨_,⟨Z,rfl,Ma,Mb⟩,_,⟨D7,rfl,Tg,Th⟩,_,⟨ud,rfl,Ti,Tj⟩,akd,ahK,_,⟨sx1_4,rfl,hsx1_4⟩,O',⟨IL,Hh,hnx1_5,TR⟩,WR,⟨D8,Hi,hnx1_6,TS⟩,tt⟩:=qI bo bO;refine aq (aH aa aa cJ ae tt aa ?_);refine ro 7 aa (rp 4 aa ?_);refine bu aa ?_ ?_<;>intro h2
 ·exact W
 refine ro 5 aa ?_;refine ay aa ?_ ?_<;>intro h3
 ·exact W
 refine rc 1 aa (dP [42,10,9,8,4,3,2,1,0] [10,4] aa aa (fun e0 b0 VE B=>ak e0 VE∧ak b0 B∧((Z≠1→0≤D7∧D7<bo)∧((4≤Z∧Z≤8)→0≤ud∧ud<bo))) ?_ ?_)
 ·refine rc 6 aa ?_;refine bu aa ?_ ?_<;>intro g4
  ·refine ro 4 aa ?_;refine bu aa ?_ ?_<;>intro h5
   ·exact W
   refine ro 7 aa ?_;refine bu aa ?_ ?_<;>intro h6
   ·exact W
   refine ro 2 aa (bw aa aa (aA aa (Cd (aI:=Z) F ae ae) ?_));rintro _ _⟨sL,rfl,oR⟩;refine ro 1 aa ?_;refine bu aa ?_ ?_<;>intro h8
   ·have k8:=oR.1 (by simpa using h8);exact W
   have k8:¬_:=fun p=>absurd (oR.2 p) (by simpa using h8)
   exact W
  refine ro 4 aa (iv aa (iv aa (iv aa (iv aa (ro 5 aa (bw aa aa (aA aa (Cd (aI:=Z) F ae ae) ?_)))))));rintro _ _⟨ng,rfl,si⟩;refine ro 1 aa ?_;refine bu aa ?_ ?_<;>intro nB
  ·have YH:=si.1 (by simpa using nB);exact W
  have YH:¬_:=fun p=>absurd (si.2 p) (by simpa using nB)
  exact W
 rintro VE B⟨hV,hB,ahq⟩;refine aT _ _ hV hB (rc 7 aa (dP [42,12,10,9,8,4,3,2,1,0] [10,4] aa aa (fun e0 b0 VE B=>∃AN z AO vg AP vh,ak ((11,.d AN)::(13,.d AO)::(14,.d AP)::e0) VE∧ak b0 B∧(au z AN)∧((z.length:Int)≤64)∧(af bn z)∧(au vg AO)∧((vg.length:Int)≤64)∧(af bn vg)∧(au vh AP)∧((vh.length:Int)≤200)∧(af bn vh)∧(Z=1)) ?_ ?_))
 ·refine rc 6 aa ?_;refine ay aa ?_ ?_<;>intro xb
  ·refine rc 6 aa (bh [75,42,14,13,12,11,10,9,8,4,3,2,1,0] [10,4] aa aa (fun e0 b0 k VE B=>∃gh,ak ((15,.d (dJ gh))::e0) VE∧ak b0 B∧eg k 0 gh (dD.length:Int)) ?_ fin);rintro _ VE B⟨gh,hV,hB,rfl,bU⟩;refine aT _ _ hV hB (rc 5 aa (aU (aR aa eZ ?_)));refine rq 2 aa ?_;refine dL aa ?_ ?_<;>intro qs
   ·refine rq 2 aa ?_;obtain⟨_,⟨sx17_0,rfl,hsx17_0⟩,Iu,G2,kF⟩:=qI gh eu;refine cn aa aa (aH aa aa eZ ae kF aa ?_);refine rq 4 aa (cn aa aa (kL aa aa ?_));exact rq 1 aa (W)
   exact rq 9 aa (W)
  exfalso;omega
 rintro VE B⟨AN,z,AO,vg,AP,vh,hV,hB,FR,fj2_1,FU,hdv13_j2,fj2_4,hrv13_j2,hdv14_j2,fj2_7,hrv14_j2,fj2_9⟩;refine aT _ _ hV hB (dP [42,14,13,11,10,9,8,4,3,2,1,0] [10,4] aa aa (fun e0 b0 VE B=>∃AQ L,ak ((12,.d AQ)::e0) VE∧ak b0 B∧(au L AQ)∧((L.length:Int)≤64)∧(af bn L)) ?_ ?_)
 ·refine aB 4 aa (aA aa (Cd (aI:=Z) F ae ae) ?_);rintro _ _⟨Nh,rfl,afW⟩;refine ro 1 aa ?_;refine cF aa ?_ ?_<;>intro Fk
  ·have k24:=afW.1 (by simpa using Fk);exfalso;omega
  have k24:¬_:=fun p=>absurd (afW.2 p) (by simpa using Fk)
  exact W
 rintro VE B⟨AQ,L,hV,hB,FV,aht,FW⟩;refine aT _ _ hV hB (dP [42,12,11,10,9,8,4,3,2,1,0] [10,4] aa aa (fun e0 b0 VE B=>∃AS oD AT vi,ak ((13,.d AS)::(14,.d AT)::e0) VE∧ak b0 B∧(au oD AS)∧((oD.length:Int)≤200)∧(af bn oD)∧(au vi AT)∧((vi.length:Int)≤200)∧(af bn vi)) ?_ ?_)
 ·refine rc 6 aa ?_;refine bu aa ?_ ?_<;>intro X8
  ·refine ro 5 aa (eA aa aa (aB 3 aa (ed (ys:=z) 125 aa aa aa aa aa (.sD FR (cC FU aa)) ao ae ?_)));refine ro 1 aa ?_;refine aq (aY (rows:=z) (ys:=L) rfl rfl rfl (.sD FV (cC FW rfl)) ao ae (fun h=>by rw[h];rfl) (fun h=>by rw[h];rfl) ?_);exact ro 2 aa (ct 13 125 aa aa (fun _=>⟨aa,aa⟩) (W))
  refine ro 5 aa ?_;refine ay aa ?_ ?_<;>intro g26
  ·refine aB 3 aa (ed (ys:=z) 125 aa aa aa aa aa (.sD FR (cC FU aa)) ao ae ?_);refine ro 1 aa ?_;refine aq (aY (rows:=z) (ys:=L) rfl rfl rfl (.sD FV (cC FW rfl)) ao ae (fun h=>by rw[h];rfl) (fun h=>by rw[h];rfl) ?_);exact ro 2 aa (ct 13 125 aa aa (fun _=>⟨aa,aa⟩) (W))
  exact W
 rintro VE B⟨AS,oD,AT,vi,hV,hB,vc,ah1,xu,hdv14_j7,fj7_4,hrv14_j7⟩;refine aT _ _ hV hB (rc 4 aa (dP [42,14,13,12,11,10,9,8,4,3,2,1,0] [10,4] aa aa (fun e0 b0 VE B=>∃Du,ak ((16,dB Du)::e0) VE∧ak b0 B) ?_ ?_))
 ·exact Qj F
 rintro VE B⟨Du,hV,hB⟩;refine aT _ _ hV hB (rc 4 aa (dz 19 90 3 8 1 aa aa (dP [42,16,14,13,12,11,10,9,8,4,3,2,1,0] [10,4] aa aa (fun e0 b0 VE B=>∃M,ak ((19,.ac 90 M.length 1)::e0) VE∧ak ((90,.acc 3 8 1 M)::b0) B∧((M.length:Int)≤64)∧(af bn M)) ?_ ?_)))
 ·refine aB 4 aa (aA aa (Qi F al) ?_);rintro _ _⟨_,rfl,by32_0,rfl⟩;refine ro 1 aa ?_;refine cF aa ?_ ?_<;>intro h33
  ·refine rc 2 aa (hY 2 aa (aR aa Hh ?_));refine ro 3 aa (bh [155,154,152,42,16,14,13,12,11,10,9,8,4,3,2,1,0] [10,4] aa aa (fun e0 b0 k VE B=>∃A pK,ak ((19,.ac 90 pK.length 1)::(156,.d (dJ A))::e0) VE∧ak ((90,.acc 3 8 1 pK)::b0) B∧k=((IL.length:Int) -A).toNat∧(0≤A∧(A≤(IL.length:Int)∨A=0))∧((pK.length:Int)≤A)∧(af bn pK)) ?_ fin);rintro _ VE B⟨A,pK,hV,hB,rfl,fi,gl,adE⟩;refine aT _ _ hV hB (rc 5 aa ?_);refine ay aa ?_ ?_<;>intro Ko
   ·refine rc 5 aa ?_;obtain⟨x35_0,hx35_0,ED⟩:=qI A TR;refine aq (aH aa aa Hh ae ED aa ?_);refine aP 9 aa (aA aa (Dp F cO ae cl hx35_0 vc ae xu) ?_);rintro _ _⟨_,_,rfl,⟨afX,rfl,hzy36_0,kzy36_0⟩,zy36_1,rfl,hzy36_1,kzy36_1⟩;refine ro 9 aa (rp 3 aa ?_);refine ay aa ?_ ?_<;>intro h37
    ·exact W
    refine rc 2 aa (rp 3 aa ?_);refine aq (aY (rows:=pK) (ys:=[[(dJ afX)]]) rfl rfl rfl (.bs (rows:=[[(dJ afX)]]) rfl) ao ae (fun h=>by rw[h];rfl) (fun h=>by rw[h];rfl) ?_);exact W
   exact W
  exact W
 rintro VE B⟨M,hV,hB,fj10_0,aaw⟩;refine aT _ _ hV hB (dP [42,14,13,12,11,10,9,8,4,3,2,1,0] [10,4] aa aa (fun e0 b0 VE B=>∃Gu U,ak ((16,dB Gu)::(19,.ac 90 U.length 1)::e0) VE∧ak ((90,.acc 3 8 1 U)::b0) B∧((U.length:Int)≤128)∧(af bn U)) ?_ ?_)
 ·refine rc 6 aa ?_;refine ay aa ?_ ?_<;>intro g38
  ·refine rc 2 aa (hY 2 aa (aR aa Hi ?_));refine ro 3 aa (bh [181,180,178,42,14,13,12,11,10,9,8,4,3,2,1,0] [10,4] aa aa (fun e0 b0 k VE B=>∃IM G I,ak ((16,dB IM)::(19,.ac 90 I.length 1)::(182,.d (dJ G))::e0) VE∧ak ((90,.acc 3 8 1 I)::b0) B∧k=((D8.length:Int) -G).toNat∧(0≤G∧(G≤(D8.length:Int)∨G=0))∧((I.length:Int)≤64+G)∧(af bn I)) ?_ (k:=((D8.length:Int) -0).toNat) ⟨Du,0,M,⟨aa,aa,aa,aa,aa,aa,aa,aa,aa,aa,aa,aa,aa,aa,aa,aa,aa,aa,aa,trivial⟩,⟨aa,aa,aa,trivial⟩,aa,ae,ae,aaw⟩);rintro _ VE B⟨IM,G,I,hV,hB,rfl,oa,wi,hrw19_2⟩;refine aT _ _ hV hB (rc 5 aa ?_);refine ay aa ?_ ?_<;>intro PZ
   ·refine rc 5 aa ?_;obtain⟨_,⟨zx40_0,rfl,hzx40_0,kzx40_0⟩,x40_1,hx40_1,hg40⟩:=qI G TS;refine aq (aH aa aa Hi ae hg40 aa ?_);refine ro 7 aa (rp 4 aa ?_);refine bu aa ?_ ?_<;>intro h41
    ·exact W
    refine ro 5 aa ?_;refine ay aa ?_ ?_<;>intro h42
    ·exact W
    refine rc 8 aa ?_;refine ay aa ?_ ?_<;>intro g43
    ·refine rc 4 aa ?_;refine aq (aY (rows:=I) (ys:=[[(dJ 1)]]) rfl rfl rfl (.bs (rows:=[[(dJ 1)]]) rfl) ao ae (fun h=>by rw[h];rfl) (fun h=>by rw[h];rfl) ?_);exact W
    refine aB 8 aa (aA aa (Dp F cO ae cl hx40_1 vc ae xu) ?_);rintro _ _⟨_,_,rfl,⟨afY,rfl,hzy44_0,kzy44_0⟩,zy44_1,rfl,hzy44_1,kzy44_1⟩;refine ro 9 aa (rp 3 aa ?_);refine ay aa ?_ ?_<;>intro h45
    ·exact W
    refine rc 8 aa ?_;refine ay aa ?_ ?_<;>intro g46
    ·refine rc 4 aa ?_;refine bu aa ?_ ?_<;>intro P7
     ·refine ro 3 aa (iv aa (iv aa (ro 11 aa ?_)));refine aq (aY (rows:=I) (ys:=[[(dJ 1)]]) rfl rfl rfl (.bs (rows:=[[(dJ 1)]]) rfl) ao ae (fun h=>by rw[h];rfl) (fun h=>by rw[h];rfl) ?_);exact W
     refine ro 1 aa (rp 2 aa ?_);refine bu aa ?_ ?_<;>intro g48
     ·refine ro 13 aa ?_;refine aq (aY (rows:=I) (ys:=[[(dJ 1)]]) rfl rfl rfl (.bs (rows:=[[(dJ 1)]]) rfl) ao ae (fun h=>by rw[h];rfl) (fun h=>by rw[h];rfl) ?_);exact W
     refine ro 13 aa ?_;refine aq (aY (rows:=I) (ys:=[[(dJ 1)]]) rfl rfl rfl (.bs (rows:=[[(dJ 1)]]) rfl) ao ae (fun h=>by rw[h];rfl) (fun h=>by rw[h];rfl) ?_);exact W
    refine rc 2 aa (rp 3 aa ?_);refine aq (aY (rows:=I) (ys:=[[(dJ afY)]]) rfl rfl rfl (.bs (rows:=[[(dJ afY)]]) rfl) ao ae (fun h=>by rw[h];rfl) (fun h=>by rw[h];rfl) ?_);exact W
   exact W
  exact W
 rintro VE B⟨Gu,U,hV,hB,fj14_0,hrw19_j14⟩;refine aT _ _ hV hB (dP [42,16,13,12,11,10,9,8,4,3,2,1,0] [10,4] aa aa (fun e0 b0 VE B=>∃Am Y,ak ((14,.d Am)::e0) VE∧ak b0 B∧(au Y Am)∧((Y.length:Int)≤200)∧(af bn Y)) ?_ ?_)
 ·refine aB 4 aa (aA aa (Qi F al) ?_);rintro _ _⟨_,rfl,by49_0,rfl⟩;refine ro 1 aa ?_;refine cF aa ?_ ?_<;>intro h50
  ·exact ct 19 90 aa aa (fun _=>⟨aa,aa⟩) (W)
  exact W
 rintro VE B⟨Am,Y,hV,hB,hdv14_j21,fj21_1,hrv14_j21⟩;refine aT _ _ hV hB (dP [42,13,12,11,10,9,8,4,3,2,1,0] [10,4] aa aa (fun e0 b0 VE B=>∃vk O Gv,ak ((14,.d vk)::(16,dB Gv)::e0) VE∧ak b0 B∧(au O vk)∧((O.length:Int)≤200)∧(af bn O)) ?_ ?_)
 ·exact Qj F
 rintro VE B⟨vk,O,Gv,hV,hB,zU,fj22_1,QW⟩;refine aT _ _ hV hB (rc 5 aa ?_);refine cF aa ?_ ?_<;>intro h57
 ·exact W
 refine aB 5 aa (aR aa zU ?_);refine ro 2 aa ?_;refine bu aa ?_ ?_<;>intro h58
 ·exact W
 refine ro 1 aa (bw aa aa (aR aa zU ?_));refine ro 3 aa ?_;refine ay aa ?_ ?_<;>intro h59
 ·exact W
 refine fE 8 aa ?_;exact bN rfl rfl ⟨vk,O,0,rfl,zU,ae,QW,⟨ae,ae,(by first|(intro hb;exfalso;omega)|(intro hb;exact⟨tT.mk (by assumption) (by assumption),ae⟩))⟩⟩
theorem columnsC{T:aL}(F:FT T){a0 a1 a3:DC}{bM:ah}(cJ:au bM a0)(cM:bM.length≤40)(bO:af ku bM){bD:ah}(cO:au bD a1)(dm:bD.length≤200)(cl:af ey bD){bo:Int}(nz:0≤bo)(mI:bo≤(bM.length:Int) -1){dD:ah}(eZ:au dD a3)(fO:dD.length≤16)(eu:af yM dD){et:ah}(dk:af Uy et)(EJ:bo≤(et.length:Int)):bW T 228 [.agg [.d a0,.d a1],.d (dJ bo),.d a3,.bs 1005 et.length 1] [(1005,.arr 36 24 1 et.length et)] fun r B=>∃y0 bt y2,r= .tuple [.d y0,.d (dJ y2)]∧B=[(1005,.arr 36 24 1 et.length et)]∧au bt y0∧(bt.length:Int)≤64∧af bn bt∧((-9223372036854775808)≤y2∧y2≤9223372036854775807∧(y2=0→tT bM bo∧1≤bt.length)):=by
 refine gq F.ajm aa (r0 11 aa ?_);obtain⟨_,⟨Bh,rfl,Ma,Mb⟩,_,⟨D7,rfl,Tg,Th⟩,_,⟨ud,rfl,Ti,Tj⟩,akd,ahK,_,⟨sx1_4,rfl,hsx1_4⟩,O',⟨IL,Hh,hnx1_5,TR⟩,WR,⟨D8,Hi,hnx1_6,TS⟩,tt⟩:=qI bo bO;refine aq (aH aa aa cJ ae tt aa ?_);refine ro 7 aa (rp 4 aa ?_);refine bu aa ?_ ?_<;>intro h2
 ·exact W
 refine ro 5 aa ?_;refine ay aa ?_ ?_<;>intro h3
 ·exact W
 refine rc 1 aa (dP [42,10,9,8,4,3,2,1,0] [1005,10,4] aa aa (fun e0 b0 VE B=>ak e0 VE∧ak b0 B∧((Bh≠1→0≤D7∧D7<bo)∧((4≤Bh∧Bh≤8)→0≤ud∧ud<bo))) ?_ ?_)
 ·refine rc 6 aa ?_;refine bu aa ?_ ?_<;>intro g4
  ·refine ro 4 aa ?_;refine bu aa ?_ ?_<;>intro h5
   ·exact W
   refine ro 7 aa ?_;refine bu aa ?_ ?_<;>intro h6
   ·exact W
   refine ro 2 aa (bw aa aa (aA aa (Cd (aI:=Bh) F ae ae) ?_));rintro _ _⟨sL,rfl,oR⟩;refine ro 1 aa ?_;refine bu aa ?_ ?_<;>intro h8
   ·have k8:=oR.1 (by simpa using h8);exact W
   have k8:¬_:=fun p=>absurd (oR.2 p) (by simpa using h8)
   exact W
  refine ro 4 aa (iv aa (iv aa (iv aa (iv aa (ro 5 aa (bw aa aa (aA aa (Cd (aI:=Bh) F ae ae) ?_)))))));rintro _ _⟨ng,rfl,si⟩;refine ro 1 aa ?_;refine bu aa ?_ ?_<;>intro nB
  ·have YH:=si.1 (by simpa using nB);exact W
  have YH:¬_:=fun p=>absurd (si.2 p) (by simpa using nB)
  exact W
 rintro VE B⟨hV,hB,ahq⟩;refine aT _ _ hV hB (rc 7 aa (dP [42,12,10,9,8,4,3,2,1,0] [1005,10,4] aa aa (fun e0 b0 VE B=>∃AN A AO vg AP vh,ak ((11,.d AN)::(13,.d AO)::(14,.d AP)::e0) VE∧ak b0 B∧(au A AN)∧((A.length:Int)≤64)∧(af bn A)∧(au vg AO)∧((vg.length:Int)≤64)∧(af bn vg)∧(au vh AP)∧((vh.length:Int)≤200)∧(af bn vh)) ?_ ?_))
 ·refine rc 6 aa ?_;refine ay aa ?_ ?_<;>intro xb
  ·refine rc 6 aa (bh [75,42,14,13,12,11,10,9,8,4,3,2,1,0] [1005,10,4] aa aa (fun e0 b0 k VE B=>∃gh,ak ((15,.d (dJ gh))::e0) VE∧ak b0 B∧eg k 0 gh (dD.length:Int)) ?_ fin);rintro _ VE B⟨gh,hV,hB,rfl,bU⟩;refine aT _ _ hV hB (rc 5 aa (aU (aR aa eZ ?_)));refine rq 2 aa ?_;refine dL aa ?_ ?_<;>intro qs
   ·refine rq 2 aa ?_;obtain⟨_,⟨sx17_0,rfl,hsx17_0⟩,Iu,G2,kF⟩:=qI gh eu;refine cn aa aa (aH aa aa eZ ae kF aa ?_);refine rq 4 aa (cn aa aa (kL aa aa ?_));exact rq 1 aa (W)
   exact rq 9 aa (W)
  refine rc 5 aa ?_;obtain⟨j23,JE,wL⟩:=bx (z:=D7) (n:=et.length) ae ae;obtain⟨ahM,⟨wx23_0,hdx23_0,hnx23_0,hrx23_0⟩,wB⟩:=qN wL dk;refine aq (eP rfl (by rw[←JE];rfl) wL ?_);refine aq (jM (rows:=et) aa aa (bd _) (bd _) wL wB aa ?_);exact ro 8 aa (fin)
 rintro VE B⟨AN,A,AO,vg,AP,vh,hV,hB,FR,fj2_1,FU,hdv13_j2,fj2_4,hrv13_j2,hdv14_j2,fj2_7,hrv14_j2⟩;refine aT _ _ hV hB (dP [42,14,13,11,10,9,8,4,3,2,1,0] [1005,10,4] aa aa (fun e0 b0 VE B=>∃AQ M,ak ((12,.d AQ)::e0) VE∧ak b0 B∧(au M AQ)∧((M.length:Int)≤64)∧(af bn M)) ?_ ?_)
 ·refine aB 4 aa (aA aa (Cd (aI:=Bh) F ae ae) ?_);rintro _ _⟨D3,rfl,TK⟩;refine ro 1 aa ?_;refine cF aa ?_ ?_<;>intro P6
  ·have k25:=TK.1 (by simpa using P6);refine rc 4 aa ?_;obtain⟨zI,Cb,yY⟩:=bx (z:=ud) (n:=et.length) ae ae;obtain⟨x26_0,⟨wx26_0,hdx26_0,hnx26_0,hrx26_0⟩,za⟩:=qN yY dk;refine aq (eP rfl (by rw[←Cb];rfl) yY ?_);refine aq (jM (rows:=et) aa aa (bd _) (bd _) yY za aa ?_);exact ro 2 aa (fin)
  have k25:¬_:=fun p=>absurd (TK.2 p) (by simpa using P6)
  exact W
 rintro VE B⟨AQ,M,hV,hB,FV,aht,FW⟩;refine aT _ _ hV hB (dP [42,12,11,10,9,8,4,3,2,1,0] [1005,10,4] aa aa (fun e0 b0 VE B=>∃AS oD AT vi,ak ((13,.d AS)::(14,.d AT)::e0) VE∧ak b0 B∧(au oD AS)∧((oD.length:Int)≤200)∧(af bn oD)∧(au vi AT)∧((vi.length:Int)≤200)∧(af bn vi)) ?_ ?_)
 ·refine rc 6 aa ?_;refine bu aa ?_ ?_<;>intro g27
  ·refine ro 5 aa (eA aa aa (aB 3 aa (ed (ys:=A) 125 aa aa aa aa aa (.sD FR (cC FU aa)) ao ae ?_)));refine ro 1 aa ?_;refine aq (aY (rows:=A) (ys:=M) rfl rfl rfl (.sD FV (cC FW rfl)) ao ae (fun h=>by rw[h];rfl) (fun h=>by rw[h];rfl) ?_);exact ro 2 aa (ct 13 125 aa aa (fun _=>⟨aa,aa⟩) (W))
  refine ro 5 aa ?_;refine ay aa ?_ ?_<;>intro Qd
  ·refine aB 3 aa (ed (ys:=A) 125 aa aa aa aa aa (.sD FR (cC FU aa)) ao ae ?_);refine ro 1 aa ?_;refine aq (aY (rows:=A) (ys:=M) rfl rfl rfl (.sD FV (cC FW rfl)) ao ae (fun h=>by rw[h];rfl) (fun h=>by rw[h];rfl) ?_);exact ro 2 aa (ct 13 125 aa aa (fun _=>⟨aa,aa⟩) (W))
  exact W
 rintro VE B⟨AS,oD,AT,vi,hV,hB,vc,ah1,xu,hdv14_j7,fj7_4,hrv14_j7⟩;refine aT _ _ hV hB (rc 4 aa (dP [42,14,13,12,11,10,9,8,4,3,2,1,0] [1005,10,4] aa aa (fun e0 b0 VE B=>∃Du,ak ((16,dB Du)::e0) VE∧ak b0 B) ?_ ?_))
 ·exact Qj F
 rintro VE B⟨Du,hV,hB⟩;refine aT _ _ hV hB (rc 4 aa (dz 19 90 3 8 1 aa aa (dP [42,16,14,13,12,11,10,9,8,4,3,2,1,0] [1005,10,4] aa aa (fun e0 b0 VE B=>∃U,ak ((19,.ac 90 U.length 1)::e0) VE∧ak ((90,.acc 3 8 1 U)::b0) B∧((U.length:Int)≤64)∧(af bn U)) ?_ ?_)))
 ·refine aB 4 aa (aA aa (Qi F al) ?_);rintro _ _⟨_,rfl,by34_0,rfl⟩;refine ro 1 aa ?_;refine cF aa ?_ ?_<;>intro h35
  ·refine rc 2 aa (hY 2 aa (aR aa Hh ?_));refine ro 3 aa (bh [155,154,152,42,16,14,13,12,11,10,9,8,4,3,2,1,0] [1005,10,4] aa aa (fun e0 b0 k VE B=>∃G pK,ak ((19,.ac 90 pK.length 1)::(156,.d (dJ G))::e0) VE∧ak ((90,.acc 3 8 1 pK)::b0) B∧k=((IL.length:Int) -G).toNat∧(0≤G∧(G≤(IL.length:Int)∨G=0))∧((pK.length:Int)≤G)∧(af bn pK)) ?_ fin);rintro _ VE B⟨G,pK,hV,hB,rfl,fi,gl,adE⟩;refine aT _ _ hV hB (rc 5 aa ?_);refine ay aa ?_ ?_<;>intro g36
   ·refine rc 5 aa ?_;obtain⟨x37_0,hx37_0,Xh⟩:=qI G TR;refine aq (aH aa aa Hh ae Xh aa ?_);refine aP 9 aa (aA aa (Dp F cO ae cl hx37_0 vc ae xu) ?_);rintro _ _⟨_,_,rfl,⟨afZ,rfl,hzy38_0,kzy38_0⟩,zy38_1,rfl,hzy38_1,kzy38_1⟩;refine ro 9 aa (rp 3 aa ?_);refine ay aa ?_ ?_<;>intro h39
    ·exact W
    refine rc 2 aa (rp 3 aa ?_);refine aq (aY (rows:=pK) (ys:=[[(dJ afZ)]]) rfl rfl rfl (.bs (rows:=[[(dJ afZ)]]) rfl) ao ae (fun h=>by rw[h];rfl) (fun h=>by rw[h];rfl) ?_);exact W
   exact W
  exact W
 rintro VE B⟨U,hV,hB,fj10_0,aaw⟩;refine aT _ _ hV hB (dP [42,14,13,12,11,10,9,8,4,3,2,1,0] [1005,10,4] aa aa (fun e0 b0 VE B=>∃Gu Y,ak ((16,dB Gu)::(19,.ac 90 Y.length 1)::e0) VE∧ak ((90,.acc 3 8 1 Y)::b0) B∧((Y.length:Int)≤128)∧(af bn Y)) ?_ ?_)
 ·refine rc 6 aa ?_;refine ay aa ?_ ?_<;>intro Yo
  ·refine rc 2 aa (hY 2 aa (aR aa Hi ?_));refine ro 3 aa (bh [181,180,178,42,14,13,12,11,10,9,8,4,3,2,1,0] [1005,10,4] aa aa (fun e0 b0 k VE B=>∃IM I L,ak ((16,dB IM)::(19,.ac 90 L.length 1)::(182,.d (dJ I))::e0) VE∧ak ((90,.acc 3 8 1 L)::b0) B∧k=((D8.length:Int) -I).toNat∧(0≤I∧(I≤(D8.length:Int)∨I=0))∧((L.length:Int)≤64+I)∧(af bn L)) ?_ fin);rintro _ VE B⟨IM,I,L,hV,hB,rfl,oa,wi,hrw19_2⟩;refine aT _ _ hV hB (rc 5 aa ?_);refine ay aa ?_ ?_<;>intro g41
   ·refine rc 5 aa ?_;obtain⟨_,⟨Dv,rfl,adF,adG⟩,x42_1,hx42_1,JM⟩:=qI I TS;refine aq (aH aa aa Hi ae JM aa ?_);refine ro 7 aa (rp 4 aa ?_);refine bu aa ?_ ?_<;>intro h43
    ·exact W
    refine ro 5 aa ?_;refine ay aa ?_ ?_<;>intro h44
    ·exact W
    refine rc 8 aa ?_;refine ay aa ?_ ?_<;>intro Ya
    ·refine rc 4 aa ?_;refine aq (aY (rows:=L) (ys:=[[(dJ 1)]]) rfl rfl rfl (.bs (rows:=[[(dJ 1)]]) rfl) ao ae (fun h=>by rw[h];rfl) (fun h=>by rw[h];rfl) ?_);exact W
    refine aB 8 aa (aA aa (Dp F cO ae cl hx42_1 vc ae xu) ?_);rintro _ _⟨_,_,rfl,⟨af0,rfl,hzy46_0,kzy46_0⟩,zy46_1,rfl,hzy46_1,kzy46_1⟩;refine ro 9 aa (rp 3 aa ?_);refine ay aa ?_ ?_<;>intro P7
    ·exact W
    refine rc 8 aa ?_;refine ay aa ?_ ?_<;>intro g48
    ·refine rc 4 aa ?_;refine bu aa ?_ ?_<;>intro h49
     ·refine ro 3 aa (iv aa (iv aa (ro 11 aa ?_)));refine aq (aY (rows:=L) (ys:=[[(dJ 1)]]) rfl rfl rfl (.bs (rows:=[[(dJ 1)]]) rfl) ao ae (fun h=>by rw[h];rfl) (fun h=>by rw[h];rfl) ?_);exact W
     refine ro 1 aa (rp 2 aa ?_);refine bu aa ?_ ?_<;>intro Yb
     ·refine ro 13 aa ?_;refine aq (aY (rows:=L) (ys:=[[(dJ 1)]]) rfl rfl rfl (.bs (rows:=[[(dJ 1)]]) rfl) ao ae (fun h=>by rw[h];rfl) (fun h=>by rw[h];rfl) ?_);exact W
     refine ro 13 aa ?_;refine aq (aY (rows:=L) (ys:=[[(dJ 1)]]) rfl rfl rfl (.bs (rows:=[[(dJ 1)]]) rfl) ao ae (fun h=>by rw[h];rfl) (fun h=>by rw[h];rfl) ?_);exact W
    refine rc 2 aa (rp 3 aa ?_);refine aq (aY (rows:=L) (ys:=[[(dJ af0)]]) rfl rfl rfl (.bs (rows:=[[(dJ af0)]]) rfl) ao ae (fun h=>by rw[h];rfl) (fun h=>by rw[h];rfl) ?_);exact W
   exact W
  exact W
 rintro VE B⟨Gu,Y,hV,hB,fj14_0,hrw19_j14⟩;refine aT _ _ hV hB (dP [42,16,13,12,11,10,9,8,4,3,2,1,0] [1005,10,4] aa aa (fun e0 b0 VE B=>∃Am Z,ak ((14,.d Am)::e0) VE∧ak b0 B∧(au Z Am)∧((Z.length:Int)≤200)∧(af bn Z)) ?_ ?_)
 ·refine aB 4 aa (aA aa (Qi F al) ?_);rintro _ _⟨_,rfl,by51_0,rfl⟩;refine ro 1 aa ?_;refine cF aa ?_ ?_<;>intro h52
  ·exact ct 19 90 aa aa (fun _=>⟨aa,aa⟩) (W)
  exact W
 rintro VE B⟨Am,Z,hV,hB,hdv14_j21,fj21_1,hrv14_j21⟩;refine aT _ _ hV hB (dP [42,13,12,11,10,9,8,4,3,2,1,0] [1005,10,4] aa aa (fun e0 b0 VE B=>∃vk O Gv,ak ((14,.d vk)::(16,dB Gv)::e0) VE∧ak b0 B∧(au O vk)∧((O.length:Int)≤200)∧(af bn O)) ?_ ?_)
 ·exact Qj F
 rintro VE B⟨vk,O,Gv,hV,hB,zU,fj22_1,QW⟩;refine aT _ _ hV hB (rc 5 aa ?_);refine cF aa ?_ ?_<;>intro h59
 ·exact W
 refine aB 5 aa (aR aa zU ?_);refine ro 2 aa ?_;refine bu aa ?_ ?_<;>intro h60
 ·exact W
 refine ro 1 aa (bw aa aa (aR aa zU ?_));refine ro 3 aa ?_;refine ay aa ?_ ?_<;>intro h61
 ·exact W
 refine rc 8 aa ?_;exact⟨_,[(1005,.arr 36 24 1 et.length et)],rfl,⟨rfl,trivial⟩,⟨vk,O,0,rfl,rfl,zU,ae,QW,⟨ae,ae,(by first|(intro hb;exfalso;omega)|(intro hb;exact⟨tT.mk (by assumption) (by assumption),ae⟩))⟩⟩⟩
end Go.Ev.Rp
namespace Go.Ev.Rp
open Go Go.Ev.Pp
attribute [local irreducible] VC VO VQ VI Sound bW
theorem abt{T:aL}(F:FT T){a0 a1 a2:DC}{G:ah}(L:au G a0)(cM:G.length≤1000)(bO:af ku G){bD:ah}(M:au bD a1)(dm:bD.length≤1000)(cl:af ey bD){bz:ah}(cr:au bz a2)(cY:bz.length≤16)(bY:af yM bz):Sound T 171 [.agg [.d a0,.d a1],.d a2] fun r=>∃y0 Z y2,r= .tuple [.d y0,.d (dJ y2)]∧au Z y0∧(Z.length:Int)≤40∧af Uy Z∧((-9223372036854775808)≤y2∧y2≤9223372036854775807∧(y2=0→1≤G.length∧G.length≤40∧(Z.length:Int)=G.length∧mP G G.length)):=by
 refine bk F.q171 aa (bV 11 aa (aR aa L ?_));refine ro 2 aa ?_;refine bu aa ?_ ?_<;>intro h1
 ·exact W
 refine ro 2 aa (bw aa aa (aR aa L ?_));refine ro 3 aa ?_;refine bu aa ?_ ?_<;>intro h2
 ·exact W
 refine ro 2 aa (bw aa aa (aR aa M ?_));refine ro 3 aa ?_;refine ay aa ?_ ?_<;>intro h3
 ·exact W
 refine rc 11 aa (dz 6 90 36 24 1 aa aa (bh [25,5,4,2,1,0] [2] aa aa (fun e0 b0 k VE B=>∃A z,ak ((6,.ac 90 z.length 1)::(7,.d (dJ A))::e0) VE∧ak ((90,.acc 36 24 1 z)::b0) B∧k=((G.length:Int) -A).toNat∧(0≤A∧(A≤(G.length:Int)∨A=0))∧((z.length:Int)≤A)∧(af Uy z)∧((z.length:Int)=A)∧(mP G A)) ?_ fin));rintro _ VE B⟨A,z,hV,hB,rfl,bU,cN,I,lR,wu⟩;refine aT _ _ hV hB (aB 6 aa (aR aa L ?_));refine ro 2 aa ?_;refine ay aa ?_ ?_<;>intro g4
 ·refine rc 9 aa ?_;rcases NK (z=[]) with O|O
  ·have Fq:z.length=0:=by rw[O];rfl
   refine mS 37 (dN) rfl (fun H X β a _ h=>GL (by rw[Fq] at h;exact h)) ?_;refine aq (aA aa (columnsN (bo:=A) F L ae bO M ae cl ae ae cr ae bY ae) ?_);rintro _ _⟨U,q8,uw,rfl,sg,xM,nL,ly6_2,uy6_2,DZ⟩;refine ro 1 aa ?_;skip;refine rp 11 aa ?_;refine ay aa ?_ ?_<;>intro h7
   ·exact W
   refine aB 5 aa (aY (rows:=z) (ys:=[[U]]) aa aa aa (.bs (rows:=[[U]]) aa) ao ae bP bP ?_);refine aP 4 aa (bB aa aa ae ae ?_);refine dC 2 aa ?_;exact⟨((G.length:Int) -((A+1))).toNat,ae,(A+1),(z++[[U]]),⟨rfl,rfl,rfl,rfl,rfl,rfl,rfl,rfl,trivial⟩,⟨rfl,rfl,trivial⟩,rfl,ae,dj,(eB I (ee (aj (aM sg ae nL) bm))),(by first|rfl|(simp only[e7,gB,jQ];omega)),(by first|exact ZF|exact mP.succ (by assumption) (And.left ((by assumption:_=(0:Int)→tT _ _∧_) an)))⟩
  have Fq:0<z.length:=List.length_pos_iff.2 O;refine mS 37 (.bs 90 z.length 1) aa (fun H X β a _ h=>ac_bs Fq h) (vo_accArr 90 aa O (aq (iP (dc:=[.agg [.d a0,.d a1],.d (dJ A),.d a2,.bs 1005 (z.length) 1]) (Bi:=[(1005,.arr 36 24 1 (z.length) z)]) [(1005,90)] 2000 aa aa aa aa aa aa aa ⟨aa,aa,trivial⟩ (columnsC (bo:=A) F L ae bO M ae cl ae ae cr ae bY I ae) ?_)));rintro _ _⟨Y,UG,akm,rfl,rfl,Dk,SQ,GU,ly8_2,uy8_2,hy8_2⟩;refine ro 1 aa (aal 90 aa O (ro 11 aa ?_));refine ay aa ?_ ?_<;>intro h9
  ·exact W
  refine aB 5 aa (aY (rows:=z) (ys:=[[Y]]) aa aa aa (.bs (rows:=[[Y]]) aa) ao ae bP bP ?_);refine aP 4 aa (bB aa aa ae ae ?_);refine dC 2 aa ?_;exact⟨((G.length:Int) -((A+1))).toNat,ae,(A+1),(z++[[Y]]),⟨rfl,rfl,rfl,rfl,rfl,rfl,rfl,rfl,trivial⟩,⟨rfl,rfl,trivial⟩,rfl,ae,dj,(eB I (ee (aj (aM Dk ae GU) bm))),(by first|rfl|(simp only[e7,gB,jQ];omega)),(by first|exact ZF|exact mP.succ (by assumption) (And.left ((by assumption:_=(0:Int)→tT _ _∧_) an)))⟩
 refine rc 7 aa (ct 4 90 aa aa (fun _=>⟨aa,aa⟩) (fE 1 aa ?_));exact bN rfl rfl ⟨(.cR z),z,0,rfl,(.acc _),ae,I,⟨ae,ae,(by first|(intro hb;exfalso;omega)|(intro hb;exact⟨ae,ae,ae,mP.all (by assumption) ae⟩))⟩⟩
theorem CheckQ{T:aL}(F:FT T){a0 a1 a2:DC}{A:ah}(O:au A a0)(cM:A.length≤1000)(U:af ku A){G:ah}(Y:au G a1)(dm:G.length≤1000)(Z:af ey G){I:ah}(cr:au I a2)(cY:I.length≤16)(bY:af yM I):Sound T 168 [.agg [.d a0,.d a1],.d a2] fun r=>∃y0 L y2,r= .tuple [.d y0,.d y2]∧au L y0∧(L.length:Int)≤64∧af bn L∧tJ.ok y2:=by
 refine bk F.q168 aa (bV 10 aa (aA aa (abt F O ae U Y ae Z cr ae bY) ?_));rintro _ _⟨dG,fq,wh,rfl,z,jP,fF,ly1_2,uy1_2,M⟩;refine ro 12 aa ?_;refine ay aa ?_ ?_<;>intro h2
 ·exact W
 refine aB 5 aa (aR aa z ?_);refine aq (dr aa aa ae ae ?_);have kf:=M ae;exact W
end Go.Ev.Rp
namespace Go.Ev.Rp
open Go Go.Ev.Pp
attribute [local irreducible] VC VO VQ VI Sound bW
theorem valuesB{T:aL}(F:FT T){a0 a1 a2:DC}{Y:ah}(cJ:au Y a0)(cM:Y.length≤200)(bO:af ey Y){G:ah}(U:au G a1)(dm:G.length≤64)(cl:af bn G){Z:ah}(cr:au Z a2)(cY:Z.length≤1000000000)(bY:af cB Z):At T 231 [.d a0,.d a1,.d a2] fun r B=>∃I,r= .ac 90 I.length 3∧B=[(90,.acc 87 32 3 I)]∧af cB I∧G.length≤(I.length:Int)∧(I.length:Int)≤G.length:=by
 refine gq F.ajn aa (bV 12 aa (aR aa U ?_));refine ro 3 aa (dz 7 90 87 32 3 aa aa (bh [11,10,6,2,1,0] [] aa aa (fun e0 b0 k VE B=>∃z A,ak ((7,.ac 90 A.length 3)::(12,.d (dJ z))::e0) VE∧ak ((90,.acc 87 32 3 A)::b0) B∧k=((G.length:Int) -z).toNat∧(0≤z∧(z≤(G.length:Int)∨z=0))∧((A.length:Int)≤z)∧(af cB A)∧((A.length:Int)=z)) ?_ fin));rintro _ VE B⟨z,A,hV,hB,rfl,bU,cN,G3,lR⟩;refine aT _ _ hV hB (rc 5 aa ?_);refine ay aa ?_ ?_<;>intro g1
 ·refine rc 5 aa ?_;obtain⟨gC,jm,bQ⟩:=qI z cl;refine aq (aH aa aa U ae bQ aa ?_);refine aP 8 aa (aA aa (Bg F cJ ae bO jm cr ae bY) ?_);rintro _ _⟨_,_,_,rfl,⟨L,rfl,afT,afU⟩,⟨M,rfl,hzy3_1,kzy3_1⟩,O,rfl,hsy3_2⟩;refine ro 1 aa ?_;refine aq (aY (rows:=A) (ys:=[[(dJ L),(dJ M),(aw O)]]) rfl rfl rfl (.bs (rows:=[[(dJ L),(dJ M),(aw O)]]) rfl) ao ae (fun h=>by rw[h];rfl) (fun h=>by rw[h];rfl) ?_);exact W
 exact W
theorem GroupX{T:aL}(F:FT T){X:List Int}{m:Nat}{a0 a1 a2 a3:DC}{bM:ah}(cJ:au bM a0)(cM:bM.length≤4096)(bO:af (dR X m) bM){bD:ah}(cO:au bD a1)(dm:bD.length≤200)(cl:af ey bD){bz:ah}(cr:au bz a2)(cY:bz.length≤64)(bY:af bn bz){dD:ah}(eZ:au dD a3)(fO:dD.length≤64)(eu:af fg dD)(hX:X.length≤2000000)(hm:m≤50000000)(qd:64≤m):Sound T 181 [.d a0,.d a1,.d a2,.d a3] fun r=>∃y0 bt,r= .d y0∧au bt y0∧(bt.length:Int)≤5000∧af (dR X (2*m)) bt:=by
 refine bk F.q181 aa (bV 12 aa (aR aa cJ ?_));refine ro 3 aa (dz 9 91 134 48 2 aa aa (bh [28,27,8,3,2,1,0] [] aa aa (fun e0 b0 k VE B=>∃yw EM,ak ((9,.ac 91 EM.length 2)::(29,.d (dJ yw))::e0) VE∧ak ((91,.acc 134 48 2 EM)::b0) B∧k=((bM.length:Int) -yw).toNat∧(0≤yw∧(yw≤(bM.length:Int)∨yw=0))∧((EM.length:Int)≤yw)∧(af [.q (pT cB bz.length (2*m)),.q (fv X)] EM)) ?_ fin));rintro _ VE B⟨yw,EM,hV,hB,rfl,bU,cN,Tp⟩;refine aT _ _ hV hB (rc 5 aa ?_);refine ay aa ?_ ?_<;>intro g1
 ·refine rc 5 aa ?_;obtain⟨gC,⟨pJ,Hg,vw,AH⟩,fJ,iX,bQ⟩:=qI yw bO;refine aq (aH aa aa cJ ae bQ aa ?_);refine ro 10 aa (aO aa (zX 2000 aa aa aa aa (valuesB F cO ae cl cr ae bY Hg ae AH) ?_));rintro _ _⟨oS,rfl,rfl,vx,hly3_0,huy3_0⟩;refine rq 2 aa (aa7 aa (aY (rows:=oS) (ys:=pJ) aa aa aa (.sD Hg (cC AH aa)) ao ae bP bP ?_));refine rq 1 aa (QR aa aa trivial aa (kI aa aa aa ?_));refine l9 41 2090 aa aa (fun _=>⟨aa,aa⟩) ?_;obtain⟨nh,pD,af1⟩:=Ty.bT iX;have pE:=af1.1;have mZ:=cH.len af1;refine rq 2 aa (aO aa (aY (rows:=EM) (ys:=[[(.cR (oS++pJ)),fJ]]) aa aa aa (.bs (rows:=[[(.cR (oS++pJ)),fJ]]) aa) ao ae bP bP ?_));exact W
 refine rc 9 aa (dz 13 90 88 24 1 aa aa (dP [30,29,28,27,12,9,8,3,2,1,0] [91] aa aa (fun e0 b0 VE B=>∃U,ak ((13,.ac 90 U.length 1)::e0) VE∧ak ((90,.acc 88 24 1 U)::b0) B∧((U.length:Int)≤1)∧(af [.x] U)∧(U=[]∨U=[]++[[.nil]])) ?_ ?_))
 ·refine aB 3 aa (aR aa cr ?_);refine ro 2 aa ?_;refine ay aa ?_ ?_<;>intro g4
  ·refine vc_slot 13 (dN) aa (fun H X β a h=>GL h) (abT 90 (cD [50,30,29,28,27,13,12,9,8,3,2,1,0] [91] aa aa (aB 1 aa (ZB 90 aa aa aa aa aa aa ?_))));refine mS 51 (.ac 90 1 1) aa (fun H X β a _ h=>bs_ac ao h) (aal 90 aa bI (dC 2 aa ?_));exact⟨[[.nil]],⟨rfl,rfl,rfl,rfl,rfl,rfl,rfl,rfl,rfl,rfl,rfl,rfl,trivial⟩,⟨rfl,rfl,trivial⟩,dj,(ee (aj cg bm)),(by first|exact .inl rfl|exact .inr rfl)⟩
  exact W
 rintro VE B⟨U,hV,hB,fj3_0,hrw13_j3,fj3_2⟩;refine aT _ _ hV hB (rc 1 aa (ct 9 91 aa aa (fun _=>⟨aa,aa⟩) (rc 3 aa ?_)));refine aq (aA rfl (ahW (X:=X) (P:=pT cB bz.length (2*m)) F (.acc _) ae Tp ae (fun d h=>by obtain⟨w,g1,_,h2,h3,_⟩:=h;exact⟨w,g1,eT h2 ae,h3⟩)) ?_);rintro _ _⟨jG,iY,rfl,me,sh,kQ,tY,tZ⟩;skip;refine aq (aR aa me ?_);refine ro 3 aa (dz 8 104 134 48 2 aa aa (SC 104 aa (fun p6=>?_)));refine bh [54,53,30,29,28,27,12,3,2,1,0] [] rfl rfl (fun e0 b0 k VE B=>∃I Bm G A,ak ((13,.ac 90 Bm.length 1)::(55,.d (dJ I))::e0) VE∧ak ((90,.acc 88 24 1 Bm)::(104,.bK G (.acc 134 48 2 A))::b0) B∧k=((iY.length:Int) -I).toNat∧(0≤I∧(I≤(iY.length:Int)∨I=0))∧((Bm.length:Int)≤1+I)∧(af [.x] Bm)∧((A.length:Int)≤I)∧(af [.q (pT cB bz.length (2*m)),.q (fv X)] A)∧(ta [.q (pT cB bz.length (2*m)),.q (fv X)] Bm G A)) ?_ (k:=((iY.length:Int) -0).toNat) ⟨0,U,p6,[],⟨rfl,rfl,rfl,rfl,rfl,rfl,rfl,rfl,rfl,rfl,rfl,rfl,rfl,trivial⟩,⟨rfl,rfl,trivial⟩,rfl,ae,ae,hrw13_j3,dj,cj,(by first|exact ta.mk (by assumption) (by assumption) rfl (by simp) (by assumption)|exact .inl ⟨rfl,(by assumption)⟩)⟩;rintro _ VE B⟨I,Bm,G,A,hV,hB,rfl,fi,gl,Sl,VX,FY,O4⟩;refine aT _ _ hV hB (rc 5 aa ?_);refine ay aa ?_ ?_<;>intro g7
 ·refine rc 5 aa ?_;rcases(by assumption:ta [.q (pT cB bz.length (2*m)),.q (fv X)] Bm G A) with⟨hr8,jg|jg⟩|⟨fB,pre,jg,hpre⟩
  ·subst hr8;subst jg;have Ki:af [.l 1000000 [.q (pT cB bz.length (2*m)),.q (fv X)]] []:=cj;refine Ac 104 ?_;have kG:(([]:ah).length:Int)=0:=rfl;obtain⟨n7,kW,pX,sr,fw⟩:=qI I kQ;refine aq (aH aa aa me ae fw aa ?_);refine aP 8 aa (dr aa aa ae ae ?_);refine ro 8 aa ?_;refine dL aa ?_ ?_<;>intro uK
   ·refine rq 7 aa (bL aa (bL aa (bL aa (dK aa ?_))));skip;refine bL aa (bL aa (dK aa (bL aa (bL aa (bL aa (bL aa (dK aa (bL aa (bL aa ?_)))))))));refine bL aa (dK aa (bL aa (rq 3 aa (eA aa aa (aB 4 aa (aY (rows:=([]:ah)) (ys:=[[.nil]]) aa aa aa (.bs (rows:=[[.nil]]) aa) ao ae bP bP ?_))))));refine aP 4 aa (bB aa aa ae ae ?_);refine ro 7 aa ?_;obtain⟨mJ,pW,akn⟩:∃j:Nat,((((([]:ah).length:Nat):Int) -1)+1)=(j:Int)∧j=([]:ah).length:=⟨_,ni,rfl⟩;have sN:(([]:ah)++[[DC.nil]])[mJ]?=some [.nil]:=by rw[akn];exact jj
    have Jd:mJ<(([]:ah)++[[DC.nil]]).length:=by rw[akn];simp
    refine aU (cZ rfl (by rw[←pW];rfl) Jd ?_);refine aO aa (fe (rows:=(([]:ah)++[[.nil]])) aa aa sN aa ?_);rcases Ty.bT kW,Ty.bT sr with⟨⟨wx9_0,hdx9_0,hlx9_0,hnx9_0,hrx9_0,Tl⟩,⟨ahO,Hb,af2⟩⟩
    have Hc:=af2.1;have afJ:=cH.len af2;refine rq 2 aa ?_;skip;refine aO aa (VI.fresh aa (ed (ys:=[[n7,pX]]) 104 aa aa aa aa aa (.bs (rows:=[[n7,pX]]) aa) ao ae ?_));refine nI 104 aa (fun p12=>?_);refine rZ 104 104 aa aa bI bI ?_;obtain⟨Fo,B6,ako⟩:∃j:Nat,((((([]:ah).length:Nat):Int) -1)+1)=(j:Int)∧j=([]:ah).length:=⟨_,ni,rfl⟩;have mA:(([]:ah)++[[DC.nil]])[Fo]?=some [.nil]:=by rw[ako];exact jj
    have JB:Fo<(([]:ah)++[[DC.nil]]).length:=by rw[ako];simp
    refine aU (cZ rfl (by rw[←B6];rfl) JB ?_);refine gX aa (gy aa aa aa aa aa aa ao ao mA (fun zJ WV Pd=>?_));have OY:af [.x] zJ:=by rw[WV];exact ff (eB cj (ee (aj cg bm))) (aj cg bm)
    rw[←Pd];refine rq 2 aa (aq (bB aa aa ae ae ?_));refine dC 2 aa ?_;exact⟨((iY.length:Int) -((I+1))).toNat,ae,(I+1),zJ,p12,[[n7,pX]],⟨rfl,rfl,rfl,rfl,rfl,rfl,rfl,rfl,rfl,rfl,rfl,rfl,rfl,trivial⟩,⟨rfl,rfl,trivial⟩,rfl,ae,ae,OY,dj,(ee (aj kW (aj sr bm))),(by first|exact ta.mk (by assumption) (by assumption) rfl (by simp) (by assumption)|exact .inl ⟨rfl,(by assumption)⟩)⟩
   exact W
  ·subst hr8;subst jg;have Ki:af [.l 1000000 [.q (pT cB bz.length (2*m)),.q (fv X)]] []:=cj;refine Ac 104 ?_;have kG:((([]:ah)++[[DC.nil]]).length:Int)=1:=rfl;obtain⟨Ik,Mc,DX,GY,B4⟩:=qI I kQ;refine aq (aH aa aa me ae B4 aa ?_);refine aP 8 aa (dr aa aa ae ae ?_);refine ro 8 aa ?_;refine dL aa ?_ ?_<;>intro PX
   ·exact W
   refine rq 2 aa ?_;obtain⟨th,wx,zb⟩:∃j:Nat,((((([]:ah)++[[DC.nil]]).length:Nat):Int) -1)=(j:Int)∧j=([]:ah).length:=⟨_,ni,rfl⟩;have kF:(([]:ah)++[[DC.nil]])[th]?=some [.nil]:=by rw[zb];exact jj
   have wy:th<(([]:ah)++[[DC.nil]]).length:=by rw[zb];simp
   refine cn rfl rfl (cZ rfl (by rw[←wx];rfl) wy ?_);refine fx aa aa aa (fe (rows:=(([]:ah)++[[.nil]])) aa aa kF aa ?_);refine cn aa aa (Ad aa ?_);refine rq 2 aa (oA aa bI (oA aa bI (oA aa bI (FA aa bI ?_))));skip;refine oA aa bI (oA aa bI (FA aa bI (oA aa bI (oA aa bI (oA aa bI (oA aa bI (FA aa bI (oA aa bI (oA aa bI ?_)))))))));refine oA aa bI (FA aa bI (oA aa bI (cn aa aa (tC aa bI aa ?_))));refine rq 2 aa (dn aa aa (rc 6 aa ?_));obtain⟨qz,sV,zc⟩:∃j:Nat,((((([]:ah)++[[DC.nil]]).length:Nat):Int) -1)=(j:Int)∧j=([]:ah).length:=⟨_,ni,rfl⟩;have mC:(([]:ah)++[[DC.nil]])[qz]?=some [.nil]:=by rw[zc];exact jj
   have sW:qz<(([]:ah)++[[DC.nil]]).length:=by rw[zc];simp
   refine aU (cZ rfl (by rw[←sV];rfl) sW ?_);refine aO aa (fe (rows:=(([]:ah)++[[.nil]])) aa aa mC aa ?_);rcases Ty.bT Mc,Ty.bT GY with⟨⟨wx15_0,hdx15_0,hlx15_0,hnx15_0,hrx15_0,hzx15_0⟩,⟨wx15_1,hdx15_1,adH⟩⟩
   have hrx15_1:=adH.1;have hnx15_1:=cH.len adH;refine rq 2 aa ?_;skip;refine aO aa (VI.fresh aa (ed (ys:=[[Ik,DX]]) 104 aa aa aa aa aa (.bs (rows:=[[Ik,DX]]) aa) ao ae ?_));refine nI 104 aa (fun Kw=>?_);refine rZ 104 104 aa aa bI bI ?_;obtain⟨Cz,wF,akp⟩:∃j:Nat,((((([]:ah)++[[DC.nil]]).length:Nat):Int) -1)=(j:Int)∧j=([]:ah).length:=⟨_,ni,rfl⟩;have nw:(([]:ah)++[[DC.nil]])[Cz]?=some [.nil]:=by rw[akp];exact jj
   have rF:Cz<(([]:ah)++[[DC.nil]]).length:=by rw[akp];simp
   refine aU (cZ rfl (by rw[←wF];rfl) rF ?_);refine gX aa (gy aa aa aa aa aa aa ao ao nw (fun Qh hw21 akh=>?_));have hb21:af [.x] Qh:=by rw[hw21];exact ff (ee (aj cg bm)) (aj cg bm)
   rw[←akh];refine rq 2 aa (aq (bB aa aa ae ae ?_));refine dC 2 aa ?_;exact⟨((iY.length:Int) -((I+1))).toNat,ae,(I+1),Qh,Kw,[[Ik,DX]],⟨rfl,rfl,rfl,rfl,rfl,rfl,rfl,rfl,rfl,rfl,rfl,rfl,rfl,trivial⟩,⟨rfl,rfl,trivial⟩,rfl,ae,ae,hb21,dj,(ee (aj Mc (aj GY bm))),(by first|exact ta.mk (by assumption) (by assumption) rfl (by simp) (by assumption)|exact .inl ⟨rfl,(by assumption)⟩)⟩
  subst jg;have hq:0<A.length:=List.length_pos_iff.2 fB;have hlp:((pre++[[DC.raw G A.length 2]]).length:Int)=pre.length+1:=by simp
  obtain⟨nR,sf,nT,vB,B3⟩:=qI I kQ;refine aq (aH aa aa me ae B3 aa ?_);refine aP 8 aa (dr aa aa ae ae ?_);refine ro 8 aa ?_;refine dL aa ?_ ?_<;>intro Yw
  ·exact W
  refine rq 2 aa ?_;obtain⟨Qb,WU,akq⟩:∃j:Nat,((((pre++[[DC.raw G A.length 2]]).length:Nat):Int) -1)=(j:Int)∧j=(pre:ah).length:=⟨_,ni,rfl⟩;have WO:(pre++[[DC.raw G A.length 2]])[Qb]?=some [.raw G A.length 2]:=by rw[akq];exact jj
  have aj5:Qb<(pre++[[DC.raw G A.length 2]]).length:=by rw[akq];simp
  refine cn rfl rfl (cZ rfl (by rw[←WU];rfl) aj5 ?_);refine fx aa aa aa (fe (rows:=(pre++[[.raw G A.length 2]])) aa aa WO aa ?_);refine cn aa aa (aca aa (Ty.bT (bT (ry.raw ae))) (fun z25 hz25 kz25=>?_));refine rq 2 aa ?_;refine dL aa ?_ ?_<;>intro g26
  ·refine rq 2 aa ?_;obtain⟨uO,Jj,akr⟩:∃j:Nat,((((pre++[[DC.raw G A.length 2]]).length:Nat):Int) -1)=(j:Int)∧j=(pre:ah).length:=⟨_,ni,rfl⟩;have Xe:(pre++[[DC.raw G A.length 2]])[uO]?=some [.raw G A.length 2]:=by rw[akr];exact jj
   have Wv:uO<(pre++[[DC.raw G A.length 2]]).length:=by rw[akr];simp
   refine cn rfl rfl (cZ rfl (by rw[←Jj];rfl) Wv ?_);refine fx aa aa aa (fe (rows:=(pre++[[.raw G A.length 2]])) aa aa Xe aa ?_);refine FB 75 104 aa aa (List.length_pos_iff.2 fB) fB ?_;obtain⟨r28,Pg⟩:∃r,A[0]?=some r:=⟨_,dx hq⟩;have Wx:=lJ FY Pg;obtain⟨x28_0,hx28_0,x28_1,hx28_1,rfl⟩:=qO Wx;refine cn aa aa (cZ (j:=0) aa aa hq ?_);refine rq 1 aa (fx aa aa aa (vi_load1PA (rows:=A) aa aa Pg aa ?_));refine rq 1 aa (cn aa aa (aR aa cr ?_));obtain⟨wx28_0,hdx28_0,hlx28_0,hnx28_0,hrx28_0,ac7⟩:=Ty.bT hx28_0;obtain⟨YF,JI,EG⟩:=bx (z:=(bz.length:Int)) (n:=wx28_0.length+1) ae ae;refine cn rfl rfl (eC (l:=0) (h:=YF) rfl hdx28_0 hrx28_0 rfl ac7 ⟨_,(by rw[←JI];rfl)⟩ rfl ae ae (fun d30 w30 hd30 hl30 hr30=>?_));refine rq 3 aa (cn aa aa (aR aa cr ?_));obtain⟨L8,Lx,hlx22_0,RZ,Ly,adI⟩:=Ty.bT sf;obtain⟨YG,JJ,EH⟩:=bx (z:=(bz.length:Int)) (n:=L8.length+1) ae ae;refine cn rfl rfl (eC (l:=0) (h:=YG) rfl Lx Ly rfl adI ⟨_,(by rw[←JJ];rfl)⟩ rfl ae ae (fun d32 Ft hd32 Pj hr32=>?_));refine fx aa aa aa (aA aa (ym F (aM hd30 ae hr30) (aM hd32 ae hr32)) ?_);rintro _ _⟨_,rfl,zy33_0,rfl,hzy33_0,kzy33_0⟩;refine rq 4 aa ?_;refine ay aa ?_ ?_<;>intro Ko
   ·refine vc_frzRs 13 104 90 aa fB aa ao aa ?_;have hpre2:=agF hpre FY an;refine cD [90,56,55,54,53,30,29,28,27,16,15,13,12,3,2,1,0] [90,15] aa aa (aB 4 aa (aY (rows:=(pre++[[.sl A]])) (ys:=[[.nil]]) aa aa aa (.bs (rows:=[[.nil]]) aa) ao ae (fun h=>absurd h bI) (fun h=>absurd h bI) ?_));refine aP 4 aa (bB aa aa ae ae ?_);refine ro 7 aa ?_;obtain⟨uP,Jl,aks⟩:∃j:Nat,(((((pre++[[DC.raw G A.length 2]]).length:Nat):Int) -1)+1)=(j:Int)∧j=(pre++[[DC.sl A]]).length:=⟨_,ni,rfl⟩;have ED:((pre++[[DC.sl A]])++[[DC.nil]])[uP]?=some [.nil]:=by rw[aks];exact jj
    have Wy:uP<((pre++[[DC.sl A]])++[[DC.nil]]).length:=by rw[aks];simp
    refine aU (cZ rfl (by rw[←Jl];rfl) Wy ?_);refine aO aa (fe (rows:=((pre++[[.sl A]])++[[.nil]])) aa aa ED aa ?_);obtain⟨L7,Gm,M⟩:=Ty.bT vB;have Gn:=M.1;have Lw:=cH.len M;refine rq 2 aa ?_;skip;refine aO aa (VI.fresh aa (ed (ys:=[[nR,nT]]) 104 aa aa aa aa aa (.bs (rows:=[[nR,nT]]) aa) ao ae ?_));refine nI 104 aa (fun p36=>?_);refine rZ 104 104 aa aa bI bI ?_;obtain⟨uQ,Jm,akt⟩:∃j:Nat,(((((pre++[[DC.raw G A.length 2]]).length:Nat):Int) -1)+1)=(j:Int)∧j=(pre++[[DC.sl A]]).length:=⟨_,ni,rfl⟩;have Xh:((pre++[[DC.sl A]])++[[DC.nil]])[uQ]?=some [.nil]:=by rw[akt];exact jj
    have WA:uQ<((pre++[[DC.sl A]])++[[DC.nil]]).length:=by rw[akt];simp
    refine aU (cZ rfl (by rw[←Jm];rfl) WA ?_);refine gX aa (gy aa aa aa aa aa aa ao ao Xh (fun PY hw38 ajT=>?_));have hb38:af [.x] PY:=by rw[hw38];exact ff (eB (okX hpre2) (ee (aj cg bm))) (aj cg bm)
    rw[←ajT];refine rq 2 aa (aq (bB aa aa ae ae ?_));refine dC 2 aa ?_;exact⟨((iY.length:Int) -((I+1))).toNat,ae,(I+1),PY,p36,[[nR,nT]],⟨rfl,rfl,rfl,rfl,rfl,rfl,rfl,rfl,rfl,rfl,rfl,rfl,rfl,trivial⟩,⟨rfl,rfl,trivial⟩,rfl,ae,ae,hb38,dj,(ee (aj sf (aj vB bm))),(by first|exact ta.mk (by assumption) (by assumption) rfl (by simp) (by assumption)|exact .inl ⟨rfl,(by assumption)⟩)⟩
   refine rc 6 aa ?_;obtain⟨Qe,W0,aku⟩:∃j:Nat,((((pre++[[DC.raw G A.length 2]]).length:Nat):Int) -1)=(j:Int)∧j=(pre:ah).length:=⟨_,ni,rfl⟩;have WQ:(pre++[[DC.raw G A.length 2]])[Qe]?=some [.raw G A.length 2]:=by rw[aku];exact jj
   have ake:Qe<(pre++[[DC.raw G A.length 2]]).length:=by rw[aku];simp
   refine aU (cZ rfl (by rw[←W0];rfl) ake ?_);refine aO aa (fe (rows:=(pre++[[.raw G A.length 2]])) aa aa WQ aa ?_);obtain⟨L7,Gm,M⟩:=Ty.bT vB;have Gn:=M.1;have Lw:=cH.len M;refine rq 2 aa (FB 101 104 aa aa (List.length_pos_iff.2 fB) fB (K1 104 aa (aO aa (aY (rows:=A) (ys:=[[nR,nT]]) aa aa aa (.bs (rows:=[[nR,nT]]) aa) ao ae bP bP ?_))));refine nI 104 aa (fun p40=>?_);refine rZ 104 104 aa aa bI bI ?_;obtain⟨Qf,W1,akv⟩:∃j:Nat,((((pre++[[DC.raw G A.length 2]]).length:Nat):Int) -1)=(j:Int)∧j=(pre:ah).length:=⟨_,ni,rfl⟩;have hg41:(pre++[[DC.raw G A.length 2]])[Qf]?=some [.raw G A.length 2]:=by rw[akv];exact jj
   have akf:Qf<(pre++[[DC.raw G A.length 2]]).length:=by rw[akv];simp
   refine aU (cZ rfl (by rw[←W1];rfl) akf ?_);refine gX aa (gy aa aa aa aa aa aa ao ao hg41 (fun Fs hw42 akg=>?_));have hb42:af [.x] Fs:=by rw[hw42];exact ff Sl (aj cg bm)
   rw[←akg];refine rq 2 aa (aq (bB aa aa ae ae ?_));refine dC 2 aa ?_;exact⟨((iY.length:Int) -((I+1))).toNat,ae,(I+1),Fs,p40,(A++[[nR,nT]]),⟨rfl,rfl,rfl,rfl,rfl,rfl,rfl,rfl,rfl,rfl,rfl,rfl,rfl,trivial⟩,⟨rfl,rfl,trivial⟩,rfl,ae,ae,hb42,dj,(eB FY (ee (aj sf (aj vB bm)))),(by first|exact ta.mk (by assumption) (by assumption) rfl (by simp) (by assumption)|exact .inl ⟨rfl,(by assumption)⟩)⟩
  refine rq 4 aa ?_;skip;refine rp 16 aa (dn aa aa (rc 6 aa ?_));obtain⟨j43,Wl,akw⟩:∃j:Nat,((((pre++[[DC.raw G A.length 2]]).length:Nat):Int) -1)=(j:Int)∧j=(pre:ah).length:=⟨_,ni,rfl⟩;have hg43:(pre++[[DC.raw G A.length 2]])[j43]?=some [.raw G A.length 2]:=by rw[akw];exact jj
  have O0:j43<(pre++[[DC.raw G A.length 2]]).length:=by rw[akw];simp
  refine aU (cZ rfl (by rw[←Wl];rfl) O0 ?_);refine aO aa (fe (rows:=(pre++[[.raw G A.length 2]])) aa aa hg43 aa ?_);rcases Ty.bT sf,Ty.bT vB with⟨⟨L8,Lx,hlx22_0,RZ,Ly,adI⟩,⟨L7,Gm,M⟩⟩
  have Gn:=M.1;have Lw:=cH.len M;refine rq 2 aa (FB 101 104 aa aa (List.length_pos_iff.2 fB) fB (K1 104 aa (aO aa (aY (rows:=A) (ys:=[[nR,nT]]) aa aa aa (.bs (rows:=[[nR,nT]]) aa) ao ae bP bP ?_))));refine nI 104 aa (fun p44=>?_);refine rZ 104 104 aa aa bI bI ?_;obtain⟨rQ,Jn,akx⟩:∃j:Nat,((((pre++[[DC.raw G A.length 2]]).length:Nat):Int) -1)=(j:Int)∧j=(pre:ah).length:=⟨_,ni,rfl⟩;have hg45:(pre++[[DC.raw G A.length 2]])[rQ]?=some [.raw G A.length 2]:=by rw[akx];exact jj
  have WG:rQ<(pre++[[DC.raw G A.length 2]]).length:=by rw[akx];simp
  refine aU (cZ rfl (by rw[←Jn];rfl) WG ?_);refine gX aa (gy aa aa aa aa aa aa ao ao hg45 (fun Fj hw46 ajU=>?_));have hb46:af [.x] Fj:=by rw[hw46];exact ff Sl (aj cg bm)
  rw[←ajU];refine rq 2 aa (aq (bB aa aa ae ae ?_));refine dC 2 aa ?_;exact⟨((iY.length:Int) -((I+1))).toNat,ae,(I+1),Fj,p44,(A++[[nR,nT]]),⟨rfl,rfl,rfl,rfl,rfl,rfl,rfl,rfl,rfl,rfl,rfl,rfl,rfl,trivial⟩,⟨rfl,rfl,trivial⟩,rfl,ae,ae,hb46,dj,(eB FY (ee (aj sf (aj vB bm)))),(by first|exact ta.mk (by assumption) (by assumption) rfl (by simp) (by assumption)|exact .inl ⟨rfl,(by assumption)⟩)⟩
 refine rc 2 aa (vc_grp 13 104 90 dZ FY ae aa aa ao aa (fun wG hlG hwG=>?_));refine ct 13 90 aa aa (fun _=>⟨aa,aa⟩) (aB 3 aa (aR aa (.acc _) ?_));refine ro 3 aa (dz 12 95 134 48 2 aa aa (bh [108,107,56,55,54,53,30,29,28,27,13,3,2,1,0] [] aa aa (fun e0 b0 k VE B=>∃Y D9,ak ((12,.ac 95 D9.length 2)::(109,.d (dJ Y))::e0) VE∧ak ((95,.acc 134 48 2 D9)::b0) B∧k=((wG.length:Int) -Y).toNat∧(0≤Y∧(Y≤(wG.length:Int)∨Y=0))∧((D9.length:Int)≤Y)∧(af (dR X (2*m)) D9)) ?_ fin));rintro _ VE B⟨Y,D9,hV,hB,rfl,oa,wi,hrw12_2⟩;refine aT _ _ hV hB (rc 5 aa ?_);refine ay aa ?_ ?_<;>intro g47
 ·refine rc 5 aa ?_;obtain⟨x48_0,⟨Hj,CZ,hnx48_0,Sm⟩,hg48⟩:=qI Y hwG;refine aq (aH aa aa (.acc _) ae hg48 aa ?_);refine ro 7 aa (jh 19 0 96 87 32 3 aa aa aa (dP [110,109,108,107,56,55,54,53,30,29,28,27,19,18,13,12,3,2,1,0] [95] aa aa (fun e0 b0 VE B=>∃L,ak e0 VE∧ak ((19,.one 134 48 [.ac 96 L.length 3,dN])::(96,.acc 87 32 3 L)::b0) B∧((L.length:Int)≤64)∧(af cB L)) ?_ ?_))
  ·refine rc 2 aa (hY 1 aa (aR aa CZ ?_));refine ro 2 aa ?_;refine ay aa ?_ ?_<;>intro g49
   ·refine rc 4 aa ?_;obtain⟨x50_0,hx50_0,x50_1,hx50_1,hg50⟩:=qI 0 Sm;refine aU (aH aa aa CZ ae hg50 aa ?_);refine rq 1 aa (cE aa aa (dy aa aa ?_));refine db 1 aa (aR aa cr ?_);obtain⟨wx50_0,hdx50_0,hlx50_0,hnx50_0,hrx50_0,hzx50_0⟩:=Ty.bT hx50_0;obtain⟨xf,Jo,ajV⟩:=bx (z:=(bz.length:Int)) (n:=wx50_0.length+1) ae ae;refine aU (eC (l:=0) (h:=xf) rfl hdx50_0 hrx50_0 rfl hzx50_0 ⟨_,(by rw[←Jo];rfl)⟩ rfl ae ae (fun d52 Kr Jp hl52 WL=>?_));refine aO aa (aY (rows:=[]) (ys:=Kr) aa aa aa (.sD Jp (cC WL aa)) ao ae bP bP ?_);exact W
   exact W
  rintro VE B⟨L,hV,hB,fj11_0,hrw19_0_j11⟩;refine aT _ _ hV hB (rc 3 aa (hY 1 aa (aR aa CZ ?_)));refine ro 3 aa (bh [128,127,110,109,108,107,56,55,54,53,30,29,28,27,19,18,13,12,3,2,1,0] [96,95] aa aa (fun e0 b0 k VE B=>∃AU C1,ak ((129,.d (dJ AU))::e0) VE∧ak ((19,.one 134 48 [.ac 96 L.length 3,.d C1])::b0) B∧k=((Hj.length:Int) -AU).toNat∧(0≤AU∧(AU≤(Hj.length:Int)∨AU=0))∧((Ty.q (fv X)).ok C1)) ?_ (k:=((Hj.length:Int) -0).toNat) ⟨0,.nil,⟨aa,aa,aa,aa,aa,aa,aa,aa,aa,aa,aa,aa,aa,aa,aa,aa,aa,aa,aa,aa,aa,aa,aa,trivial⟩,⟨aa,aa,aa,trivial⟩,aa,ae,(bT fv.nil)⟩);rintro _ VE B⟨AU,C1,hV,hB,rfl,Jr,abu⟩;refine aT _ _ hV hB (rc 5 aa ?_);refine ay aa ?_ ?_<;>intro g53
  ·refine rc 5 aa ?_;obtain⟨x54_0,hx54_0,x54_1,hx54_1,hg54⟩:=qI AU Sm;refine aq (aH aa aa CZ ae hg54 aa ?_);refine aP 9 aa (aA aa (xT (X:=X) F abu hx54_1 ae) ?_);rintro _ _⟨y55_0,rfl,hy55_0⟩;exact W
  refine aB 5 aa (aR aa eZ ?_);refine ro 3 aa (bh [141,140,130,129,128,127,110,109,108,107,56,55,54,53,30,29,28,27,19,18,13,12,3,2,1,0] [95] aa aa (fun e0 b0 k VE B=>∃Z O,ak ((142,.d (dJ Z))::e0) VE∧ak ((19,.one 134 48 [.ac 96 O.length 3,.d C1])::(96,.acc 87 32 3 O)::b0) B∧k=((dD.length:Int) -Z).toNat∧(0≤Z∧(Z≤(dD.length:Int)∨Z=0))∧((O.length:Int)≤64+Z)∧(af cB O)) ?_ fin);rintro _ VE B⟨Z,O,hV,hB,rfl,Js,aky,hrw19_0_4⟩;refine aT _ _ hV hB (rc 5 aa ?_);refine ay aa ?_ ?_<;>intro g56
  ·refine rc 5 aa ?_;obtain⟨x57_0,hx57_0,x57_1,hx57_1,hg57⟩:=qI Z eu;refine aq (aH aa aa eZ ae hg57 aa ?_);refine aP 12 aa (aR aa CZ ?_);refine ro 3 aa (dz 24 97 87 32 3 aa aa (bh [147,146,143,142,141,140,130,129,128,127,110,109,108,107,56,55,54,53,30,29,28,27,23,19,18,13,12,3,2,1,0] [96,95,23,19] aa aa (fun e0 b0 k VE B=>∃xU D',ak ((24,.ac 97 D'.length 3)::(148,.d (dJ xU))::e0) VE∧ak ((97,.acc 87 32 3 D')::b0) B∧k=((Hj.length:Int) -xU).toNat∧(0≤xU∧(xU≤(Hj.length:Int)∨xU=0))∧((D'.length:Int)≤xU)∧(af cB D')) ?_ fin));rintro _ VE B⟨xU,D',hV,hB,rfl,WW,WX,hrw24_5⟩;refine aT _ _ hV hB (rc 5 aa ?_);refine ay aa ?_ ?_<;>intro g58
   ·refine rc 5 aa ?_;obtain⟨x59_0,hx59_0,x59_1,hx59_1,hg59⟩:=qI xU Sm;refine aq (aH aa aa CZ ae hg59 aa ?_);refine ro 12 aa (aU (aR aa cr ?_));obtain⟨af3,hdx59_0,hlx59_0,hnx59_0,hrx59_0,hzx59_0⟩:=Ty.bT hx59_0;obtain⟨j60,hj60,kj60⟩:=bx (z:=(bz.length:Int)) (n:=af3.length+1) ae ae;refine aU (eC (l:=j60) (h:=af3.length) rfl hdx59_0 hrx59_0 rfl hzx59_0 rfl ⟨_,(by rw[←hj60];rfl)⟩ ae ae (fun d61 w61 hd61 hl61 hr61=>?_));refine aO aa (aA aa (Bg F cO ae cl hx57_1 hd61 ae hr61) ?_);rintro _ _⟨_,_,_,rfl,⟨af4,rfl,hzy62_0,kzy62_0⟩,⟨af5,rfl,hzy62_1,kzy62_1⟩,af6,rfl,hsy62_2⟩;refine rq 1 aa (aO aa (aY (rows:=D') (ys:=[[(dJ af4),(dJ af5),(aw af6)]]) aa aa aa (.bs (rows:=[[(dJ af4),(dJ af5),(aw af6)]]) aa) ao ae bP bP ?_));exact W
   refine rc 1 aa (ct 24 97 aa aa (fun _=>⟨aa,aa⟩) (rc 6 aa (aO aa (aA aa (AggM F hx57_0 (.acc _) ae hrw24_5) ?_))));rintro _ _⟨_,_,_,rfl,⟨af7,rfl,hzy63_0,kzy63_0⟩,⟨af8,rfl,hzy63_1,kzy63_1⟩,af9,rfl,hsy63_2⟩;refine rq 1 aa (aO aa (aY (rows:=O) (ys:=[[(dJ af7),(dJ af8),(aw af9)]]) aa aa aa (.bs (rows:=[[(dJ af7),(dJ af8),(aw af9)]]) aa) ao ae bP bP ?_));exact W
  refine rc 4 aa (eL 176 96 aa aa dA ?_);obtain⟨wc19_1_3,hdc19_1_3,aax⟩:=Ty.bT abu;have hrc19_1_3:=aax.1;have hnc19_1_3:=cH.len aax;refine aP 1 aa (aY (rows:=D9) (ys:=[[(.cR O),C1]]) aa aa aa (.bs (rows:=[[(.cR O),C1]]) aa) ao ae bP bP ?_);exact W
 exact rc 6 aa (ct 8 95 aa aa (fun _=>⟨aa,aa⟩) (W))
end Go.Ev.Rp
