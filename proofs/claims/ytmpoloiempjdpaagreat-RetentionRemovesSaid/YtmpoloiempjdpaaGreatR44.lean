/- Part 44 of rules for walks through the code of a program, and of such walks; what each part proves is said by its theorems. -/
import Derived.Test.YtmpoloiempjdpaaGreatR23
import Derived.Test.YtmpoloiempjdpaaGreatR24
import Derived.Test.YtmpoloiempjdpaaGreatR25
import Derived.Test.YtmpoloiempjdpaaGreatR35
import Derived.Test.YtmpoloiempjdpaaGreatR43
set_option linter.unusedVariables false
set_option linter.unusedSimpArgs false
noncomputable section
set_option maxRecDepth 100000
set_option maxHeartbeats 4000000
namespace Go.Ev.Rp
open Go Go.Ev.Pp
attribute [local irreducible] VC VO VQ VI Sound bY
theorem PL{T:aM}(F:FT T){p:Prop}(h:p:=by repeat' (first|refine wp 6 rfl ?_|refine wp 2 rfl ?_|refine wp 1 rfl ?_|(refine Pg ?_;first|exact bL rfl rfl fin|exact sn|exact fin)|(refine Ph ?_;first|exact⟨_,me fin ae⟩|exact fin)|refine wo 1 rfl ?_|refine wc 1 rfl ?_|refine wq 1 rfl ?_|refine qs ?_|refine qE 8 rfl rfl ?_|refine qE 3 rfl rfl ?_|refine qE 1 rfl rfl ?_|refine ew ?_|refine Af ?_|refine qF 8 rfl rfl ?_|refine qF 3 rfl rfl ?_|refine qF 1 rfl rfl ?_|refine Dt ?_|refine te ?_|(refine mM ?_;exact bL rfl rfl fin)|(refine mM ?_;exact sn)|refine eu rfl (by first|with_reducible rfl|assumption) ?_|refine dq rfl (by first|with_reducible rfl|assumption) ?_|(refine ay rfl (fun h=>?_) (fun h=>?_)<;>(try(have h:(_:Bool)=_:=h;subst h)))|refine lv ?_|refine oj ?_|refine kz ?_|refine i7 ?_|refine ff ?_|refine fS rfl ?_|refine bM rfl (by first|with_reducible rfl|assumption) (iI (d:=0) rfl ?_)|refine bM (W:=[]) rfl (by first|with_reducible rfl|assumption) ?_|refine oh rfl (by first|with_reducible exact Bool.not_true.symm|with_reducible exact Bool.not_false.symm|assumption) ?_|(refine br rfl (fun h=>?_) (fun h=>?_)<;>(try(have h:(_:Bool)=_:=h;subst h)))|refine aw (W:=[]) ?_|refine Cp rfl dC rfl ?_|refine zH rfl dC rfl ?_|refine iI (d:=0) rfl ?_|refine bx rfl rfl ae ae ?_|refine dQ rfl rfl ae ae ?_|refine aQ rfl Eh ?_|(refine K4 rfl rfl Eh dC rfl ae ae ?_;repeat intro _)|(refine bG (j:=0) rfl rfl (aX rfl) ?_)|refine c6 rfl rfl rfl ae ae ?_|refine pb rfl rfl ?_|refine pb (b:=[]) rfl rfl ?_|refine kE rfl rfl ?_|refine kE (b:=[]) rfl rfl ?_|refine rM rfl rfl rfl rfl ae ae ae ao ?_|refine fm rfl ao ae ae ?_|refine zV rfl rfl ao (fun _=>?_)|refine qh rfl rfl (fun _ _=>?_)|refine om rfl rfl (fun _ _=>?_)|refine tf rfl rfl (fun _ _=>?_)|refine qg rfl rfl ?_|refine s8 rfl rfl ?_|(refine aB rfl (by apply C4 F<;>first|assumption|exact ae|exact fin) ?_;rintro _ _⟨_,_,rfl,_,_⟩)|(refine aB rfl (by apply commonC F<;>first|assumption|exact ae|exact fin) ?_;rintro _ _⟨_,_,_,rfl,_,_,_,_⟩)|(refine aB rfl (by apply hpC F<;>first|assumption|exact ae|exact fin) ?_;rintro _ _⟨_,rfl,_⟩)|(exfalso;first|omega|((try simp only[eW,gM,gx,mq] at*);first|omega|(simp_all;done)))|exact⟨_,me fin ae⟩|exact fin|refine aV (W:=[]) ?_|(rename (Ty.ok Ty.b _)=>z;obtain⟨_,e⟩:=Ty.eI z;subst e;clear z)|(rename (Ty.ok (Ty.i _ _ _) _)=>z;obtain⟨_,e,_,_⟩:=Ty.dY z;first|(subst e;clear z)|clear z)|(rename (Ty.ok (Ty.s _) _)=>z;obtain⟨_,e,_⟩:=Ty.bB z;first|(subst e;clear z)|clear z)|(rename (Ty.ok (Ty.l _ _) _)=>z;obtain⟨_,_,_,_⟩:=Ty.aL z;clear z))):p:=h
theorem columnsN{T:aM}(F:FT T){a0 a1 a3:DC}{bW:ai}(cM:au bW a0)(cT:bW.length≤40)(bN:af j' bW){bJ:ai}(cO:au bJ a1)(dn:bJ.length≤200)(cq:af ey bJ){bz:Int}(pY:0≤bz)(nh:bz≤0){du:ai}(eS:au du a3)(fI:du.length≤16)(et:af yF du)(hn:1≤bW.length):Sound T 228 [.agg [.d a0,.d a1],.d (dJ bz),.d a3,dN] fun r=>∃y0 bw y2,r= .tuple [.d y0,.d (dJ y2)]∧au bw y0∧(bw.length:Int)≤64∧af bn bw∧((-9223372036854775808)≤y2∧y2≤9223372036854775807∧(y2=0→tn bW bz∧1≤bw.length)):=by
 refine bm F.ajF aa (r0 11 aa ?_);obtain⟨_,⟨Z,rfl,LU,LV⟩,_,⟨DZ,rfl,SY,SZ⟩,_,⟨tM,rfl,S0,S1⟩,W2,ah1,_,⟨sx1_4,rfl,hsx1_4⟩,I',⟨vC,G5,Tj,TL⟩,WS,⟨D0,G6,hnx1_6,TN⟩,qd⟩:=qI bz bN;refine aw (aH aa aa cM ae qd aa ?_);refine ro 7 aa (rp 4 aa ?_);refine br aa ?_ ?_<;>intro h2
 ·exact W
 refine ro 5 aa ?_;refine ay aa ?_ ?_<;>intro h3
 ·exact W
 refine rc 1 aa (dM [42,10,9,8,4,3,2,1,0] [10,4] aa aa (fun e0 b0 VE B=>an e0 VE∧an b0 B∧((Z≠1→0≤DZ∧DZ<bz)∧((4≤Z∧Z≤8)→0≤tM∧tM<bz))) ?_ ?_)
 ·refine rc 6 aa ?_;refine br aa ?_ ?_<;>intro g4
  ·refine ro 4 aa ?_;refine br aa ?_ ?_<;>intro h5
   ·exact W
   refine ro 7 aa ?_;refine br aa ?_ ?_<;>intro h6
   ·exact W
   refine ro 2 aa (bM aa aa (aB aa (BT (aJ:=Z) F ae ae) ?_));rintro _ _⟨wa,rfl,sa⟩;refine ro 1 aa ?_;refine br aa ?_ ?_<;>intro h8
   ·have k8:=sa.1 (by simpa using h8);exact W
   have k8:¬_:=fun p=>absurd (sa.2 p) (by simpa using h8)
   exact W
  refine ro 4 aa (fS aa (fS aa (fS aa (fS aa (ro 5 aa (bM aa aa (aB aa (BT (aJ:=Z) F ae ae) ?_)))))));rintro _ _⟨nE,rfl,rQ⟩;refine ro 1 aa ?_;refine br aa ?_ ?_<;>intro oc
  ·have YP:=rQ.1 (by simpa using oc);exact W
  have YP:¬_:=fun p=>absurd (rQ.2 p) (by simpa using oc)
  exact W
 rintro VE B⟨hV,hB,ahy⟩;refine aU _ _ hV hB (rc 7 aa (dM [42,12,10,9,8,4,3,2,1,0] [10,4] aa aa (fun e0 b0 VE B=>∃Ay z Az uT AA uU,an ((11,.d Ay)::(13,.d Az)::(14,.d AA)::e0) VE∧an b0 B∧(au z Ay)∧((z.length:Int)≤64)∧(af bn z)∧(au uT Az)∧((uT.length:Int)≤64)∧(af bn uT)∧(au uU AA)∧((uU.length:Int)≤200)∧(af bn uU)∧(Z=1)) ?_ ?_))
 ·refine rc 6 aa ?_;refine ay aa ?_ ?_<;>intro uy
  ·refine rc 6 aa (bj [75,42,14,13,12,11,10,9,8,4,3,2,1,0] [10,4] aa aa (fun e0 b0 k VE B=>∃fZ,an ((15,.d (dJ fZ))::e0) VE∧an b0 B∧d9 k 0 fZ (du.length:Int)) ?_ fin);rintro _ VE B⟨fZ,hV,hB,rfl,bU⟩;refine aU _ _ hV hB (rc 5 aa (aV (aQ aa eS ?_)));refine rq 2 aa ?_;refine dL aa ?_ ?_<;>intro o5
   ·refine rq 2 aa ?_;obtain⟨_,⟨sx17_0,rfl,hsx17_0⟩,ye,GM,jA⟩:=qI fZ et;refine cl aa aa (aH aa aa eS ae jA aa ?_);refine rq 4 aa (cl aa aa (kE aa aa ?_));exact rq 1 aa (W)
   exact rq 9 aa (W)
  exfalso;omega
 rintro VE B⟨Ay,z,Az,uT,AA,uU,hV,hB,FG,fj2_1,FH,hdv13_j2,fj2_4,hrv13_j2,hdv14_j2,fj2_7,hrv14_j2,fj2_9⟩;refine aU _ _ hV hB (dM [42,14,13,11,10,9,8,4,3,2,1,0] [10,4] aa aa (fun e0 b0 VE B=>∃AB L,an ((12,.d AB)::e0) VE∧an b0 B∧(au L AB)∧((L.length:Int)≤64)∧(af bn L)) ?_ ?_)
 ·refine aA 4 aa (aB aa (BT (aJ:=Z) F ae ae) ?_);rintro _ _⟨MU,rfl,af4⟩;refine ro 1 aa ?_;refine cE aa ?_ ?_<;>intro Cf
  ·have k24:=af4.1 (by simpa using Cf);exfalso;omega
  have k24:¬_:=fun p=>absurd (af4.2 p) (by simpa using Cf)
  exact W
 rintro VE B⟨AB,L,hV,hB,FI,ahC,FJ⟩;refine aU _ _ hV hB (dM [42,12,11,10,9,8,4,3,2,1,0] [10,4] aa aa (fun e0 b0 VE B=>∃AD oq AE uV,an ((13,.d AD)::(14,.d AE)::e0) VE∧an b0 B∧(au oq AD)∧((oq.length:Int)≤200)∧(af bn oq)∧(au uV AE)∧((uV.length:Int)≤200)∧(af bn uV)) ?_ ?_)
 ·refine rc 6 aa ?_;refine br aa ?_ ?_<;>intro X7
  ·refine ro 5 aa (eu aa aa (aA 3 aa (eb (ys:=z) 125 aa aa aa aa aa (.sD FG (cD FH aa)) ao ae ?_)));refine ro 1 aa ?_;refine aw (aY (rows:=z) (ys:=L) rfl rfl rfl (.sD FI (cD FJ rfl)) ao ae (fun h=>by rw[h];rfl) (fun h=>by rw[h];rfl) ?_);exact ro 2 aa (cA 13 125 aa aa (fun _=>⟨aa,aa⟩) (W))
  refine ro 5 aa ?_;refine ay aa ?_ ?_<;>intro YO
  ·refine aA 3 aa (eb (ys:=z) 125 aa aa aa aa aa (.sD FG (cD FH aa)) ao ae ?_);refine ro 1 aa ?_;refine aw (aY (rows:=z) (ys:=L) rfl rfl rfl (.sD FI (cD FJ rfl)) ao ae (fun h=>by rw[h];rfl) (fun h=>by rw[h];rfl) ?_);exact ro 2 aa (cA 13 125 aa aa (fun _=>⟨aa,aa⟩) (W))
  exact W
 rintro VE B⟨AD,oq,AE,uV,hV,hB,uP,aim,xh,hdv14_j7,fj7_4,hrv14_j7⟩;refine aU _ _ hV hB (rc 4 aa (dM [42,14,13,12,11,10,9,8,4,3,2,1,0] [10,4] aa aa (fun e0 b0 VE B=>∃Df,an ((16,dB Df)::e0) VE∧an b0 B) ?_ ?_))
 ·exact PL F
 rintro VE B⟨Df,hV,hB⟩;refine aU _ _ hV hB (rc 4 aa (dP 19 90 3 8 1 aa aa (dM [42,16,14,13,12,11,10,9,8,4,3,2,1,0] [10,4] aa aa (fun e0 b0 VE B=>∃M,an ((19,.ac 90 M.length 1)::e0) VE∧an ((90,.acc 3 8 1 M)::b0) B∧((M.length:Int)≤64)∧(af bn M)) ?_ ?_)))
 ·refine aA 4 aa (aB aa (PK F ak) ?_);rintro _ _⟨_,rfl,by32_0,rfl⟩;refine ro 1 aa ?_;refine cE aa ?_ ?_<;>intro h33
  ·refine rc 2 aa (iD 2 aa (aQ aa G5 ?_));refine ro 3 aa (bj [155,154,152,42,16,14,13,12,11,10,9,8,4,3,2,1,0] [10,4] aa aa (fun e0 b0 k VE B=>∃A pD,an ((19,.ac 90 pD.length 1)::(156,.d (dJ A))::e0) VE∧an ((90,.acc 3 8 1 pD)::b0) B∧k=((vC.length:Int) -A).toNat∧(0≤A∧(A≤(vC.length:Int)∨A=0))∧((pD.length:Int)≤A)∧(af bn pD)) ?_ fin);rintro _ VE B⟨A,pD,hV,hB,rfl,fu,gL,adJ⟩;refine aU _ _ hV hB (rc 5 aa ?_);refine ay aa ?_ ?_<;>intro J3
   ·refine rc 5 aa ?_;obtain⟨x35_0,hx35_0,Er⟩:=qI A TL;refine aw (aH aa aa G5 ae Er aa ?_);refine aN 9 aa (aB aa (C4 F cO ae cq hx35_0 uP ae xh) ?_);rintro _ _⟨_,_,rfl,⟨af5,rfl,hzy36_0,kzy36_0⟩,zy36_1,rfl,hzy36_1,kzy36_1⟩;refine ro 9 aa (rp 3 aa ?_);refine ay aa ?_ ?_<;>intro h37
    ·exact W
    refine rc 2 aa (rp 3 aa ?_);refine aw (aY (rows:=pD) (ys:=[[(dJ af5)]]) rfl rfl rfl (.bs (rows:=[[(dJ af5)]]) rfl) ao ae (fun h=>by rw[h];rfl) (fun h=>by rw[h];rfl) ?_);exact W
   exact W
  exact W
 rintro VE B⟨M,hV,hB,fj10_0,aaB⟩;refine aU _ _ hV hB (dM [42,14,13,12,11,10,9,8,4,3,2,1,0] [10,4] aa aa (fun e0 b0 VE B=>∃Gi U,an ((16,dB Gi)::(19,.ac 90 U.length 1)::e0) VE∧an ((90,.acc 3 8 1 U)::b0) B∧((U.length:Int)≤128)∧(af bn U)) ?_ ?_)
 ·refine rc 6 aa ?_;refine ay aa ?_ ?_<;>intro g38
  ·refine rc 2 aa (iD 2 aa (aQ aa G6 ?_));refine ro 3 aa (bj [181,180,178,42,14,13,12,11,10,9,8,4,3,2,1,0] [10,4] aa aa (fun e0 b0 k VE B=>∃Il G I,an ((16,dB Il)::(19,.ac 90 I.length 1)::(182,.d (dJ G))::e0) VE∧an ((90,.acc 3 8 1 I)::b0) B∧k=((D0.length:Int) -G).toNat∧(0≤G∧(G≤(D0.length:Int)∨G=0))∧((I.length:Int)≤64+G)∧(af bn I)) ?_ (k:=((D0.length:Int) -0).toNat) ⟨Df,0,M,⟨aa,aa,aa,aa,aa,aa,aa,aa,aa,aa,aa,aa,aa,aa,aa,aa,aa,aa,aa,trivial⟩,⟨aa,aa,aa,trivial⟩,aa,ae,ae,aaB⟩);rintro _ VE B⟨Il,G,I,hV,hB,rfl,na,vW,hrw19_2⟩;refine aU _ _ hV hB (rc 5 aa ?_);refine ay aa ?_ ?_<;>intro Pu
   ·refine rc 5 aa ?_;obtain⟨_,⟨zx40_0,rfl,hzx40_0,kzx40_0⟩,x40_1,hx40_1,hg40⟩:=qI G TN;refine aw (aH aa aa G6 ae hg40 aa ?_);refine ro 7 aa (rp 4 aa ?_);refine br aa ?_ ?_<;>intro h41
    ·exact W
    refine ro 5 aa ?_;refine ay aa ?_ ?_<;>intro h42
    ·exact W
    refine rc 8 aa ?_;refine ay aa ?_ ?_<;>intro g43
    ·refine rc 4 aa ?_;refine aw (aY (rows:=I) (ys:=[[(dJ 1)]]) rfl rfl rfl (.bs (rows:=[[(dJ 1)]]) rfl) ao ae (fun h=>by rw[h];rfl) (fun h=>by rw[h];rfl) ?_);exact W
    refine aA 8 aa (aB aa (C4 F cO ae cq hx40_1 uP ae xh) ?_);rintro _ _⟨_,_,rfl,⟨af6,rfl,hzy44_0,kzy44_0⟩,zy44_1,rfl,hzy44_1,kzy44_1⟩;refine ro 9 aa (rp 3 aa ?_);refine ay aa ?_ ?_<;>intro h45
    ·exact W
    refine rc 8 aa ?_;refine ay aa ?_ ?_<;>intro g46
    ·refine rc 4 aa ?_;refine br aa ?_ ?_<;>intro Pz
     ·refine ro 3 aa (fS aa (fS aa (ro 11 aa ?_)));refine aw (aY (rows:=I) (ys:=[[(dJ 1)]]) rfl rfl rfl (.bs (rows:=[[(dJ 1)]]) rfl) ao ae (fun h=>by rw[h];rfl) (fun h=>by rw[h];rfl) ?_);exact W
     refine ro 1 aa (rp 2 aa ?_);refine br aa ?_ ?_<;>intro g48
     ·refine ro 13 aa ?_;refine aw (aY (rows:=I) (ys:=[[(dJ 1)]]) rfl rfl rfl (.bs (rows:=[[(dJ 1)]]) rfl) ao ae (fun h=>by rw[h];rfl) (fun h=>by rw[h];rfl) ?_);exact W
     refine ro 13 aa ?_;refine aw (aY (rows:=I) (ys:=[[(dJ 1)]]) rfl rfl rfl (.bs (rows:=[[(dJ 1)]]) rfl) ao ae (fun h=>by rw[h];rfl) (fun h=>by rw[h];rfl) ?_);exact W
    refine rc 2 aa (rp 3 aa ?_);refine aw (aY (rows:=I) (ys:=[[(dJ af6)]]) rfl rfl rfl (.bs (rows:=[[(dJ af6)]]) rfl) ao ae (fun h=>by rw[h];rfl) (fun h=>by rw[h];rfl) ?_);exact W
   exact W
  exact W
 rintro VE B⟨Gi,U,hV,hB,fj14_0,hrw19_j14⟩;refine aU _ _ hV hB (dM [42,16,13,12,11,10,9,8,4,3,2,1,0] [10,4] aa aa (fun e0 b0 VE B=>∃Aa Y,an ((14,.d Aa)::e0) VE∧an b0 B∧(au Y Aa)∧((Y.length:Int)≤200)∧(af bn Y)) ?_ ?_)
 ·refine aA 4 aa (aB aa (PK F ak) ?_);rintro _ _⟨_,rfl,by49_0,rfl⟩;refine ro 1 aa ?_;refine cE aa ?_ ?_<;>intro h50
  ·exact cA 19 90 aa aa (fun _=>⟨aa,aa⟩) (W)
  exact W
 rintro VE B⟨Aa,Y,hV,hB,hdv14_j21,fj21_1,hrv14_j21⟩;refine aU _ _ hV hB (dM [42,13,12,11,10,9,8,4,3,2,1,0] [10,4] aa aa (fun e0 b0 VE B=>∃uW O Gj,an ((14,.d uW)::(16,dB Gj)::e0) VE∧an b0 B∧(au O uW)∧((O.length:Int)≤200)∧(af bn O)) ?_ ?_)
 ·exact PL F
 rintro VE B⟨uW,O,Gj,hV,hB,zJ,fj22_1,Qx⟩;refine aU _ _ hV hB (rc 5 aa ?_);refine cE aa ?_ ?_<;>intro h57
 ·exact W
 refine aA 5 aa (aQ aa zJ ?_);refine ro 2 aa ?_;refine br aa ?_ ?_<;>intro h58
 ·exact W
 refine ro 1 aa (bM aa aa (aQ aa zJ ?_));refine ro 3 aa ?_;refine ay aa ?_ ?_<;>intro h59
 ·exact W
 refine eA 8 aa ?_;exact bL rfl rfl ⟨uW,O,0,rfl,zJ,ae,Qx,⟨ae,ae,(by first|(intro hb;exfalso;omega)|(intro hb;exact⟨tn.mk (by assumption) (by assumption),ae⟩))⟩⟩
theorem columnsC{T:aM}(F:FT T){a0 a1 a3:DC}{bW:ai}(cM:au bW a0)(cT:bW.length≤40)(bN:af j' bW){bJ:ai}(cO:au bJ a1)(dn:bJ.length≤200)(cq:af ey bJ){bz:Int}(pY:0≤bz)(nh:bz≤(bW.length:Int) -1){du:ai}(eS:au du a3)(fI:du.length≤16)(et:af yF du){dK:ai}(dg:af Uz dK)(EA:bz≤(dK.length:Int)):bY T 228 [.agg [.d a0,.d a1],.d (dJ bz),.d a3,.bs 1005 dK.length 1] [(1005,.arr 36 24 1 dK.length dK)] fun r B=>∃y0 bw y2,r= .tuple [.d y0,.d (dJ y2)]∧B=[(1005,.arr 36 24 1 dK.length dK)]∧au bw y0∧(bw.length:Int)≤64∧af bn bw∧((-9223372036854775808)≤y2∧y2≤9223372036854775807∧(y2=0→tn bW bz∧1≤bw.length)):=by
 refine ij F.ajF aa (r0 11 aa ?_);obtain⟨_,⟨A1,rfl,LU,LV⟩,_,⟨DZ,rfl,SY,SZ⟩,_,⟨tM,rfl,S0,S1⟩,W2,ah1,_,⟨sx1_4,rfl,hsx1_4⟩,I',⟨vC,G5,Tj,TL⟩,WS,⟨D0,G6,hnx1_6,TN⟩,qd⟩:=qI bz bN;refine aw (aH aa aa cM ae qd aa ?_);refine ro 7 aa (rp 4 aa ?_);refine br aa ?_ ?_<;>intro h2
 ·exact W
 refine ro 5 aa ?_;refine ay aa ?_ ?_<;>intro h3
 ·exact W
 refine rc 1 aa (dM [42,10,9,8,4,3,2,1,0] [1005,10,4] aa aa (fun e0 b0 VE B=>an e0 VE∧an b0 B∧((A1≠1→0≤DZ∧DZ<bz)∧((4≤A1∧A1≤8)→0≤tM∧tM<bz))) ?_ ?_)
 ·refine rc 6 aa ?_;refine br aa ?_ ?_<;>intro g4
  ·refine ro 4 aa ?_;refine br aa ?_ ?_<;>intro h5
   ·exact W
   refine ro 7 aa ?_;refine br aa ?_ ?_<;>intro h6
   ·exact W
   refine ro 2 aa (bM aa aa (aB aa (BT (aJ:=A1) F ae ae) ?_));rintro _ _⟨wa,rfl,sa⟩;refine ro 1 aa ?_;refine br aa ?_ ?_<;>intro h8
   ·have k8:=sa.1 (by simpa using h8);exact W
   have k8:¬_:=fun p=>absurd (sa.2 p) (by simpa using h8)
   exact W
  refine ro 4 aa (fS aa (fS aa (fS aa (fS aa (ro 5 aa (bM aa aa (aB aa (BT (aJ:=A1) F ae ae) ?_)))))));rintro _ _⟨nE,rfl,rQ⟩;refine ro 1 aa ?_;refine br aa ?_ ?_<;>intro oc
  ·have YP:=rQ.1 (by simpa using oc);exact W
  have YP:¬_:=fun p=>absurd (rQ.2 p) (by simpa using oc)
  exact W
 rintro VE B⟨hV,hB,ahy⟩;refine aU _ _ hV hB (rc 7 aa (dM [42,12,10,9,8,4,3,2,1,0] [1005,10,4] aa aa (fun e0 b0 VE B=>∃Ay A Az uT AA uU,an ((11,.d Ay)::(13,.d Az)::(14,.d AA)::e0) VE∧an b0 B∧(au A Ay)∧((A.length:Int)≤64)∧(af bn A)∧(au uT Az)∧((uT.length:Int)≤64)∧(af bn uT)∧(au uU AA)∧((uU.length:Int)≤200)∧(af bn uU)) ?_ ?_))
 ·refine rc 6 aa ?_;refine ay aa ?_ ?_<;>intro uy
  ·refine rc 6 aa (bj [75,42,14,13,12,11,10,9,8,4,3,2,1,0] [1005,10,4] aa aa (fun e0 b0 k VE B=>∃fZ,an ((15,.d (dJ fZ))::e0) VE∧an b0 B∧d9 k 0 fZ (du.length:Int)) ?_ fin);rintro _ VE B⟨fZ,hV,hB,rfl,bU⟩;refine aU _ _ hV hB (rc 5 aa (aV (aQ aa eS ?_)));refine rq 2 aa ?_;refine dL aa ?_ ?_<;>intro o5
   ·refine rq 2 aa ?_;obtain⟨_,⟨sx17_0,rfl,hsx17_0⟩,ye,GM,jA⟩:=qI fZ et;refine cl aa aa (aH aa aa eS ae jA aa ?_);refine rq 4 aa (cl aa aa (kE aa aa ?_));exact rq 1 aa (W)
   exact rq 9 aa (W)
  refine rc 5 aa ?_;obtain⟨j23,Jk,wz⟩:=bD (z:=DZ) (n:=dK.length) ae ae;obtain⟨ah9,⟨wx23_0,hdx23_0,hnx23_0,hrx23_0⟩,v7⟩:=qN wz dg;refine aw (eL rfl (by rw[←Jk];rfl) wz ?_);refine aw (jG (rows:=dK) aa aa (bf _) (bf _) wz v7 aa ?_);exact ro 8 aa (fin)
 rintro VE B⟨Ay,A,Az,uT,AA,uU,hV,hB,FG,fj2_1,FH,hdv13_j2,fj2_4,hrv13_j2,hdv14_j2,fj2_7,hrv14_j2⟩;refine aU _ _ hV hB (dM [42,14,13,11,10,9,8,4,3,2,1,0] [1005,10,4] aa aa (fun e0 b0 VE B=>∃AB M,an ((12,.d AB)::e0) VE∧an b0 B∧(au M AB)∧((M.length:Int)≤64)∧(af bn M)) ?_ ?_)
 ·refine aA 4 aa (aB aa (BT (aJ:=A1) F ae ae) ?_);rintro _ _⟨Ie,rfl,TB⟩;refine ro 1 aa ?_;refine cE aa ?_ ?_<;>intro Py
  ·have k25:=TB.1 (by simpa using Py);refine rc 4 aa ?_;obtain⟨zy,BP,yR⟩:=bD (z:=tM) (n:=dK.length) ae ae;obtain⟨x26_0,⟨wx26_0,hdx26_0,hnx26_0,hrx26_0⟩,yU⟩:=qN yR dg;refine aw (eL rfl (by rw[←BP];rfl) yR ?_);refine aw (jG (rows:=dK) aa aa (bf _) (bf _) yR yU aa ?_);exact ro 2 aa (fin)
  have k25:¬_:=fun p=>absurd (TB.2 p) (by simpa using Py)
  exact W
 rintro VE B⟨AB,M,hV,hB,FI,ahC,FJ⟩;refine aU _ _ hV hB (dM [42,12,11,10,9,8,4,3,2,1,0] [1005,10,4] aa aa (fun e0 b0 VE B=>∃AD oq AE uV,an ((13,.d AD)::(14,.d AE)::e0) VE∧an b0 B∧(au oq AD)∧((oq.length:Int)≤200)∧(af bn oq)∧(au uV AE)∧((uV.length:Int)≤200)∧(af bn uV)) ?_ ?_)
 ·refine rc 6 aa ?_;refine br aa ?_ ?_<;>intro g27
  ·refine ro 5 aa (eu aa aa (aA 3 aa (eb (ys:=A) 125 aa aa aa aa aa (.sD FG (cD FH aa)) ao ae ?_)));refine ro 1 aa ?_;refine aw (aY (rows:=A) (ys:=M) rfl rfl rfl (.sD FI (cD FJ rfl)) ao ae (fun h=>by rw[h];rfl) (fun h=>by rw[h];rfl) ?_);exact ro 2 aa (cA 13 125 aa aa (fun _=>⟨aa,aa⟩) (W))
  refine ro 5 aa ?_;refine ay aa ?_ ?_<;>intro PF
  ·refine aA 3 aa (eb (ys:=A) 125 aa aa aa aa aa (.sD FG (cD FH aa)) ao ae ?_);refine ro 1 aa ?_;refine aw (aY (rows:=A) (ys:=M) rfl rfl rfl (.sD FI (cD FJ rfl)) ao ae (fun h=>by rw[h];rfl) (fun h=>by rw[h];rfl) ?_);exact ro 2 aa (cA 13 125 aa aa (fun _=>⟨aa,aa⟩) (W))
  exact W
 rintro VE B⟨AD,oq,AE,uV,hV,hB,uP,aim,xh,hdv14_j7,fj7_4,hrv14_j7⟩;refine aU _ _ hV hB (rc 4 aa (dM [42,14,13,12,11,10,9,8,4,3,2,1,0] [1005,10,4] aa aa (fun e0 b0 VE B=>∃Df,an ((16,dB Df)::e0) VE∧an b0 B) ?_ ?_))
 ·exact PL F
 rintro VE B⟨Df,hV,hB⟩;refine aU _ _ hV hB (rc 4 aa (dP 19 90 3 8 1 aa aa (dM [42,16,14,13,12,11,10,9,8,4,3,2,1,0] [1005,10,4] aa aa (fun e0 b0 VE B=>∃U,an ((19,.ac 90 U.length 1)::e0) VE∧an ((90,.acc 3 8 1 U)::b0) B∧((U.length:Int)≤64)∧(af bn U)) ?_ ?_)))
 ·refine aA 4 aa (aB aa (PK F ak) ?_);rintro _ _⟨_,rfl,by34_0,rfl⟩;refine ro 1 aa ?_;refine cE aa ?_ ?_<;>intro h35
  ·refine rc 2 aa (iD 2 aa (aQ aa G5 ?_));refine ro 3 aa (bj [155,154,152,42,16,14,13,12,11,10,9,8,4,3,2,1,0] [1005,10,4] aa aa (fun e0 b0 k VE B=>∃G pD,an ((19,.ac 90 pD.length 1)::(156,.d (dJ G))::e0) VE∧an ((90,.acc 3 8 1 pD)::b0) B∧k=((vC.length:Int) -G).toNat∧(0≤G∧(G≤(vC.length:Int)∨G=0))∧((pD.length:Int)≤G)∧(af bn pD)) ?_ fin);rintro _ VE B⟨G,pD,hV,hB,rfl,fu,gL,adJ⟩;refine aU _ _ hV hB (rc 5 aa ?_);refine ay aa ?_ ?_<;>intro g36
   ·refine rc 5 aa ?_;obtain⟨x37_0,hx37_0,Xm⟩:=qI G TL;refine aw (aH aa aa G5 ae Xm aa ?_);refine aN 9 aa (aB aa (C4 F cO ae cq hx37_0 uP ae xh) ?_);rintro _ _⟨_,_,rfl,⟨af7,rfl,hzy38_0,kzy38_0⟩,zy38_1,rfl,hzy38_1,kzy38_1⟩;refine ro 9 aa (rp 3 aa ?_);refine ay aa ?_ ?_<;>intro h39
    ·exact W
    refine rc 2 aa (rp 3 aa ?_);refine aw (aY (rows:=pD) (ys:=[[(dJ af7)]]) rfl rfl rfl (.bs (rows:=[[(dJ af7)]]) rfl) ao ae (fun h=>by rw[h];rfl) (fun h=>by rw[h];rfl) ?_);exact W
   exact W
  exact W
 rintro VE B⟨U,hV,hB,fj10_0,aaB⟩;refine aU _ _ hV hB (dM [42,14,13,12,11,10,9,8,4,3,2,1,0] [1005,10,4] aa aa (fun e0 b0 VE B=>∃Gi Y,an ((16,dB Gi)::(19,.ac 90 Y.length 1)::e0) VE∧an ((90,.acc 3 8 1 Y)::b0) B∧((Y.length:Int)≤128)∧(af bn Y)) ?_ ?_)
 ·refine rc 6 aa ?_;refine ay aa ?_ ?_<;>intro Yq
  ·refine rc 2 aa (iD 2 aa (aQ aa G6 ?_));refine ro 3 aa (bj [181,180,178,42,14,13,12,11,10,9,8,4,3,2,1,0] [1005,10,4] aa aa (fun e0 b0 k VE B=>∃Il I L,an ((16,dB Il)::(19,.ac 90 L.length 1)::(182,.d (dJ I))::e0) VE∧an ((90,.acc 3 8 1 L)::b0) B∧k=((D0.length:Int) -I).toNat∧(0≤I∧(I≤(D0.length:Int)∨I=0))∧((L.length:Int)≤64+I)∧(af bn L)) ?_ fin);rintro _ VE B⟨Il,I,L,hV,hB,rfl,na,vW,hrw19_2⟩;refine aU _ _ hV hB (rc 5 aa ?_);refine ay aa ?_ ?_<;>intro g41
   ·refine rc 5 aa ?_;obtain⟨_,⟨Dg,rfl,adK,adL⟩,x42_1,hx42_1,Js⟩:=qI I TN;refine aw (aH aa aa G6 ae Js aa ?_);refine ro 7 aa (rp 4 aa ?_);refine br aa ?_ ?_<;>intro h43
    ·exact W
    refine ro 5 aa ?_;refine ay aa ?_ ?_<;>intro h44
    ·exact W
    refine rc 8 aa ?_;refine ay aa ?_ ?_<;>intro Ya
    ·refine rc 4 aa ?_;refine aw (aY (rows:=L) (ys:=[[(dJ 1)]]) rfl rfl rfl (.bs (rows:=[[(dJ 1)]]) rfl) ao ae (fun h=>by rw[h];rfl) (fun h=>by rw[h];rfl) ?_);exact W
    refine aA 8 aa (aB aa (C4 F cO ae cq hx42_1 uP ae xh) ?_);rintro _ _⟨_,_,rfl,⟨af8,rfl,hzy46_0,kzy46_0⟩,zy46_1,rfl,hzy46_1,kzy46_1⟩;refine ro 9 aa (rp 3 aa ?_);refine ay aa ?_ ?_<;>intro Pz
    ·exact W
    refine rc 8 aa ?_;refine ay aa ?_ ?_<;>intro g48
    ·refine rc 4 aa ?_;refine br aa ?_ ?_<;>intro h49
     ·refine ro 3 aa (fS aa (fS aa (ro 11 aa ?_)));refine aw (aY (rows:=L) (ys:=[[(dJ 1)]]) rfl rfl rfl (.bs (rows:=[[(dJ 1)]]) rfl) ao ae (fun h=>by rw[h];rfl) (fun h=>by rw[h];rfl) ?_);exact W
     refine ro 1 aa (rp 2 aa ?_);refine br aa ?_ ?_<;>intro Yb
     ·refine ro 13 aa ?_;refine aw (aY (rows:=L) (ys:=[[(dJ 1)]]) rfl rfl rfl (.bs (rows:=[[(dJ 1)]]) rfl) ao ae (fun h=>by rw[h];rfl) (fun h=>by rw[h];rfl) ?_);exact W
     refine ro 13 aa ?_;refine aw (aY (rows:=L) (ys:=[[(dJ 1)]]) rfl rfl rfl (.bs (rows:=[[(dJ 1)]]) rfl) ao ae (fun h=>by rw[h];rfl) (fun h=>by rw[h];rfl) ?_);exact W
    refine rc 2 aa (rp 3 aa ?_);refine aw (aY (rows:=L) (ys:=[[(dJ af8)]]) rfl rfl rfl (.bs (rows:=[[(dJ af8)]]) rfl) ao ae (fun h=>by rw[h];rfl) (fun h=>by rw[h];rfl) ?_);exact W
   exact W
  exact W
 rintro VE B⟨Gi,Y,hV,hB,fj14_0,hrw19_j14⟩;refine aU _ _ hV hB (dM [42,16,13,12,11,10,9,8,4,3,2,1,0] [1005,10,4] aa aa (fun e0 b0 VE B=>∃Aa Z,an ((14,.d Aa)::e0) VE∧an b0 B∧(au Z Aa)∧((Z.length:Int)≤200)∧(af bn Z)) ?_ ?_)
 ·refine aA 4 aa (aB aa (PK F ak) ?_);rintro _ _⟨_,rfl,by51_0,rfl⟩;refine ro 1 aa ?_;refine cE aa ?_ ?_<;>intro h52
  ·exact cA 19 90 aa aa (fun _=>⟨aa,aa⟩) (W)
  exact W
 rintro VE B⟨Aa,Z,hV,hB,hdv14_j21,fj21_1,hrv14_j21⟩;refine aU _ _ hV hB (dM [42,13,12,11,10,9,8,4,3,2,1,0] [1005,10,4] aa aa (fun e0 b0 VE B=>∃uW O Gj,an ((14,.d uW)::(16,dB Gj)::e0) VE∧an b0 B∧(au O uW)∧((O.length:Int)≤200)∧(af bn O)) ?_ ?_)
 ·exact PL F
 rintro VE B⟨uW,O,Gj,hV,hB,zJ,fj22_1,Qx⟩;refine aU _ _ hV hB (rc 5 aa ?_);refine cE aa ?_ ?_<;>intro h59
 ·exact W
 refine aA 5 aa (aQ aa zJ ?_);refine ro 2 aa ?_;refine br aa ?_ ?_<;>intro h60
 ·exact W
 refine ro 1 aa (bM aa aa (aQ aa zJ ?_));refine ro 3 aa ?_;refine ay aa ?_ ?_<;>intro h61
 ·exact W
 refine rc 8 aa ?_;exact⟨_,[(1005,.arr 36 24 1 dK.length dK)],rfl,⟨rfl,trivial⟩,⟨uW,O,0,rfl,rfl,zJ,ae,Qx,⟨ae,ae,(by first|(intro hb;exfalso;omega)|(intro hb;exact⟨tn.mk (by assumption) (by assumption),ae⟩))⟩⟩⟩
end Go.Ev.Rp
namespace Go.Ev.Rp
open Go Go.Ev.Pp
attribute [local irreducible] VC VO VQ VI Sound bY
theorem abr{T:aM}(F:FT T){a0 a1 a2:DC}{G:ai}(L:au G a0)(cT:G.length≤1000)(bN:af j' G){bJ:ai}(M:au bJ a1)(dn:bJ.length≤1000)(cq:af ey bJ){bo:ai}(ct:au bo a2)(df:bo.length≤16)(bQ:af yF bo):Sound T 171 [.agg [.d a0,.d a1],.d a2] fun r=>∃y0 Z y2,r= .tuple [.d y0,.d (dJ y2)]∧au Z y0∧(Z.length:Int)≤40∧af Uz Z∧((-9223372036854775808)≤y2∧y2≤9223372036854775807∧(y2=0→1≤G.length∧G.length≤40∧(Z.length:Int)=G.length∧mH G G.length)):=by
 refine bm F.q171 aa (ch 11 aa (aQ aa L ?_));refine ro 2 aa ?_;refine br aa ?_ ?_<;>intro h1
 ·exact W
 refine ro 2 aa (bM aa aa (aQ aa L ?_));refine ro 3 aa ?_;refine br aa ?_ ?_<;>intro h2
 ·exact W
 refine ro 2 aa (bM aa aa (aQ aa M ?_));refine ro 3 aa ?_;refine ay aa ?_ ?_<;>intro h3
 ·exact W
 refine rc 11 aa (dP 6 90 36 24 1 aa aa (bj [25,5,4,2,1,0] [2] aa aa (fun e0 b0 k VE B=>∃A z,an ((6,.ac 90 z.length 1)::(7,.d (dJ A))::e0) VE∧an ((90,.acc 36 24 1 z)::b0) B∧k=((G.length:Int) -A).toNat∧(0≤A∧(A≤(G.length:Int)∨A=0))∧((z.length:Int)≤A)∧(af Uz z)∧((z.length:Int)=A)∧(mH G A)) ?_ fin));rintro _ VE B⟨A,z,hV,hB,rfl,bU,cS,I,mh,vZ⟩;refine aU _ _ hV hB (aA 6 aa (aQ aa L ?_));refine ro 2 aa ?_;refine ay aa ?_ ?_<;>intro g4
 ·refine rc 9 aa ?_;rcases Vw (z=[]) with O|O
  ·have Fb:z.length=0:=by rw[O];rfl
   refine rO 37 (dN) rfl (fun H X β a _ h=>Sk (by rw[Fb] at h;exact h)) ?_;refine aw (aB aa (columnsN (bz:=A) F L ae bN M ae cq ae ae ct ae bQ ae) ?_);rintro _ _⟨U,qK,pO,rfl,oy,xB,nA,ly6_2,uy6_2,DT⟩;refine ro 1 aa ?_;skip;refine rp 11 aa ?_;refine ay aa ?_ ?_<;>intro h7
   ·exact W
   refine aA 5 aa (aY (rows:=z) (ys:=[[U]]) aa aa aa (.bs (rows:=[[U]]) aa) ao ae bR bR ?_);refine aN 4 aa (bx aa aa ae ae ?_);refine cL 2 aa ?_;exact⟨((G.length:Int) -((A+1))).toNat,ae,(A+1),(z++[[U]]),⟨rfl,rfl,rfl,rfl,rfl,rfl,rfl,rfl,trivial⟩,⟨rfl,rfl,trivial⟩,rfl,ae,cR,(dW I (dG (ah (aL oy ae nA) bl))),(by first|rfl|(simp only[eT,gF,jK];omega)),(by first|exact ZN|exact mH.succ (by assumption) (And.left ((by assumption:_=(0:Int)→tn _ _∧_) al)))⟩
  have Fb:0<z.length:=List.length_pos_iff.2 O;refine rO 37 (.bs 90 z.length 1) aa (fun H X β a _ h=>ac_bs Fb h) (vo_accArr 90 aa O (aw (kD (di:=[.agg [.d a0,.d a1],.d (dJ A),.d a2,.bs 1005 (z.length) 1]) (Bi:=[(1005,.arr 36 24 1 (z.length) z)]) [(1005,90)] 2000 aa aa aa aa aa aa aa ⟨aa,aa,trivial⟩ (columnsC (bz:=A) F L ae bN M ae cq ae ae ct ae bQ I ae) ?_)));rintro _ _⟨Y,wy8_0,akA,rfl,rfl,afs,hny8_0,aft,ly8_2,uy8_2,hy8_2⟩;refine ro 1 aa (aar 90 aa O (ro 11 aa ?_));refine ay aa ?_ ?_<;>intro h9
  ·exact W
  refine aA 5 aa (aY (rows:=z) (ys:=[[Y]]) aa aa aa (.bs (rows:=[[Y]]) aa) ao ae bR bR ?_);refine aN 4 aa (bx aa aa ae ae ?_);refine cL 2 aa ?_;exact⟨((G.length:Int) -((A+1))).toNat,ae,(A+1),(z++[[Y]]),⟨rfl,rfl,rfl,rfl,rfl,rfl,rfl,rfl,trivial⟩,⟨rfl,rfl,trivial⟩,rfl,ae,cR,(dW I (dG (ah (aL afs ae aft) bl))),(by first|rfl|(simp only[eT,gF,jK];omega)),(by first|exact ZN|exact mH.succ (by assumption) (And.left ((by assumption:_=(0:Int)→tn _ _∧_) al)))⟩
 refine rc 7 aa (cA 4 90 aa aa (fun _=>⟨aa,aa⟩) (eA 1 aa ?_));exact bL rfl rfl ⟨(.cF z),z,0,rfl,(.acc _),ae,I,⟨ae,ae,(by first|(intro hb;exfalso;omega)|(intro hb;exact⟨ae,ae,ae,mH.all (by assumption) ae⟩))⟩⟩
theorem CheckQ{T:aM}(F:FT T){a0 a1 a2:DC}{A:ai}(O:au A a0)(cT:A.length≤1000)(U:af j' A){G:ai}(Y:au G a1)(dn:G.length≤1000)(Z:af ey G){I:ai}(ct:au I a2)(df:I.length≤16)(bQ:af yF I):Sound T 168 [.agg [.d a0,.d a1],.d a2] fun r=>∃y0 L y2,r= .tuple [.d y0,.d y2]∧au L y0∧(L.length:Int)≤64∧af bn L∧tJ.ok y2:=by
 refine bm F.q168 aa (ch 10 aa (aB aa (abr F O ae U Y ae Z ct ae bQ) ?_));rintro _ _⟨dD,fg,t8,rfl,z,kI,fT,ly1_2,uy1_2,M⟩;refine ro 12 aa ?_;refine ay aa ?_ ?_<;>intro h2
 ·exact W
 refine aA 5 aa (aQ aa z ?_);refine aw (dQ aa aa ae ae ?_);have kf:=M ae;exact W
end Go.Ev.Rp
