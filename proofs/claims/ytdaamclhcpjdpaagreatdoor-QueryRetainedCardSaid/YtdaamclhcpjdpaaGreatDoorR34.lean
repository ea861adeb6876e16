/- Part 34 of rules for walks through the code of a program, and of such walks; what each part proves is said by its theorems. -/
import Derived.Test.YtdaamclhcpjdpaaGreatDoorR21
import Derived.Test.YtdaamclhcpjdpaaGreatDoorR22
import Derived.Test.YtdaamclhcpjdpaaGreatDoorR23
import Derived.Test.YtdaamclhcpjdpaaGreatDoorR25
import Derived.Test.YtdaamclhcpjdpaaGreatDoorR29
import Derived.Test.YtdaamclhcpjdpaaGreatDoorR30
import Derived.Test.YtdaamclhcpjdpaaGreatDoorR31
import Derived.Test.YtdaamclhcpjdpaaGreatDoorR32
import Derived.Test.YtdaamclhcpjdpaaGreatDoorR33
set_option linter.unusedVariables false
set_option linter.unusedSimpArgs false
noncomputable section
set_option maxRecDepth 100000
set_option maxHeartbeats 4000000
namespace Go.Ev.Rp
open Go Go.Ev.Pp
attribute [local irreducible] VC VO VQ VI Sound cm
theorem ab9{T:aN}(F:FT T){a2 a3 M:DC}{A:ak}(G:af my A)(cK:(A.length:Int)≤100000000000){aJ:Int}(kJ:0≤aJ)(kK:aJ≤100000000000)(cG:tJ.ok a2)(cn:tJ.ok a3){O:ak}(Z:aA O M)(fu:O.length≤1000000000)(dg:af br O):cm T 155 [.ac 1050 A.length 3,.d (dJ aJ),.agg [.d a2,.d a3],.d M] [(1050,.acc 389 40 3 A)] fun r B=>∃wr:ak,r= .ac 1050 wr.length 3∧B=[(1050,.acc 389 40 3 wr)]∧af my wr∧(wr.length:Int)≤A.length+1:=by
 refine kM F.aiv aa ?_;rcases cG,cn with⟨⟨bf,rfl,lJ,lK⟩,⟨aW,rfl,mA,mB⟩⟩
 refine bY 9 aa (dq aa aa ae ae ?_);refine ro 9 aa ?_;refine dw aa ?_ ?_<;>intro g1
 ·refine rq 2 aa ?_;obtain⟨j2,sP,pR⟩:=bz (z:=((A.length:Int) -1)) (n:=A.length) ae ae;obtain⟨gW,iG,_,⟨lz,rfl,oU,l9⟩,gb,iS,bQ⟩:=qN pR G;refine ca rfl rfl (cX rfl (by rw[←sP];rfl) pR ?_);refine rq 2 aa (eL aa aa aa (eX (rows:=A) aa aa bQ aa ?_));refine rq 2 aa (rp 3 aa ?_);refine dw aa ?_ ?_<;>intro g3
  ·refine rq 2 aa ?_;obtain⟨j4,pM,nA⟩:=bz (z:=((A.length:Int) -1)) (n:=A.length) ae ae;obtain⟨pw,kQ,fo,mh,sg,⟨agK,I,aeg,L⟩,cY⟩:=qN nA G;refine ca rfl rfl (cX rfl (by rw[←pM];rfl) nA ?_);refine rq 1 aa (eL aa aa aa (eX (rows:=A) aa aa cY aa ?_));refine rq 1 aa (eL aa aa aa (ay aa (afQ F I ae L Z ae dg) ?_));rintro _ _⟨_,rfl,MW,rfl⟩;refine rq 2 aa ?_;refine cH aa ?_ ?_<;>intro h6
   ·refine rc 6 aa ?_;obtain⟨j7,jv,fR⟩:=bz (z:=((A.length:Int) -1)) (n:=A.length) ae ae;obtain⟨nf,U,oh,rL,Bv,Y,eV⟩:=qN fR G;refine ax (cX rfl (by rw[←jv];rfl) fR ?_);refine ro 2 aa (jV (fZ aa aa aa aa aa aa ao ao eV (fun w8 wB uu=>?_)));have wA:af my w8:=by rw[wB];exact e8 G (aj U (aj ai (aj Y bg)))
    rw[←uu];exact W
   refine aB 8 aa (aX (rows:=A) (ys:=[[(dJ bf),(dJ aW),M]]) aa aa aa (.bs (rows:=[[(dJ bf),(dJ aW),M]]) aa) ao ae bN bN ?_);exact W
  refine rq 9 aa (eo aa aa (aB 8 aa (aX (rows:=A) (ys:=[[(dJ bf),(dJ aW),M]]) aa aa aa (.bs (rows:=[[(dJ bf),(dJ aW),M]]) aa) ao ae bN bN ?_)));exact W
 refine rq 20 aa (eo aa aa (aB 8 aa (aX (rows:=A) (ys:=[[(dJ bf),(dJ aW),M]]) aa aa aa (.bs (rows:=[[(dJ bf),(dJ aW),M]]) aa) ao ae bN bN ?_)));exact W
theorem aca{T:aN}(F:FT T){a2 a3 M:DC}{A:ak}(G:af my A)(cK:(A.length:Int)≤100000000000)(N5:1≤(A.length:Int)){aJ:Int}(kJ:0≤aJ)(kK:aJ≤100000000000)(cG:tJ.ok a2)(cn:tJ.ok a3){O:ak}(Z:aA O M)(fu:O.length≤1000000000)(dg:af br O):cm T 155 [.ac 1001 A.length 3,.d (dJ aJ),.agg [.d a2,.d a3],.d M] [(1001,.acc 389 40 3 A)] fun r B=>∃wr:ak,r= .ac 1001 wr.length 3∧B=[(1001,.acc 389 40 3 wr)]∧af my wr∧(wr.length:Int)≤A.length+1:=by
 refine kM F.aiv aa ?_;rcases cG,cn with⟨⟨bf,rfl,lJ,lK⟩,⟨aW,rfl,mA,mB⟩⟩
 refine bY 9 aa (dq aa aa ae ae ?_);refine ro 9 aa ?_;refine dw aa ?_ ?_<;>intro g1
 ·refine rq 2 aa ?_;obtain⟨j2,sP,pR⟩:=bz (z:=((A.length:Int) -1)) (n:=A.length) ae ae;obtain⟨gW,iG,_,⟨lz,rfl,oU,l9⟩,gb,iS,bQ⟩:=qN pR G;refine ca rfl rfl (cX rfl (by rw[←sP];rfl) pR ?_);refine rq 2 aa (eL aa aa aa (eX (rows:=A) aa aa bQ aa ?_));refine rq 2 aa (rp 3 aa ?_);refine dw aa ?_ ?_<;>intro g3
  ·refine rq 2 aa ?_;obtain⟨j4,pM,nA⟩:=bz (z:=((A.length:Int) -1)) (n:=A.length) ae ae;obtain⟨pw,kQ,fo,mh,sg,⟨agK,I,aeg,L⟩,cY⟩:=qN nA G;refine ca rfl rfl (cX rfl (by rw[←pM];rfl) nA ?_);refine rq 1 aa (eL aa aa aa (eX (rows:=A) aa aa cY aa ?_));refine rq 1 aa (eL aa aa aa (ay aa (afQ F I ae L Z ae dg) ?_));rintro _ _⟨_,rfl,MW,rfl⟩;refine rq 2 aa ?_;refine cH aa ?_ ?_<;>intro h6
   ·refine rc 6 aa ?_;obtain⟨j7,jv,fR⟩:=bz (z:=((A.length:Int) -1)) (n:=A.length) ae ae;obtain⟨nf,U,oh,rL,Bv,Y,eV⟩:=qN fR G;refine ax (cX rfl (by rw[←jv];rfl) fR ?_);refine ro 2 aa (jV (fZ aa aa aa aa aa aa ao ao eV (fun w8 wB uu=>?_)));have wA:af my w8:=by rw[wB];exact e8 G (aj U (aj ai (aj Y bg)))
    rw[←uu];exact W
   refine aB 8 aa (aX (rows:=A) (ys:=[[(dJ bf),(dJ aW),M]]) aa aa aa (.bs (rows:=[[(dJ bf),(dJ aW),M]]) aa) ao ae bN bN ?_);exact W
  refine rq 9 aa (eo aa aa (aB 8 aa (aX (rows:=A) (ys:=[[(dJ bf),(dJ aW),M]]) aa aa aa (.bs (rows:=[[(dJ bf),(dJ aW),M]]) aa) ao ae bN bN ?_)));exact W
 refine rq 20 aa (eo aa aa (aB 8 aa (aX (rows:=A) (ys:=[[(dJ bf),(dJ aW),M]]) aa aa aa (.bs (rows:=[[(dJ bf),(dJ aW),M]]) aa) ao ae bN bN ?_)));exact W
theorem acb{T:aN}(F:FT T){a0 a1:DC}{bP:ak}(cr:aA bP a0)(cK:bP.length≤100000)(bM:af jr bP){bL:ak}(cN:aA bL a1)(df:bL.length≤1000000000)(cb:af br bL):Sound T 84 [.d a0,.d a1] fun r=>∃y0 bu,r= .d y0∧aA bu y0∧(bu.length:Int)≤100000000000∧af my bu:=by
 refine bj F.q84 aa (bY 12 aa (ay aa (Rh F cr ae bM cN ae cb) ?_));rintro _ _⟨ez,M,rfl,U,jE,fy,lu,mT⟩;refine ro 8 aa (dh 5 90 389 40 3 aa aa (bd [6,4,1,0] [] aa aa (fun e0 b0 k VE B=>∃G I,an ((5,.ac 90 I.length 3)::(7,.d (dJ G))::e0) VE∧an ((90,.acc 389 40 3 I)::b0) B∧k=((M.length:Int) -G).toNat∧(0≤G∧(G≤(M.length:Int)∨G=0))∧((I.length:Int)≤G*200000)∧(af my I)) ?_ (k:=((M.length:Int) -0).toNat) ⟨0,[],⟨aa,aa,aa,aa,aa,aa,trivial⟩,⟨aa,trivial⟩,aa,ae,cJ,bT⟩));rintro _ VE B⟨G,I,hV,hB,rfl,bS,cM,nO⟩;refine aU _ _ hV hB (aB 5 aa (aO aa U ?_));refine ro 2 aa ?_;refine au aa ?_ ?_<;>intro g2
 ·refine rc 15 aa ?_;obtain⟨pz,⟨Iu,xw,G7,xx⟩,ud,tE,fD⟩:=qI G fy;refine ax (aI aa aa U ae fD aa ?_);refine aK 2 aa (ay aa (Pe F cr ae bM cN ae cb xw ae xx) ?_);rintro _ _⟨fJ,jH,rfl,Y,th,Z,xn,C6⟩;refine aK 5 aa (ay aa (ad2 F Y ae Z) ?_);rintro _ _⟨gV,gR,rfl,L,qf,jl,rD,qg⟩;refine ro 7 aa (bd [20,10,9,8,7,6,4,1,0] [] aa aa (fun e0 b0 k VE B=>∃z A,an ((5,.ac 90 A.length 3)::(11,.d (dJ z))::e0) VE∧an ((90,.acc 389 40 3 A)::b0) B∧k=((((gR.length:Int) -1):Int) -z).toNat∧(0≤z∧(z≤((gR.length:Int) -1)∨z=0))∧((A.length:Int)≤G*200000+z)∧(af my A)) ?_ fin);rintro _ VE B⟨z,A,hV,hB,rfl,eU,fO,GM⟩;refine aU _ _ hV hB (aB 4 aa (bC aa aa ae ae ?_));refine aK 1 aa (aO aa L ?_);refine ro 2 aa ?_;refine au aa ?_ ?_<;>intro g6
  ·refine rc 8 aa ?_;obtain⟨nf,O,eV⟩:=qI z jl;refine ax (aI aa aa L ae eV aa ?_);refine aK 1 aa (ay aa (T' F Y ae Z O) ?_);rintro _ _⟨_,JD,wy8_1,rfl,⟨zy8_0,rfl,hzy8_0,kzy8_0⟩,SS,hny8_1,SU,hmy8_1,hey8_1⟩;refine ro 8 aa (rp 3 aa ?_);refine au aa ?_ ?_<;>intro g9
   ·refine rc 5 aa (aR (aI aa aa L ae eV aa ?_));refine cD aa aa (dx aa aa ?_);refine cZ 2 aa (bC aa aa ae ae ?_);obtain⟨n5,ql,gY⟩:=qI (z+1) jl;refine aR (aI aa aa L ae gY aa ?_);refine cD aa aa (dx aa aa ?_);refine rq 2 aa ?_
    by_cases ajx:A=[]
    ·refine aP rfl (mM (dj:=[.ac 1050 A.length 3,.d (dJ (I.length:Int)),.agg [.d nf,.d n5],.d JD]) (Bi:=[(1050,.acc 389 40 3 A)]) [(1050,90)] 2000 rfl rfl rfl rfl rfl (by rw[ajx];rfl) rfl ⟨rfl,rfl,trivial⟩ (ab9 (aJ:=(I.length:Int)) F GM ae ae ae O ql SS ae SU) ?_);rintro _ _⟨OX,rfl,rfl,I3,hn12⟩;exact W
    refine aP aa (mM (dj:=[.ac 1001 A.length 3,.d (dJ (I.length:Int)),.agg [.d nf,.d n5],.d JD]) (Bi:=[(1001,.acc 389 40 3 A)]) [(1001,90)] 2000 aa aa aa aa aa aa aa ⟨aa,aa,trivial⟩ (aca (aJ:=(I.length:Int)) F GM ae (Int.ofNat_le.2 (List.length_pos_iff.2 ajx)) ae ae O ql SS ae SU) ?_);rintro _ _⟨Ff,rfl,rfl,yG,hn13⟩;exact W
   exact W
  exact W
 exact rc 6 aa (cf 4 90 aa aa (fun _=>⟨aa,aa⟩) (W))
theorem aeK{T:aN}(F:FT T){a0 a1 a2 a3:DC}{bP:ak}(cr:aA bP a0)(cK:bP.length≤100000)(bM:af jr bP){bL:ak}(cN:aA bL a1)(df:bL.length≤100000)(cb:af jr bL){bt:ak}(cF:aA bt a2)(dc:bt.length≤1000000000)(bV:af br bt){de:ak}(e6:aA de a3)(fI:de.length≤1000000000)(eA:af br de):Sound T 87 [.d a0,.d a1,.d a2,.d a3] fun r=>∃y0 bu,r= .d y0∧aA bu y0∧(bu.length:Int)≤100000000000∧af my bu:=by
 refine bj F.q87 aa (bY 12 aa (ay aa (Rh F cr ae bM cF ae bV) ?_));rintro _ _⟨ez,Z,rfl,M,jE,fy,lu,mT⟩;refine ro 8 aa (dh 9 90 389 40 3 aa aa (bd [10,8,3,2,1,0] [] aa aa (fun e0 b0 k VE B=>∃z I,an ((9,.ac 90 I.length 3)::(11,.d (dJ z))::e0) VE∧an ((90,.acc 389 40 3 I)::b0) B∧k=((Z.length:Int) -z).toNat∧(0≤z∧(z≤(Z.length:Int)∨z=0))∧((I.length:Int)≤z*400000)∧(af my I)) ?_ (k:=((Z.length:Int) -0).toNat) ⟨0,[],⟨aa,aa,aa,aa,aa,aa,aa,aa,trivial⟩,⟨aa,trivial⟩,aa,ae,cJ,bT⟩));rintro _ VE B⟨z,I,hV,hB,rfl,bS,cM,Sz⟩;refine aU _ _ hV hB (aB 5 aa (aO aa M ?_));refine ro 2 aa ?_;refine au aa ?_ ?_<;>intro g2
 ·refine rc 15 aa ?_;obtain⟨pz,⟨Iu,xw,G7,xx⟩,ud,tE,fD⟩:=qI z fy;refine aR (aI aa aa M ae fD aa ?_);refine rq 1 aa (cD aa aa (dx aa aa ?_));refine aP aa (ay aa (Pe F cr ae bM cF ae bV xw ae xx) ?_);rintro _ _⟨fJ,jH,rfl,Db,th,O,xn,C6⟩;refine cZ 4 aa (aI aa aa M ae fD aa ?_);refine rq 1 aa (cD aa aa (dx aa aa ?_));refine aP aa (ay aa (Pe F cN ae cb e6 ae eA xw ae xx) ?_);rintro _ _⟨gV,gR,rfl,jY,qf,U,rD,qg⟩;refine rq 6 aa (ax (dQ (ys:=jH) 49 aa aa aa aa aa (.sD Db (cO O aa)) ao ae ?_));refine ro 1 aa ?_;refine ax (aX (rows:=jH) (ys:=gR) rfl rfl rfl (.sD jY (cO U rfl)) ao ae (fun h=>by rw[h];rfl) (fun h=>by rw[h];rfl) ?_);refine eS 51 49 aa aa (fun _=>⟨aa,aa⟩) (ax (ay aa (ad2 F (.acc _) Bg (dC O U)) ?_));rintro _ _⟨kD,nZ,rfl,L,xm,ma,RZ,ad3⟩;refine ro 7 aa (bd [27,15,14,13,12,11,10,8,3,2,1,0] [] aa aa (fun e0 b0 k VE B=>∃A G,an ((9,.ac 90 G.length 3)::(16,.d (dJ A))::e0) VE∧an ((90,.acc 389 40 3 G)::b0) B∧k=((((nZ.length:Int) -1):Int) -A).toNat∧(0≤A∧(A≤((nZ.length:Int) -1)∨A=0))∧((G.length:Int)≤z*400000+A)∧(af my G)) ?_ fin);rintro _ VE B⟨A,G,hV,hB,rfl,eU,fO,aeL⟩;refine aU _ _ hV hB (aB 4 aa (bC aa aa ae ae ?_));refine aK 1 aa (aO aa L ?_);refine ro 2 aa ?_;refine au aa ?_ ?_<;>intro g7
  ·refine rc 8 aa ?_;obtain⟨N6,Y,hH⟩:=qI A ma;refine ax (aI aa aa L ae hH aa ?_);refine aK 1 aa (ay aa (T' F Db ae O Y) ?_);rintro _ _⟨_,ajy,wy9_1,rfl,⟨H3,rfl,R7,R8⟩,aeM,hny9_1,aeN,hmy9_1,hey9_1⟩;refine aK 11 aa (aI aa aa L ae hH aa ?_);refine aK 1 aa (ay aa (T' F jY ae U Y) ?_);rintro _ _⟨_,AO,adJ,rfl,⟨Dc,rfl,acd,ace⟩,Ld,abq,Le,hmy10_1,hey10_1⟩;refine ro 8 aa (rp 3 aa ?_);refine bm aa ?_ ?_<;>intro ld
   ·refine ro 1 aa (rp 3 aa ?_);refine au aa ?_ ?_<;>intro zf
    ·refine rc 5 aa (aR (aI aa aa L ae hH aa ?_));refine cD aa aa (dx aa aa ?_);refine cZ 2 aa (bC aa aa ae ae ?_);obtain⟨qv,nQ,lP⟩:=qI (A+1) ma;refine aR (aI aa aa L ae lP aa ?_);refine cD aa aa (dx aa aa ?_);refine rq 2 aa ?_
     by_cases Oy:G=[]
     ·refine aP rfl (mM (dj:=[.ac 1050 G.length 3,.d (dJ (I.length:Int)),.agg [.d N6,.d qv],.d ajy]) (Bi:=[(1050,.acc 389 40 3 G)]) [(1050,90)] 2000 rfl rfl rfl rfl rfl (by rw[Oy];rfl) rfl ⟨rfl,rfl,trivial⟩ (ab9 (aJ:=(I.length:Int)) F aeL ae ae ae Y nQ aeM ae aeN) ?_);rintro _ _⟨E8,rfl,rfl,aiX,hn15⟩;exact W
     refine aP aa (mM (dj:=[.ac 1001 G.length 3,.d (dJ (I.length:Int)),.agg [.d N6,.d qv],.d ajy]) (Bi:=[(1001,.acc 389 40 3 G)]) [(1001,90)] 2000 aa aa aa aa aa aa aa ⟨aa,aa,trivial⟩ (aca (aJ:=(I.length:Int)) F aeL ae (Int.ofNat_le.2 (List.length_pos_iff.2 Oy)) ae ae Y nQ aeM ae aeN) ?_);rintro _ _⟨XK,rfl,rfl,Og,hn16⟩;exact W
    exact W
   exact W
  exact W
 exact rc 6 aa (cf 8 90 aa aa (fun _=>⟨aa,aa⟩) (W))
theorem GapsC{T:aN}(F:FT T){a0 a1:DC}{bP:ak}(cr:aA bP a0)(cK:bP.length≤100000)(bM:af jr bP){bL:ak}(cN:aA bL a1)(df:bL.length≤1000000000)(cb:af br bL):Sound T 156 [.d a0,.d a1] fun r=>∃y0 bu,r= .d y0∧aA bu y0∧(bu.length:Int)≤100000000000∧af my bu:=by
 refine bj F.q156 aa (bY 12 aa (ay aa (Rh F cr ae bM cN ae cb) ?_));rintro _ _⟨ez,fg,rfl,gL,jE,fy,lu,mT⟩;refine ro 8 aa (dh 5 90 389 40 3 aa aa (bd [6,4,1,0] [] aa aa (fun e0 b0 k VE B=>∃I Y,an ((5,.ac 90 Y.length 3)::(7,.d (dJ I))::e0) VE∧an ((90,.acc 389 40 3 Y)::b0) B∧k=((fg.length:Int) -I).toNat∧(0≤I∧(I≤(fg.length:Int)∨I=0))∧((Y.length:Int)≤I*200000)∧(af my Y)) ?_ (k:=((fg.length:Int) -0).toNat) ⟨0,[],⟨aa,aa,aa,aa,aa,aa,trivial⟩,⟨aa,trivial⟩,aa,ae,cJ,bT⟩));rintro _ VE B⟨I,Y,hV,hB,rfl,bS,cM,nO⟩;refine aU _ _ hV hB (aB 5 aa (aO aa gL ?_));refine ro 2 aa ?_;refine au aa ?_ ?_<;>intro g2
 ·refine rc 9 aa ?_;obtain⟨pz,⟨Iu,xw,G7,xx⟩,ud,tE,fD⟩:=qI I fy;refine ax (aI aa aa gL ae fD aa ?_);refine aK 2 aa (ay aa (Pe F cr ae bM cN ae cb xw ae xx) ?_);rintro _ _⟨fJ,jH,rfl,G,th,Ak,xn,C6⟩;refine aK 5 aa (ay aa (covC F G ae Ak) ?_);rintro _ _⟨gV,gR,rfl,U,qf,jl,rD,qg⟩;refine ro 7 aa (bd [20,9,8,7,6,4,1,0] [] aa aa (fun e0 b0 k VE B=>∃z O,an ((5,.ac 90 O.length 3)::(10,.d (dJ z))::e0) VE∧an ((90,.acc 389 40 3 O)::b0) B∧k=((gR.length:Int) -z).toNat∧(1≤z∧(z≤(gR.length:Int)∨z=1))∧((O.length:Int)≤I*200000+z)∧(af my O)) ?_ fin);rintro _ VE B⟨z,O,hV,hB,rfl,eU,fO,GM⟩;refine aU _ _ hV hB (aB 5 aa (aO aa U ?_));refine ro 2 aa ?_;refine au aa ?_ ?_<;>intro g6
  ·refine rc 7 aa (aR (dq aa aa ae ae ?_));obtain⟨nf,mW,_,⟨TU,rfl,hzx7_1,kzx7_1⟩,eV⟩:=qI (z-1) jl;refine aR (aI aa aa U ae eV aa ?_);refine rq 1 aa (cD aa aa (dx aa aa ?_));refine rq 2 aa ?_;obtain⟨_,⟨H4,rfl,ad0,ad1⟩,Ve,MM,hH⟩:=qI z jl;refine aR (aI aa aa U ae hH aa ?_);refine rq 1 aa (cD aa aa (dx aa aa ?_));refine rq 14 aa (bd [36,20,11,10,9,8,7,6,5,4,1,0] [90,11] aa aa (fun e0 b0 k VE B=>∃M L A,an ((12,.d M)::(13,.d (dJ A))::e0) VE∧an b0 B∧k=((jH.length:Int) -A).toNat∧(aA L M)∧((L.length:Int)≤200*A)∧(af br L)∧(L=[]→M= .nil)∧(0≤A∧(A≤(jH.length:Int)∨A=0))) ?_ fin);rintro _ VE B⟨M,L,A,hV,hB,rfl,Z,yN,acf,hev12_2,f2_4⟩;refine aU _ _ hV hB (aB 5 aa (aO aa G ?_));refine ro 2 aa ?_;refine au aa ?_ ?_<;>intro g9
   ·refine rc 7 aa ?_;obtain⟨n5,ql,_,⟨zx10_1,rfl,hzx10_1,kzx10_1⟩,_,⟨zx10_2,rfl,hzx10_2,kzx10_2⟩,x10_3,⟨wx10_3,acg,hnx10_3,ach⟩,gY⟩:=qI A Ak;refine aR (aI aa aa G ae gY aa ?_);refine rq 2 aa (cD aa aa (dx aa aa ?_));refine rq 4 aa ?_;refine dw aa ?_ ?_<;>intro ld
    ·refine rq 11 aa (eG aa aa (aB 4 aa (aI aa aa G ae gY aa ?_)));refine aK 2 aa (ay aa (xp F Z ae acf acg ae ach) ?_);rintro _ _⟨DI,wy12_0,rfl,hdy12_0,hny12_0,hry12_0,hmy12_0,hey12_0⟩;exact W
    refine rq 2 aa (ca aa aa (aI aa aa G ae gY aa ?_));refine rq 5 aa (rp 3 aa ?_);refine au aa ?_ ?_<;>intro sK
    ·refine aB 4 aa (aI aa aa G ae gY aa ?_);refine aK 2 aa (ay aa (xp F Z ae acf acg ae ach) ?_);rintro _ _⟨Ip,G1,rfl,zR,Ls,zT,abZ,hey14_0⟩;exact W
    exact W
   refine rc 2 aa (rp 5 aa ?_);refine ax (aX (rows:=O) (ys:=[[(dJ TU),(dJ H4),M]]) rfl rfl rfl (.bs (rows:=[[(dJ TU),(dJ H4),M]]) rfl) ao ae (fun h=>by rw[h];rfl) (fun h=>by rw[h];rfl) ?_);exact W
  exact W
 exact rc 6 aa (cf 4 90 aa aa (fun _=>⟨aa,aa⟩) (W))
theorem ConVioC{T:aN}(F:FT T){a0 a1 a2:DC}{L:ak}(z:aA L a0)(cK:L.length≤100000)(A:af jr L)(bW:tJ.ok a1){M:ak}(G:aA M a2)(dc:M.length≤1000000000)(I:af br M):Sound T 88 [.d a0,.d a1,.d a2] fun r=>∃y0 O,r= .d y0∧aA O y0∧(O.length:Int)≤100000000000∧af my O:=by
 refine bj F.q88 aa ?_;obtain⟨aJ,rfl,eC,eg⟩:=bW;refine r0 15 aa ?_;refine au aa ?_ ?_<;>intro g1
 ·refine aB 4 aa (ay aa (GapsC F z ae A G ae I) ?_);rintro _ _⟨mz,DM,rfl,U,Y,Z⟩;exact W
 refine rc 5 aa ?_;refine au aa ?_ ?_<;>intro g3
 ·refine aB 4 aa (ay aa (acb F z ae A G ae I) ?_);rintro _ _⟨fJ,jH,rfl,Db,th,Ak⟩;exact W
 exact W
end Go.Ev.Rp
namespace Go.Ev.Rp
open Go Go.Ev.Pp
attribute [local irreducible] VC VO VQ VI Sound cm
theorem ok_lm{n m:Nat}{row:List Ty}{d:DC}(h:(Ty.l n row).ok d)(k:n≤m):(Ty.l m row).ok d:=by
 obtain⟨w,a,b,c⟩:=h;exact aM a (eZ b k) c
def wF:Nat→Nat
 |0=>4096
 |n+1=>4*wF n+1
theorem mvI_s{z:Int}(h:0≤z):wF (z+1).toNat=4*wF z.toNat+1:=by rw[show(z+1).toNat=z.toNat+1 by omega];rfl
theorem mvI_lt{z:Int}(h0:0≤z)(h:z<2):wF z.toNat≤24000:=by
 rcases(by omega:z=0∨z=1) with rfl|rfl<;>decide
theorem mvI_le{z:Int}(h0:0≤z)(h:z≤2):wF z.toNat≤100000:=by
 rcases(by omega:z=0∨z=1∨z=2) with rfl|rfl|rfl<;>decide
theorem mvI_0:wF (0:Int).toNat=4096:=rfl
theorem okRs_take0{R:List Ty}{w:ak}:af R (w.take (0:Int).toNat):=fun r h=>by simp at h
theorem okRs_takeS{R:List Ty}{w:ak}{z:Int}{r:List DC}(h:af R (w.take z.toNat))(h0:0≤z)(A:w[z.toNat]?=some r)(G:fC R r):af R (w.take (z+1).toNat):=by
 rw[show(z+1).toNat=z.toNat+1 by omega,Dl,A];exact dC h (dr G)
theorem okRs_takeA{R:List Ty}{w:ak}{z:Int}(h:af R (w.take z.toNat))(A:(w.length:Int)≤z):af R w:=by rwa [mq ah] at h
theorem StepN{T:aN}(F:FT T){nv mv:Nat}{P3 P4 P5:Ty}{a1 a2 a3 a4 a5 a6 a7 a8 a9 jR oH oI sU sV sW zj zk zl zm zn zo:DC}{aE:Int}(jw:0≤aE)(iX:aE≤40)(bW:tJ.ok a1){bt:ak}(v7:0≤bt.length)(U:bt=[]→a2= .nil)(z:aA bt a2)(dc:bt.length≤16)(M:af (fF nv mv) bt)(cn:(P3).ok a3)(bZ:(P4).ok a4)(cl:(P5).ok a5)(fw:tJ.ok a6)(fS:(Ty.s 1000).ok a7)(gk:(Ty.l 1000000000 cC).ok a8)(iO:tJ.ok a9)(ni:tJ.ok jR)(pE:(Ty.l 100 ew).ok oH)(BH:tJ.ok oI)(BI:(Ty.l 10 ey).ok sU)(BJ:(Ty.s 1000).ok sV)(BK:(Ty.l 100 en).ok sW)(Jo:(Ty.l 200 br).ok zj)(Jp:(Ty.l 4 eD).ok zk)(Jq:(Ty.l 4 ee).ok zl)(Jr:tJ.ok zm)(Js:(Ty.s 1000).ok zn)(Jt:tJ.ok zo)(oA:nv≤99)(Cg:mv≤24000)(Pk:1≤nv)(gA:P3.ok i0)(iv:P4.ok .nil)(gC:P5.ok .nil):Sound T 42 [.agg [.d (dJ aE),.d a1,.d a2,.d a3,.d a4,.d a5],.agg [.d a6,.d a7,.d a8,.d a9,.d jR,.d oH,.d oI,.d sU,.d sV,.d sW,.d zj,.d zk,.d zl,.d zm,.d zn,.d zo]] fun r=>∃y0 y1 y2 dT y4 y5 y6 y7,r= .tuple [.agg [.d (dJ y0),.d y1,.d y2,.d y4,.d y5,.d y6],.d (dJ y7)]∧(0≤y0∧y0≤40∧(True))∧tJ.ok y1∧aA dT y2∧(dT.length:Int)≤16∧af (fF (nv+1) (4*mv+1)) dT∧0≤(dT.length:Int)∧(dT=[]→y2= .nil)∧(P3).ok y4∧(P4).ok y5∧(P5).ok y6∧((-9223372036854775808)≤y7∧y7≤9223372036854775807∧(y7=0→y0=aE)):=by
 refine bj F.q42 aa ?_;rcases bW,fw,fS,gk,iO,ni,pE,BH,BI,BJ,BK,Jo,Jp,Jq,Jr,Js,Jt with⟨⟨aJ,rfl,eC,eg⟩,⟨bx,rfl,oj,om⟩,⟨Pd,rfl,Oq⟩,⟨rf,oy,yK,pF⟩,⟨gl,rfl,Bp,Bq⟩,⟨Ot,rfl,M7,M8⟩,⟨ai7,M9,agB,M'⟩,⟨za12,rfl,hza12,kza12⟩,⟨ai8,hda13,hna13,Na⟩,⟨sa14,rfl,hsa14⟩,⟨wa15,T6,hna15,T7⟩,⟨ai9,Ia,agC,Ib⟩,⟨aja,Ic,agD,Ie⟩,⟨ajb,Ig,agE,Ih⟩,⟨za19,rfl,hza19,kza19⟩,⟨sa20,rfl,hsa20⟩,⟨za21,rfl,hza21,kza21⟩⟩
 refine r0 14 aa ?_;refine bm aa ?_ ?_<;>intro h1
 ·exact W
 refine ro 5 aa ?_;refine au aa ?_ ?_<;>intro h2
 ·exact W
 refine rc 8 aa ?_;refine au aa ?_ ?_<;>intro g3
 ·refine aB 5 aa (ay aa (createN (aE:=aE) (nv:=nv) (mv:=mv) (P3:=P3) (P4:=P4) (P5:=P5) F ae ae ai ae U z ae M cn bZ cl (bE ah) T6 ae T7 (aM Ia ae Ib) (aM Ic ae Ie) (aM Ig ae Ih) ae ae ae gA iv gC) ?_);rintro _ _⟨fJ,sm,ue,A0,BO,EF,JE,Oz,rfl,o5,vo,As,SV,At,aeO,G8,Nn,No,Uo,hy4_7⟩;exact et 6 aa (bI aa aa ⟨fJ,sm,ue,A0,BO,EF,JE,Oz,aa,⟨ae,ae,trivial⟩,vo,As,ae,(oK At ae ae),ae,G8,Nn,No,Uo,⟨ae,ae,ae⟩⟩)
 refine aB 6 aa (ay aa (Nk (aE:=aE) (nv:=nv) (mv:=mv) (P3:=P3) (P4:=P4) (P5:=P5) F ae ae ai ae U z ae M cn bZ cl (bE ah) ae ae gA iv gC) ?_);rintro _ _⟨Y,rfl,rK⟩;refine ro 8 aa ?_;refine au aa ?_ ?_<;>intro h6
 ·exact W
 refine rc 6 aa ?_;obtain⟨nf,mW,oh,⟨wx7_1,Md,hnx7_1,Me⟩,Bv,AS,ajz,Np,ajA,Nq,ajB,DN,eV⟩:=qI Y M;refine ax (aI aa aa z ae eV aa ?_);refine ro 20 aa ?_;refine au aa ?_ ?_<;>intro g8
 ·refine aB 7 aa (ta aa aa (fun z9 hz9=>?_));refine ax (ay aa (AddColC (nv:=nv) F mW Md ae Me AS Np Nq ai (bE ah) ai ai ae) ?_);rintro _ _⟨mg,AO,adJ,af5,MT,MU,_,rfl,Ae,Ld,abq,Le,hy10_3,aeP,hy10_5,zy10_6,rfl,hzy10_6,kzy10_6⟩;refine ro 10 aa (rp 3 aa ?_);refine au aa ?_ ?_<;>intro sJ
  ·exact W
  refine rc 6 aa ?_;obtain⟨Up,G,SW,I,L⟩:=Ty.bA DN;refine ax (ay aa (xZ (aE:=aE) (bx:=Y) (nv:=nv) (mv:=mv) (rh:=nv+1) (ri:=4*mv+1) F ae ae ai ae U z ae M cn bZ cl ae ae Ae (aM Ld ae Le) hy10_3 aeP hy10_5 (bA ⟨_,G,ae,I,L⟩) ae ae gA iv gC) ?_);rintro _ _⟨DI,agN,ael,agO,agP,agQ,rfl,GW,abH,abI,abJ,hmy12_1,hey12_1,aem,aen,aeo⟩;exact W
 refine rc 5 aa ?_;refine au aa ?_ ?_<;>intro sK
 ·refine aB 9 aa (ta aa aa (fun z14 Oy=>?_));refine ax (ay aa (DropColC (nv:=nv) F mW Md ae Me AS Np Nq ai ai ae) ?_);rintro _ _⟨Nl,y15_1,wy15_1,y15_3,y15_4,y15_5,_,rfl,aeQ,Z,hny15_1,aci,aeR,aeS,aeT,zy15_6,rfl,hzy15_6,kzy15_6⟩;refine ro 12 aa (bd [64,50,43,35,23,19,7,6,5,4,3,2,1,0] [7,4,3,2] aa aa (fun e0 b0 k VE B=>∃OA O,an ((8,.d (dJ OA))::(9,.d (dJ O))::e0) VE∧an b0 B∧k=((bt.length:Int) -O).toNat∧(-9223372036854775808≤OA∧OA≤9223372036854775807)∧(0≤O∧(O≤(bt.length:Int)∨O=0))) ?_ fin);rintro _ VE B⟨OA,O,hV,hB,rfl,bS,cM⟩;refine aU _ _ hV hB (aB 6 aa (aO aa z ?_));refine ro 2 aa ?_;refine bm aa ?_ ?_<;>intro nB
  ·refine ro 4 aa ?_;refine au aa ?_ ?_<;>intro sN
   ·refine rc 8 aa ?_;obtain⟨agv,Su,agL,Sx,agM,Sy,x18_3,⟨aeU,acj,hnx18_3,hrx18_3⟩,x18_4,hx18_4,x18_5,hx18_5,nh⟩:=qI O M;refine bd [87,64,50,43,35,23,19,9,7,6,5,4,3,2,1,0] [7,4,3,2] aa aa (fun e0 b0 k VE B=>∃OB A,an ((8,.d (dJ OB))::(10,.d (dJ A))::e0) VE∧an b0 B∧k=((aeU.length:Int) -A).toNat∧(-9223372036854775808≤OB∧OB≤9223372036854775807)∧(0≤A∧(A≤(aeU.length:Int)∨A=0))) ?_ fin;rintro _ VE B⟨OB,A,hV,hB,rfl,eU,fO⟩;refine aU _ _ hV hB (aB 7 aa (aI aa aa z ae nh aa ?_));refine aK 3 aa (aO aa acj ?_);refine ro 2 aa ?_;refine au aa ?_ ?_<;>intro XD
    ·refine aB 8 aa (aI aa aa z ae nh aa ?_);refine ro 4 aa ?_;obtain⟨M4,GQ,_,⟨sx20_1,rfl,hsx20_1⟩,_,rfl,mC⟩:=qI A hrx18_3;refine ax (aI aa aa acj ae mC aa ?_);refine ro 10 aa ?_;refine bm aa ?_ ?_<;>intro Ka
     ·refine ro 4 aa (bJ aa aa (zI aa aa ?_));refine ro 2 aa ?_;refine bm aa ?_ ?_<;>intro O9
      ·refine ro 5 aa (bJ aa aa (ay aa (Dt F (.inl aa) ae tg ai) ?_));rintro _ _⟨Iq,rfl,SX⟩;exact W
      exact W
     exact W
    exact W
   refine rc 7 aa ?_;refine au aa ?_ ?_<;>intro h26
   ·exact W
   refine rc 6 aa ?_;obtain⟨Up,G,SW,I,L⟩:=Ty.bA DN;refine ax (ay aa (xZ (aE:=aE) (bx:=Y) (nv:=nv) (mv:=mv) (rh:=nv+1) (ri:=4*mv+1) F ae ae ai ae U z ae M cn bZ cl ae ae aeQ (aM Z ae aci) aeR aeS aeT (bA ⟨_,G,ae,I,L⟩) ae ae gA iv gC) ?_);rintro _ _⟨agI,y27_1,wy27_1,y27_3,y27_4,y27_5,rfl,hy27_0,hdy27_1,hny27_1,hry27_1,hmy27_1,hey27_1,hy27_3,hy27_4,hy27_5⟩;exact W
  refine ro 4 aa (eo aa aa (rc 7 aa ?_));refine au aa ?_ ?_<;>intro h28
  ·exact W
  refine rc 6 aa ?_;obtain⟨Up,G,SW,I,L⟩:=Ty.bA DN;refine ax (ay aa (xZ (aE:=aE) (bx:=Y) (nv:=nv) (mv:=mv) (rh:=nv+1) (ri:=4*mv+1) F ae ae ai ae U z ae M cn bZ cl ae ae aeQ (aM Z ae aci) aeR aeS aeT (bA ⟨_,G,ae,I,L⟩) ae ae gA iv gC) ?_);rintro _ _⟨y29_0,y29_1,wy29_1,y29_3,y29_4,y29_5,rfl,hy29_0,hdy29_1,hny29_1,hry29_1,hmy29_1,hey29_1,hy29_3,hy29_4,hy29_5⟩;exact W
 refine aB 5 aa (ay aa (modifyN (aE:=aE) (bx:=Y) (nv:=nv) (mv:=mv) (P3:=P3) (P4:=P4) (P5:=P5) F ae ae ai ae U z ae M cn bZ cl ae ae ai (bE ah) (aM oy ae pF) ai ai (aM M9 ae M') ai (aM hda13 ae Na) (bE ah) (aM T6 ae T7) (aM Ia ae Ib) (aM Ic ae Ie) (aM Ig ae Ih) ai (bE ah) ai ae ae gA iv gC) ?_);rintro _ _⟨AZ,ag0,y30_2,wy30_2,ag1,ag2,y30_6,y30_7,rfl,SJ,hy30_1,hdy30_2,hny30_2,hry30_2,hmy30_2,hey30_2,aeF,aeG,hy30_6,hy30_7⟩;exact et 6 aa (bI aa aa ⟨AZ,ag0,y30_2,wy30_2,ag1,ag2,y30_6,y30_7,aa,⟨ae,ae,trivial⟩,hy30_1,hdy30_2,ae,(oK hry30_2 ae ae),ae,hey30_2,aeF,aeG,hy30_6,⟨ae,ae,ae⟩⟩)
theorem CheckN{T:aN}(F:FT T){nv mv:Nat}{P3 P4 P5:Ty}{a1 a2 a3 a4 a5:DC}{aE:Int}(jw:0≤aE)(iX:aE≤40)(bW:tJ.ok a1){Z:ak}(v7:0≤Z.length)(jt:Z=[]→a2= .nil)(z:aA Z a2)(dc:Z.length≤16)(bV:af (fF nv mv) Z)(cn:(P3).ok a3)(bZ:(P4).ok a4)(cl:(P5).ok a5)(oA:nv≤99)(Cg:mv≤100000)(gA:P3.ok i0)(iv:P4.ok .nil)(gC:P5.ok .nil):Sound T 43 [.agg [.d (dJ aE),.d a1,.d a2,.d a3,.d a4,.d a5]] fun r=>∃y0,r= .d y0∧tJ.ok y0:=by
 refine bj F.q43 aa ?_;obtain⟨aJ,rfl,eC,eg⟩:=bW;refine r0 11 aa (bd [2,1,0] [1] aa aa (fun e0 b0 k VE B=>∃vY,an ((3,.d (dJ vY))::e0) VE∧an b0 B∧dP k 0 vY (Z.length:Int)) ?_ fin);rintro _ VE B⟨vY,hV,hB,rfl,bS⟩;refine aU _ _ hV hB (aB 6 aa (aO aa z ?_));refine ro 2 aa ?_;refine au aa ?_ ?_<;>intro g1
 ·refine rc 8 aa ?_;obtain⟨gW,iG,fP,⟨n7,nU,nR,nV⟩,gb,⟨Nr,I,Af,Dd⟩,lM,mi,vZ,xX,Wq,A1,bQ⟩:=qI vY bV;refine ax (aI aa aa z ae bQ aa ?_);refine ro 6 aa (rp 3 aa (aR (aO aa I ?_)));refine rq 2 aa ?_;refine dw aa ?_ ?_<;>intro g3
  ·refine rq 1 aa ?_;obtain⟨wx2_5,hdx2_5,hnx2_5,SY,hvx2_5⟩:=Ty.bA A1;refine eL aa aa aa (ay aa (Ij F iG (aM nU ae nV) (aM I ae Dd) mi xX hdx2_5 ae SY) ?_);rintro _ _⟨fJ,jH,rfl,Db,th,Ak,xn,C6⟩;refine rq 3 aa (eL aa aa aa (ay aa (Cv F I ae Dd) ?_));rintro _ _⟨gV,gR,rfl,jY,qf,jl,rD,qg⟩;refine eL aa aa aa (ay aa (acb F Db ae Ak jY ae jl) ?_);rintro _ _⟨kD,nZ,rfl,oW,xm,ma⟩;refine ca aa aa (aO aa oW ?_);exact rq 2 aa (W)
  exact rq 10 aa (W)
 refine rc 7 aa (bd [19,3,2,1,0] [1] aa aa (fun e0 b0 k VE B=>∃iK,an ((5,.d (dJ iK))::e0) VE∧an b0 B∧dP k 0 iK (Z.length:Int)) ?_ fin);rintro _ VE B⟨iK,hV,hB,rfl,eU⟩;refine aU _ _ hV hB (aB 6 aa (aO aa z ?_));refine ro 2 aa ?_;refine au aa ?_ ?_<;>intro g8
 ·refine rc 8 aa ?_;obtain⟨oi,kP,pr,⟨ag4,G9,aeV,G'⟩,BL,tD,Jv,⟨ag5,A,hnx9_3,L⟩,EB,tz,EC,tA,fc⟩:=qI iK bV;refine ax (aI aa aa z ae fc aa ?_);refine ro 9 aa (bd [47,19,6,5,3,2,1,0] [6,1] aa aa (fun e0 b0 k VE B=>∃OC,an ((7,.d (dJ OC))::e0) VE∧an b0 B∧dP k 0 OC (ag5.length:Int)) ?_ fin);rintro _ VE B⟨OC,hV,hB,rfl,ox⟩;refine aU _ _ hV hB (aB 7 aa (aO aa A ?_));refine ro 2 aa ?_;refine au aa ?_ ?_<;>intro sM
  ·refine rc 9 aa ?_;obtain⟨_,rfl,MN,Ad,_,rfl,sd⟩:=qI OC L;refine ax (aI aa aa A ae sd aa ?_);refine aK 14 aa (ay aa (Nk (aE:=aE) (nv:=nv) (mv:=mv) (P3:=P3) (P4:=P4) (P5:=P5) F ae ae ai ae jt z ae bV cn bZ cl Ad ae ae gA iv gC) ?_);rintro _ _⟨DI,rfl,GW⟩;refine ro 7 aa ?_;refine au aa ?_ ?_<;>intro sK
   ·refine rc 4 aa ?_;obtain⟨T3,L4,Ub,⟨wx14_1,hdx14_1,hnx14_1,hrx14_1⟩,Nm,G6,x14_3,hx14_3,x14_4,hx14_4,x14_5,hx14_5,gX⟩:=qI DI bV;refine ax (aI aa aa z ae gX aa ?_);refine ro 1 aa ?_;obtain⟨wx14_5,hdx14_5,hnx14_5,hrx14_5,hvx14_5⟩:=Ty.bA hx14_5;refine ax (ay aa (Ij F L4 (aM hdx14_1 ae hrx14_1) G6 hx14_3 hx14_4 hdx14_5 ae hrx14_5) ?_);rintro _ _⟨Nl,G2,rfl,zU,Re,zV,hmy15_0,hey15_0⟩;refine ro 5 aa ?_;obtain⟨wx9_5,M,hnx9_5,O,hvx9_5⟩:=Ty.bA tA;refine aP aa (ay aa (Ij F kP (aM G9 ae G') tD (aM A ae L) tz M ae O) ?_);rintro _ _⟨MZ,SZ,rfl,Gk,ack,Gl,acm,acn⟩;refine rq 3 aa (aP aa (ay aa (Cv F (.inl aa) ae tg) ?_));rintro _ _⟨y17_0,wy17_0,rfl,aco,hny17_0,acp,hmy17_0,hey17_0⟩;refine rq 2 aa (aP aa (ay aa (Cv F (.inl aa) ae tg) ?_));rintro _ _⟨ag6,aeW,rfl,Ri,hny18_0,Rj,hmy18_0,hey18_0⟩;refine aP aa (ay aa (aeK F Gk ae Gl zU ae zV aco ae acp Ri ae Rj) ?_);rintro _ _⟨DG,wy19_0,rfl,abY,hny19_0,hry19_0⟩;refine aR (aO aa abY ?_);exact W
   refine rc 4 aa ?_;obtain⟨wx9_5,M,hnx9_5,O,hvx9_5⟩:=Ty.bA tA;refine aP aa (ay aa (Ij F kP (aM G9 ae G') tD (aM A ae L) tz M ae O) ?_);rintro _ _⟨T8,wy21_0,rfl,hdy21_0,hny21_0,hry21_0,hmy21_0,hey21_0⟩;refine rq 3 aa (aP aa (ay aa (Cv F (.inl aa) ae tg) ?_));rintro _ _⟨H7,SI,rfl,CF,Q7,CG,ab4,ab5⟩;refine rq 2 aa (aP aa (ay aa (Cv F (.inl aa) ae tg) ?_));rintro _ _⟨M6,Sv,rfl,CD,QZ,CE,Q0,hey23_0⟩;refine aP aa (ay aa (aeK F hdy21_0 ae hry21_0 (.inr ⟨aa,aa⟩) ae bT CF ae CG CD ae CE) ?_);rintro _ _⟨Iq,SK,rfl,CH,ab2,Lt⟩;refine aR (aO aa CH ?_);exact W
  exact W
 refine rc 7 aa (bd [47,19,5,3,2,1,0] [1] aa aa (fun e0 b0 k VE B=>∃U,an ((11,.d (dJ U))::e0) VE∧an b0 B∧dP k 0 U (Z.length:Int)) ?_ fin);rintro _ VE B⟨U,hV,hB,rfl,Ji⟩;refine aU _ _ hV hB (aB 6 aa (aO aa z ?_));refine ro 2 aa ?_;refine au aa ?_ ?_<;>intro g26
 ·refine rc 8 aa ?_;obtain⟨x27_0,hx27_0,x27_1,⟨wx27_1,hdx27_1,hnx27_1,hrx27_1⟩,x27_2,hx27_2,x27_3,hx27_3,x27_4,⟨wx27_4,G,hnx27_4,acq⟩,x27_5,hx27_5,Ws⟩:=qI U bV;refine ax (aI aa aa z ae Ws aa ?_);refine ro 9 aa (bd [97,47,19,12,11,5,3,2,1,0] [12,1] aa aa (fun e0 b0 k VE B=>∃Y,an ((13,.d (dJ Y))::e0) VE∧an b0 B∧dP k 0 Y (wx27_4.length:Int)) ?_ fin);rintro _ VE B⟨Y,hV,hB,rfl,Jj⟩;refine aU _ _ hV hB (aB 7 aa (aO aa G ?_));refine ro 2 aa ?_;refine au aa ?_ ?_<;>intro Ph
  ·refine rc 9 aa ?_;obtain⟨Il,va,vw,⟨wx29_1,Lp,hnx29_1,Lq⟩,nj⟩:=qI Y acq;refine ax (aI aa aa G ae nj aa ?_);refine ro 7 aa ?_;obtain⟨wx27_5,hdx27_5,hnx27_5,hrx27_5,hvx27_5⟩:=Ty.bA hx27_5;refine aP aa (ay aa (Ij F hx27_0 (aM hdx27_1 ae hrx27_1) hx27_2 hx27_3 (aM G ae acq) hdx27_5 ae hrx27_5) ?_);rintro _ _⟨AZ,SQ,rfl,Gi,ab6,Gj,ab7,ab8⟩;refine rq 4 aa (aP aa (ay aa (Cv F Lp ae Lq) ?_));rintro _ _⟨TW,adN,rfl,Lh,abr,Li,hmy31_0,hey31_0⟩;refine aP aa (ay aa (ConVioC F Gi ae Gj va Lh ae Li) ?_);rintro _ _⟨ags,wy32_0,rfl,hdy32_0,hny32_0,hry32_0⟩;refine aR (aO aa hdy32_0 ?_);exact W
  exact W
 exact W
theorem CommitN{T:aN}(F:FT T){nv:Nat}{P3 P4 P5:Ty}{a1 a2 a3 a4 a5 a6:DC}{aE:Int}(jw:0≤aE)(iX:aE≤30)(bW:tJ.ok a1){bt:ak}(v7:0≤bt.length)(jt:bt=[]→a2= .nil)(cF:aA bt a2)(dc:bt.length≤16)(bV:af (fF nv 4096) bt)(cn:(P3).ok a3)(bZ:(P4).ok a4)(cl:(P5).ok a5){gB:ak}(fY:aA gB a6)(yJ:gB.length≤2)(iM:af MH gB)(oA:nv≤97)(Pk:1≤nv)(gA:P3.ok i0)(iv:P4.ok .nil)(gC:P5.ok .nil):Sound T 21 [.agg [.d (dJ aE),.d a1,.d a2,.d a3,.d a4,.d a5],.d a6] fun r=>∃y0 y1 y2 dT y4 y5 y6 y7,r= .tuple [.agg [.d (dJ y0),.d y1,.d y2,.d y4,.d y5,.d y6],.d (dJ y7)]∧(0≤y0∧y0≤40∧(True))∧tJ.ok y1∧aA dT y2∧(dT.length:Int)≤16∧af (fF (nv+2) 4096) dT∧0≤(dT.length:Int)∧(dT=[]→y2= .nil)∧(P3).ok y4∧(P4).ok y5∧(P5).ok y6∧((-9223372036854775808)≤y7∧y7≤9223372036854775807∧(y7=0→y0=aE+1)):=by
 refine bj F.q21 aa ?_;obtain⟨aJ,rfl,eC,eg⟩:=bW;refine r0 10 aa ?_;have k0:=mvI_0;refine ax (aO aa fY ?_);refine ro 2 aa ?_;refine au aa ?_ ?_<;>intro h1
 ·exact W
 refine rc 7 aa (bd [13,5,4,2,1,0] [4] aa aa (fun e0 b0 k VE B=>∃G L Z O A Mf Mg Mh,an ((6,.d (dJ G))::e0) VE∧an ((2,.one 29 96 [.d (dJ L),.d Z,.d O,.d Mf,.d Mg,.d Mh])::b0) B∧k=((gB.length:Int) -G).toNat∧(0≤G∧(G≤(gB.length:Int)∨G=0))∧(L=aE)∧(tJ.ok Z)∧(aA A O)∧((A.length:Int)≤16)∧(af (fF (nv+G.toNat) (wF G.toNat)) A)∧(A=[]→O= .nil)∧((P3).ok Mf)∧((P4).ok Mg)∧((P5).ok Mh)) ?_ fin);rintro _ VE B⟨G,L,Z,O,A,Mf,Mg,Mh,hV,hB,rfl,bS,cM,Rk,I,qM,U,Y,Rl,Rm,Rn⟩;refine aU _ _ hV hB (aB 5 aa (aO aa fY ?_));refine ro 2 aa ?_;refine au aa ?_ ?_<;>intro g2
 ·refine rc 8 aa ?_;obtain⟨pz,Uq,ud,tE,Eu,qz,ajj,Ur,ajk,Nf,ajl,Ng,x3_6,Us,x3_7,Ut,x3_8,Uu,x3_9,Uv,x3_10,hx3_10,x3_11,hx3_11,x3_12,hx3_12,x3_13,hx3_13,x3_14,hx3_14,x3_15,hx3_15,fD⟩:=qI G iM;refine aR (aI aa aa fY ae fD aa ?_);refine cD aa aa (gm aa (aS aa) (aS aa) ?_);have km:=mvI_lt (z:=G) ae ae;have ks:=mvI_s (z:=G) ae;refine aP aa (ay aa (StepN (aE:=L) (nv:=nv+G.toNat) (mv:=wF G.toNat) F ae ae Rk ae Y I ae U Rl Rm Rn Uq tE qz Ur Nf Ng Us Ut Uu Uv hx3_10 hx3_11 hx3_12 hx3_13 hx3_14 hx3_15 ae ae ae gA iv gC) ?_);rintro _ _⟨fJ,sm,ue,A0,BO,EF,JE,Oz,rfl,o5,vo,As,SV,At,aeO,G8,Nn,No,Uo,hy4_7⟩;refine rq 13 aa ?_;refine au aa ?_ ?_<;>intro h5
  ·exact W
  refine aB 7 aa (bC aa aa ae ae ?_);exact cW 2 aa (⟨((gB.length:Int) -((G+1))).toNat,ae,(G+1),fJ,sm,ue,A0,BO,EF,JE,⟨aa,aa,aa,aa,aa,aa,aa,trivial⟩,⟨aa,aa,trivial⟩,aa,ae,ae,vo,As,ae,(oK At ae ae),G8,Nn,No,Uo⟩)
 refine rc 7 aa (bd [18,13,6,5,4,2,1,0] [4,2] aa aa (fun e0 b0 k VE B=>∃M,an ((9,.d (dJ M))::e0) VE∧an b0 B∧k=((A.length:Int) -M).toNat∧(0≤M∧(M≤(A.length:Int)∨M=0))∧(af (fF (nv+2) 4096) (A.take M.toNat))) ?_ fin);rintro _ VE B⟨M,hV,hB,rfl,eU,fO⟩;refine aU _ _ hV hB (aB 6 aa (aO aa I ?_));refine ro 2 aa ?_;refine au aa ?_ ?_<;>intro g6
 ·refine rc 8 aa ?_;obtain⟨nf,mW,oh,rL,Bv,AS,ajz,Np,ajA,Nq,ajB,DN,eV⟩:=qI M U;refine ax (aI aa aa I ae eV aa ?_);obtain⟨Up,hdx7_5,SW,hrx7_5,hvx7_5⟩:=Ty.bA DN;refine aK 2 aa (aO aa hdx7_5 ?_);refine ro 2 aa ?_;refine au aa ?_ ?_<;>intro h8
  ·exact W
  refine aB 3 aa (bC aa aa ae ae ?_);refine cW 2 aa ?_;exact⟨((A.length:Int) -((M+1))).toNat,ae,(M+1),⟨rfl,rfl,rfl,rfl,rfl,rfl,rfl,rfl,rfl,trivial⟩,⟨rfl,rfl,trivial⟩,rfl,ae,(by first|assumption|exact okRs_take0|exact okRs_takeS (by assumption) ae (by assumption) (aj (by assumption) (aj (ok_lm (by assumption) ae) (aj (by assumption) (aj (by assumption) (aj (by assumption) (aj (bA ⟨_,(by assumption),ae,(by assumption),(by assumption)⟩) bg)))))))⟩
 refine rc 5 aa ?_;have kl:=mvI_le (z:=G) ae ae;refine ax (ay aa (CheckN (aE:=L) (nv:=nv+G.toNat) (mv:=wF G.toNat) F ae ae Rk ae Y I ae U Rl Rm Rn ae ae gA iv gC) ?_);rintro _ _⟨_,rfl,H3,rfl,R7,R8⟩;refine ro 4 aa (rp 3 aa ?_);refine au aa ?_ ?_<;>intro Pc
 ·exact W
 refine aB 5 aa (bC aa aa ae ae ?_);refine ro 5 aa ?_;skip;exact rpx 5 aa (bI aa aa ⟨(L+1),Z,O,A,Mf,Mg,Mh,0,aa,⟨ae,ae,trivial⟩,Rk,I,ae,(okRs_takeA dm ae),ae,Y,Rl,Rm,Rn,⟨ae,ae,ae⟩⟩)
end Go.Ev.Rp
