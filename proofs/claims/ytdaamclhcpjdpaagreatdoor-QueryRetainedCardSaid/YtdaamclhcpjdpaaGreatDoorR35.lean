/- Part 35 of rules for walks through the code of a program, and of such walks; what each part proves is said by its theorems. -/
import Derived.Test.YtdaamclhcpjdpaaGreatDoorR20
import Derived.Test.YtdaamclhcpjdpaaGreatDoorR21
import Derived.Test.YtdaamclhcpjdpaaGreatDoorR22
import Derived.Test.YtdaamclhcpjdpaaGreatDoorR23
import Derived.Test.YtdaamclhcpjdpaaGreatDoorR25
import Derived.Test.YtdaamclhcpjdpaaGreatDoorR29
import Derived.Test.YtdaamclhcpjdpaaGreatDoorR31
set_option linter.unusedVariables false
set_option linter.unusedSimpArgs false
noncomputable section
set_option maxRecDepth 100000
set_option maxHeartbeats 4000000
namespace Go.Ev.Rp
open Go Go.Ev.Pp
attribute [local irreducible] VC VO VQ VI Sound cm
theorem keptY{T:aN}(F:FT T){a0 a1 a2 a3 a4 a5 a6 a7 a8 a9 Y Z:DC}(cU:(Ty.x).ok a0)(bW:(Ty.x).ok a1)(cG:(Ty.x).ok a2)(cn:tJ.ok a3){G:ak}(A:aA G a4)(fu:G.length≤13)(I:af je G)(cl:(Ty.x).ok a5)(fw:tJ.ok a6)(fS:(Ty.l 1000000000 cC).ok a7)(gk:tJ.ok a8)(iO:tJ.ok a9)(ni:tJ.ok Y)(pE:tJ.ok Z):Sound T 223 [.agg [.d a0,.d a1,.d a2,.d a3,.d a4,.d a5],.agg [.d a6,.d a7,.d a8,.d a9,.d Y,.d Z]] fun r=>∃y0,r= .d y0∧(Ty.b).ok y0:=by
 refine bj F.aix aa ?_;rcases cn,fw,fS,gk,iO,ni,pE with⟨⟨aW,rfl,mA,mB⟩,⟨bx,rfl,oj,om⟩,⟨wz,Ep,N7,Er⟩,⟨hJ,rfl,yD,yE⟩,⟨gl,rfl,Bp,Bq⟩,⟨Ot,rfl,M7,M8⟩,⟨ic,rfl,Uf,Ug⟩⟩
 refine r0 16 aa ?_;refine bm aa ?_ ?_<;>intro g1
 ·refine ro 2 aa (bJ aa aa (ay aa (oV F ai ai) ?_));rintro _ _⟨_,rfl,by2_0,rfl⟩;refine ro 2 aa ?_;refine cH aa ?_ ?_<;>intro h3
  ·exact W
  refine rc 7 aa (bd [18,4,3,2,1,0] [3,2] aa aa (fun e0 b0 k VE B=>∃z,an ((5,.d (dJ z))::e0) VE∧an b0 B∧dP k 0 z (G.length:Int)) ?_ fin);rintro _ VE B⟨z,hV,hB,rfl,bS⟩;refine aU _ _ hV hB (aB 6 aa (aO aa A ?_));refine ro 2 aa ?_;refine au aa ?_ ?_<;>intro g4
  ·refine rc 10 aa ?_;obtain⟨Et,AN,Br,L,Jk,M,eW⟩:=qI z I;refine aR (aI aa aa A ae eW aa ?_);refine rq 1 aa (cD aa aa (gm aa (aS aa) (aS aa) ?_));refine aP aa (ay aa (C3 F ai ai L M) ?_);rintro _ _⟨kD,vL,qP,rfl,qp,rN,DJ⟩;exact W
  exact W
 refine ro 5 aa (eo aa aa (rc 7 aa (bd [18,4,3,2,1,0] [3,2] aa aa (fun e0 b0 k VE B=>∃z,an ((5,.d (dJ z))::e0) VE∧an b0 B∧dP k 0 z (G.length:Int)) ?_ fin)));rintro _ VE B⟨z,hV,hB,rfl,bS⟩;refine aU _ _ hV hB (aB 6 aa (aO aa A ?_));refine ro 2 aa ?_;refine au aa ?_ ?_<;>intro g8
 ·refine rc 10 aa ?_;obtain⟨oi,kP,pr,O,BL,U,fc⟩:=qI z I;refine aR (aI aa aa A ae fc aa ?_);refine rq 1 aa (cD aa aa (gm aa (aS aa) (aS aa) ?_));refine aP aa (ay aa (C3 F ai ai O U) ?_);rintro _ _⟨mg,AO,HY,rfl,Ae,RQ,hy10_2⟩;exact W
 exact W
theorem aeX{T:aN}(F:FT T){nv mv:Nat}{P5:Ty}{a1 a2 a4 a5:DC}{aE:Int}(jw:0≤aE)(iX:aE≤40)(bW:tJ.ok a1){bt:ak}(cF:aA bt a2)(dc:bt.length≤16)(bV:af (fF nv mv) bt){aW:Int}(gi:0≤aW)(gj:aW≤aE){eu:ak}(EG:0≤eu.length)(OD:eu=[]→a4= .nil)(er:aA eu a4)(fu:eu.length≤13)(dg:af je eu)(cl:(P5).ok a5)(oA:nv≤99)(Cg:mv≤100000)(gC:P5.ok .nil):Sound T 129 [.agg [.d (dJ aE),.d a1,.d a2,.d (dJ aW),.d a4,.d a5]] fun r=>∃y0 y1 lV y3 Km y5,r= .agg [.d (dJ aE),.d y0,.d y1,.d (dJ aW),.d y3,.d y5]∧tJ.ok y0∧aA lV y1∧(lV.length:Int)≤16∧af (fF nv mv) lV∧0≤(lV.length:Int)∧(lV=[]→y1= .nil)∧aA Km y3∧(Km.length:Int)≤eu.length∧af je Km∧0≤(Km.length:Int)∧(Km=[]→y3= .nil)∧(P5).ok y5:=by
 refine bj F.q129 aa ?_;obtain⟨aJ,rfl,eC,eg⟩:=bW;refine r0 15 aa (dh 3 90 118 136 6 aa aa (bd [2,1,0] [2,1] aa aa (fun e0 b0 k VE B=>∃G L,an ((3,.ac 90 L.length 6)::(4,.d (dJ G))::e0) VE∧an ((90,.acc 118 136 6 L)::b0) B∧k=((bt.length:Int) -G).toNat∧(0≤G∧(G≤(bt.length:Int)∨G=0))∧((L.length:Int)≤G)∧(af (fF nv mv) L)) ?_ fin));rintro _ VE B⟨G,L,hV,hB,rfl,bS,cM,xo⟩;refine aU _ _ hV hB (aB 6 aa (aO aa cF ?_));refine ro 2 aa ?_;refine au aa ?_ ?_<;>intro g1
 ·refine rc 8 aa ?_;obtain⟨_,⟨U,rfl,Ha⟩,fP,⟨n7,nU,nR,nV⟩,gb,⟨Nr,S0,Af,Dd⟩,lM,⟨Nd,GV,L5,Ar⟩,vZ,⟨wx2_4,S1,hnx2_4,S2⟩,Wq,A1,bQ⟩:=qI G bV;refine ax (aI aa aa cF ae bQ aa ?_);refine ro 14 aa ?_;obtain⟨I,M,hnx2_5,SY,hvx2_5⟩:=Ty.bA A1;refine dh 6 91 156 64 6 aa aa ?_;refine bd [12,5,4,3,2,1,0] [90,5,2,1] rfl rfl (fun e0 b0 k VE B=>∃z A,an ((6,.ac 91 A.length 6)::(7,.d (dJ z))::e0) VE∧an ((91,.acc 156 64 6 A)::b0) B∧k=((I.length:Int) -z).toNat∧(0≤z∧(z≤(I.length:Int)∨z=0))∧((A.length:Int)≤z)∧(af jK A)∧(fB z I A)) ?_ (k:=((I.length:Int) -0).toNat) ⟨0,[],⟨rfl,rfl,rfl,rfl,rfl,rfl,rfl,rfl,rfl,trivial⟩,⟨rfl,rfl,rfl,rfl,rfl,trivial⟩,rfl,ae,cJ,bT,(by first|assumption|exact Ac|exact fB.step (by assumption) (by assumption) ae (by assumption)|exact fB.skip (by assumption) ae)⟩;rintro _ VE B⟨z,A,hV,hB,rfl,eU,fO,O,En⟩;refine aU _ _ hV hB (aB 6 aa (aO aa M ?_));refine ro 2 aa ?_;refine au aa ?_ ?_<;>intro g3
  ·refine rc 9 aa ?_;obtain⟨pw,kQ,fo,mh,sg,rO,Wt,x8,Wu,x9,Wv,DO,cY⟩:=qI z SY;refine aR (aI aa aa M ae cY aa ?_);refine cD aa aa (gm aa (aS aa) (aS aa) ?_);refine aP aa (ay aa (keptY F bX bX bX ai er ae dg bX kQ mh rO x8 x9 DO) ?_);rintro _ _⟨_,rfl,MW,rfl⟩;refine rq 1 aa ?_;refine cH aa ?_ ?_<;>intro h6
   ·refine aB 5 aa (aI aa aa M ae cY aa ?_);rcases Ty.dH kQ,Ty.aM mh,Ty.dH rO,Ty.dH x8,Ty.dH x9,Ty.dH DO with⟨⟨Y,rfl,qc,qd⟩,⟨Ir,De,G5,Df⟩,⟨Z,rfl,hzx4_2,kzx4_2⟩,⟨Uw,rfl,hzx4_3,kzx4_3⟩,⟨Ux,rfl,hzx4_4,kzx4_4⟩,⟨Uy,rfl,hzx4_5,kzx4_5⟩⟩
    refine ro 2 aa ?_;refine ax (aX (rows:=A) (ys:=[[(dJ Y),fo,(dJ Z),(dJ Uw),(dJ Ux),(dJ Uy)]]) rfl rfl rfl (.bs (rows:=[[(dJ Y),fo,(dJ Z),(dJ Uw),(dJ Ux),(dJ Uy)]]) rfl) ao ae (fun h=>by rw[h];rfl) (fun h=>by rw[h];rfl) ?_);refine aK 4 aa (bC aa aa ae ae ?_);refine cW 2 aa ?_;exact⟨((I.length:Int) -((z+1))).toNat,ae,(z+1),(A++[[(dJ Y),fo,(dJ Z),(dJ Uw),(dJ Ux),(dJ Uy)]]),⟨rfl,rfl,rfl,rfl,rfl,rfl,rfl,rfl,rfl,trivial⟩,⟨rfl,rfl,rfl,rfl,rfl,trivial⟩,rfl,ae,cJ,(dC O (dr (aj ai (aj (aM De ae Df) (aj ai (aj ai (aj ai (aj ai bg)))))))),(by first|assumption|exact Ac|exact fB.step (by assumption) (by assumption) ae (by assumption)|exact fB.skip (by assumption) ae)⟩
   refine aB 3 aa (bC aa aa ae ae ?_);refine cW 2 aa ?_;exact⟨((I.length:Int) -((z+1))).toNat,ae,(z+1),A,⟨rfl,rfl,rfl,rfl,rfl,rfl,rfl,rfl,rfl,trivial⟩,⟨rfl,rfl,rfl,rfl,rfl,trivial⟩,rfl,ae,ae,O,(by first|assumption|exact Ac|exact fB.step (by assumption) (by assumption) ae (by assumption)|exact fB.skip (by assumption) ae)⟩
  refine rc 5 aa (eS 42 91 aa aa (fun _=>⟨aa,aa⟩) (ro 3 aa (rp 3 aa ?_)));refine ax (aX (rows:=L) (ys:=[[(aq U),fP,gb,lM,vZ,(.cE A)]]) rfl rfl rfl (.bs (rows:=[[(aq U),fP,gb,lM,vZ,(.cE A)]]) rfl) ao ae (fun h=>by rw[h];rfl) (fun h=>by rw[h];rfl) ?_);refine aK 4 aa (bC aa aa ae ae ?_);refine cW 2 aa ?_;exact⟨((bt.length:Int) -((G+1))).toNat,ae,(G+1),(L++[[(aq U),fP,gb,lM,vZ,(.cE A)]]),⟨rfl,rfl,rfl,rfl,rfl,trivial⟩,⟨rfl,rfl,rfl,trivial⟩,rfl,ae,cJ,(dC xo (dr (aj (bE ah) (aj (aM nU ae nV) (aj (aM S0 ae Dd) (aj (aM GV ae Ar) (aj (aM S1 ae S2) (aj (bA ⟨_,(.acc _),ae,O,(by first|assumption|exact gG.fin (by assumption)|exact fB.fin (by assumption) (by assumption))⟩) bg))))))))⟩
 exact rc 5 aa (eS 48 90 aa aa (fun _=>⟨aa,aa⟩) (W))
theorem ForgetY{T:aN}(F:FT T){nv mv:Nat}{P5:Ty}{a1 a2 a4 a5 a6:DC}{aE:Int}(jw:0≤aE)(iX:aE≤40)(bW:tJ.ok a1){I:ak}(L:aA I a2)(dc:I.length≤16)(M:af (fF nv mv) I){aW:Int}(gi:0≤aW)(gj:aW≤aE){z:ak}(EG:0≤z.length)(O:z=[]→a4= .nil)(U:aA z a4)(fu:z.length≤13)(Y:af je z)(cl:(P5).ok a5)(fw:tJ.ok a6)(oA:nv≤99)(Cg:mv≤100000)(gC:P5.ok .nil):Sound T 72 [.agg [.d (dJ aE),.d a1,.d a2,.d (dJ aW),.d a4,.d a5],.d a6] fun r=>∃Z y1 y2 A y4 y5 G y7 y8,r= .tuple [.agg [.d (dJ Z),.d y1,.d y2,.d (dJ y4),.d y5,.d y7],.d (dJ y8)]∧(0≤Z∧Z≤40∧(True))∧tJ.ok y1∧aA A y2∧(A.length:Int)≤16∧af (fF nv mv) A∧0≤(A.length:Int)∧(A=[]→y2= .nil)∧(0≤y4∧y4≤40∧(True))∧aA G y5∧(G.length:Int)≤z.length∧af je G∧0≤(G.length:Int)∧(G=[]→y5= .nil)∧(P5).ok y7∧((-9223372036854775808)≤y8∧y8≤9223372036854775807∧(y8=0→Z=aE∧y4≤aE)):=by
 refine bj F.q72 aa ?_;rcases bW,fw with⟨⟨aJ,rfl,eC,eg⟩,⟨bx,rfl,oj,om⟩⟩
 refine r0 12 aa ?_;refine bm aa ?_ ?_<;>intro h1
 ·exact W
 refine ro 6 aa ?_;refine au aa ?_ ?_<;>intro h2
 ·exact W
 refine rc 9 aa ?_;refine au aa ?_ ?_<;>intro h3
 ·exact W
 refine aB 10 aa (ay aa (aeX (aE:=aE) (aW:=bx) (nv:=nv) (mv:=mv) (P5:=P5) F ae ae ai L ae M ae ae ae O U ae Y cl ae ae gC) ?_);rintro _ _⟨fJ,sm,wy4_1,Vw,wy4_3,EF,rfl,o5,hdy4_1,hny4_1,hry4_1,hmy4_1,hey4_1,hdy4_3,hny4_3,hry4_3,hmy4_3,hey4_3,No⟩;exact W
theorem ReleaseY{T:aN}(F:FT T){nv mv:Nat}{P5:Ty}{a1 a2 a4 a5 a6:DC}{aE:Int}(jw:0≤aE)(iX:aE≤40)(bW:tJ.ok a1){Y:ak}(Z:aA Y a2)(dc:Y.length≤16)(bV:af (fF nv mv) Y){aW:Int}(gi:0≤aW)(gj:aW≤aE){A:ak}(EG:0≤A.length)(U:A=[]→a4= .nil)(I:aA A a4)(fu:A.length≤13)(L:af je A)(cl:(P5).ok a5)(fw:tJ.ok a6)(oA:nv≤99)(Cg:mv≤100000)(gC:P5.ok .nil):Sound T 71 [.agg [.d (dJ aE),.d a1,.d a2,.d (dJ aW),.d a4,.d a5],.d a6] fun r=>∃y0 y1 y2 M y4 y5 O y7 y8,r= .tuple [.agg [.d (dJ y0),.d y1,.d y2,.d (dJ y4),.d y5,.d y7],.d (dJ y8)]∧(0≤y0∧y0≤40∧(True))∧tJ.ok y1∧aA M y2∧(M.length:Int)≤16∧af (fF nv mv) M∧0≤(M.length:Int)∧(M=[]→y2= .nil)∧(0≤y4∧y4≤40∧(True))∧aA O y5∧(O.length:Int)≤A.length∧af je O∧0≤(O.length:Int)∧(O=[]→y5= .nil)∧(P5).ok y7∧((-9223372036854775808)≤y8∧y8≤9223372036854775807∧(y8=0→y0=aE∧y4=aW)):=by
 refine bj F.q71 aa ?_;rcases bW,fw with⟨⟨aJ,rfl,eC,eg⟩,⟨bx,rfl,oj,om⟩⟩
 refine r0 12 aa (bd [5,4,2,1,0] [4,2] aa aa (fun e0 b0 k VE B=>∃G,an ((6,.d (dJ G))::e0) VE∧an b0 B∧dP k 0 G (A.length:Int)) ?_ fin);rintro _ VE B⟨G,hV,hB,rfl,bS⟩;refine aU _ _ hV hB (aB 6 aa (aO aa I ?_));refine ro 2 aa ?_;refine au aa ?_ ?_<;>intro g1
 ·refine rc 8 aa ?_;obtain⟨_,⟨ka,rfl,qe,rB⟩,fP,jf,gb,iS,bQ⟩:=qI G L;refine ax (aI aa aa I ae bQ aa ?_);refine ro 5 aa ?_;refine au aa ?_ ?_<;>intro g3
  ·refine rc 5 aa ?_;obtain⟨j4,pM,nA⟩:=bz (z:=G) (n:=A.length+1) ae ae;refine aR (eI (l:=0) (h:=j4) rfl I L rfl U ⟨_,(by rw[←pM];rfl)⟩ rfl ae ae (fun d5 w5 hd5 Fc E6=>?_));refine aP aa (VI.fresh aa (dQ (ys:=w5) 26 aa aa aa aa aa (.sD hd5 (cO E6 aa)) ao ae ?_));refine cZ 3 aa (bC aa aa ae ae ?_);obtain⟨j6,sT,pU⟩:=bz (z:=(G+1)) (n:=A.length+1) ae ae;refine aR (eI (l:=j6) (h:=A.length) rfl I L rfl U rfl ⟨_,(by rw[←sT];rfl)⟩ ae ae (fun d7 w7 hd7 Fa hr7=>?_));refine aP aa (aX (rows:=w5) (ys:=w7) aa aa aa (.sD hd7 (cO hr7 aa)) ao ae bN bN ?_);refine rq 1 aa (lk 32 26 aa aa (fun _=>⟨aa,aa⟩) (rq 5 aa ?_));refine ax (ay rfl (aeX (aE:=aE) (aW:=aW) (nv:=nv) (mv:=mv) (P5:=P5) F ae ae ai Z ae bV ae ae ae (fun h=>by rw[h];rfl) (.acc _) Bg (dC E6 hr7) cl ae ae gC) ?_);rintro _ _⟨ss,JD,wy8_1,y8_3,wy8_3,ajC,rfl,vu,SS,hny8_1,SU,hmy8_1,hey8_1,hdy8_3,hny8_3,hry8_3,hmy8_3,hey8_3,hy8_5⟩;exact W
  exact W
 exact W
end Go.Ev.Rp
namespace Go.Ev.Rp
open Go Go.Ev.Pp
attribute [local irreducible] VC VO VQ VI Sound cm
theorem ag7{T:aN}(F:FT T){a0 a1 a2 a3 a4 a5:DC}(cU:(Ty.x).ok a0)(bW:(Ty.x).ok a1)(cG:(Ty.x).ok a2)(cn:tJ.ok a3){G:ak}(O:aA G a4)(fu:G.length≤13)(Y:af je G)(cl:(Ty.x).ok a5):Sound T 11 [.agg [.d a0,.d a1,.d a2,.d a3,.d a4,.d a5]] fun r=>∃y0 U,r= .d y0∧aA U y0∧(U.length:Int)≤8192∧af ey U:=by
 refine bj F.q11 aa ?_;obtain⟨aW,rfl,mA,mB⟩:=cn;refine r0 15 aa (dh 3 90 47 16 2 aa aa (bd [2,1,0] [1] aa aa (fun e0 b0 k VE B=>∃z A,an ((3,.ac 90 A.length 2)::(4,.d (dJ z))::e0) VE∧an ((90,.acc 47 16 2 A)::b0) B∧k=((G.length:Int) -z).toNat∧(0≤z∧(z≤(G.length:Int)∨z=0))∧((A.length:Int)≤z)∧(af ey A)) ?_ fin));rintro _ VE B⟨z,A,hV,hB,rfl,bS,cM,M⟩;refine aU _ _ hV hB (aB 6 aa (aO aa O ?_));refine ro 2 aa ?_;refine au aa ?_ ?_<;>intro g1
 ·refine rc 8 aa ?_;obtain⟨gW,iG,_,⟨I,rfl,Z,l9⟩,_,⟨L,rfl,uX,uY⟩,bQ⟩:=qI z Y;refine ax (aI aa aa O ae bQ aa ?_);refine ro 3 aa ?_;refine ax (aX (rows:=A) (ys:=[[(dJ I),(dJ L)]]) rfl rfl rfl (.bs (rows:=[[(dJ I),(dJ L)]]) rfl) ao ae (fun h=>by rw[h];rfl) (fun h=>by rw[h];rfl) ?_);exact W
 refine rc 1 aa (cf 3 90 aa aa (fun _=>⟨aa,aa⟩) (rc 7 aa ?_));have oF:af ey [[i0,(dJ aW)]]:=(cA (aj ai (aj ai bg)) bT);refine eT 24 24 aa aa (fun _=>⟨aa,aa⟩) (ax (ay aa (SubSC F (.inl aa) ae oF (.acc _) ae M) ?_));rintro _ _⟨fJ,jH,rfl,Db,th,Ak⟩;exact W
theorem IntSC{T:aN}(F:FT T){a0 a1:DC}{bP:ak}(cr:aA bP a0)(cK:bP.length≤1)(bM:af ey bP){bL:ak}(cN:aA bL a1)(df:bL.length≤8192)(cb:af ey bL):Sound T 128 [.d a0,.d a1] fun r=>∃y0 bu,r= .d y0∧aA bu y0∧(bu.length:Int)≤8192∧af ey bu:=by
 refine bj F.q128 aa (bY 7 aa (ay aa (MR F cr ae bM) ?_));rintro _ _⟨ez,O,rfl,L,jE,fy,lu,mT⟩;refine aK 1 aa (ay aa (MR F cN ae cb) ?_);rintro _ _⟨mz,U,rfl,M,GL,uZ,R2,aeY⟩;refine ro 13 aa (dh 5 90 47 16 2 aa aa (bd [4,1,0] [] aa aa (fun e0 b0 k VE B=>∃z I,an ((5,.ac 90 I.length 2)::(6,.d (dJ z))::e0) VE∧an ((90,.acc 47 16 2 I)::b0) B∧k=((O.length:Int) -z).toNat∧(0≤z∧(z≤(O.length:Int)∨z=0))∧((I.length:Int)≤8192*z)∧(af ey I)) ?_ fin));rintro _ VE B⟨z,I,hV,hB,rfl,bS,cM,nO⟩;refine aU _ _ hV hB (aB 5 aa (aO aa L ?_));refine ro 2 aa ?_;refine au aa ?_ ?_<;>intro g3
 ·refine rc 8 aa (bd [17,6,4,1,0] [] aa aa (fun e0 b0 k VE B=>∃A G,an ((5,.ac 90 G.length 2)::(7,.d (dJ A))::e0) VE∧an ((90,.acc 47 16 2 G)::b0) B∧k=((U.length:Int) -A).toNat∧(0≤A∧(A≤(U.length:Int)∨A=0))∧((G.length:Int)≤8192*z+A)∧(af ey G)) ?_ fin);rintro _ VE B⟨A,G,hV,hB,rfl,eU,fO,GM⟩;refine aU _ _ hV hB (aB 5 aa (aO aa M ?_));refine ro 2 aa ?_;refine au aa ?_ ?_<;>intro g4
  ·refine rc 7 aa ?_;obtain⟨Et,AN,Br,xR,eW⟩:=qI z fy;refine aR (aI aa aa L ae eW aa ?_);refine cD aa aa (gm aa (aS aa) (aS aa) ?_);refine rq 2 aa ?_;obtain⟨Jl,AV,BC,xV,e7⟩:=qI A uZ;refine aR (aI aa aa M ae e7 aa ?_);refine cD aa aa (gm aa (aS aa) (aS aa) ?_);refine aP aa (ay aa (C3 F AN xR AV xV) ?_);rintro _ _⟨_,_,_,rfl,⟨Y,rfl,hzy7_0,kzy7_0⟩,⟨Z,rfl,hzy7_1,kzy7_1⟩,by7_2,rfl⟩;refine rq 11 aa ?_;refine cH aa ?_ ?_<;>intro h8
   ·refine rc 1 aa (rp 3 aa ?_);refine ax (aX (rows:=G) (ys:=[[(dJ Y),(dJ Z)]]) rfl rfl rfl (.bs (rows:=[[(dJ Y),(dJ Z)]]) rfl) ao ae (fun h=>by rw[h];rfl) (fun h=>by rw[h];rfl) ?_);exact W
   exact W
  exact W
 exact rc 6 aa (cf 4 90 aa aa (fun _=>⟨aa,aa⟩) (W))
end Go.Ev.Rp
namespace Go.Ev.Rp
open Go Go.Ev.Pp
attribute [local irreducible] VC VO VQ VI Sound cm
theorem HoldC{T:aN}(F:FT T){P2 P5:Ty}{a1 a2 a4 a5 a6 a7 a8:DC}{aE:Int}(jw:0≤aE)(iX:aE≤40)(bW:tJ.ok a1)(cG:(P2).ok a2){aW:Int}(gi:0≤aW)(gj:aW≤aE){G:ak}(EG:0≤G.length)(OD:G=[]→a4= .nil)(I:aA G a4)(fu:G.length≤12)(M:af je G)(cl:(P5).ok a5)(fw:(Ty.i .i64 0 4).ok a6)(fS:tJ.ok a7)(gk:tJ.ok a8)(Pa:P2.ok .nil)(gC:P5.ok .nil):Sound T 70 [.agg [.d (dJ aE),.d a1,.d a2,.d (dJ aW),.d a4,.d a5],.agg [.d a6,.d a7,.d a8]] fun r=>∃y0 y1 y2 y3 y4 O y6 y7,r= .tuple [.agg [.d (dJ y0),.d y1,.d y2,.d (dJ y3),.d y4,.d y6],.d (dJ y7)]∧(0≤y0∧y0≤40∧(True))∧tJ.ok y1∧(P2).ok y2∧(0≤y3∧y3≤40∧(True))∧aA O y4∧(O.length:Int)≤G.length+1∧af je O∧0≤(O.length:Int)∧(O=[]→y4= .nil)∧(P5).ok y6∧((-9223372036854775808)≤y7∧y7≤9223372036854775807∧(y7=0→y0=aE∧y3=aW)):=by
 refine bj F.q70 aa ?_;rcases bW,fw,fS,gk with⟨⟨aJ,rfl,eC,eg⟩,⟨bx,rfl,oj,om⟩,⟨db,rfl,sn,sq⟩,⟨hJ,rfl,yD,yE⟩⟩
 refine r0 14 aa ?_;refine bm aa ?_ ?_<;>intro h1
 ·exact W
 refine ro 2 aa (bJ aa aa (ay aa (oV F ai ai) ?_));rintro _ _⟨_,rfl,by2_0,rfl⟩;refine ro 3 aa ?_;refine cH aa ?_ ?_<;>intro h3
 ·exact W
 refine rc 11 aa (bd [16,5,4,3,2,1,0] [4,3,2] aa aa (fun e0 b0 k VE B=>∃L A,an ((6,.d (dJ L))::(7,.d (dJ A))::e0) VE∧an b0 B∧k=((G.length:Int) -A).toNat∧(0≤L∧L≤A)∧(0≤A∧(A≤(G.length:Int)∨A=0))) ?_ fin);rintro _ VE B⟨L,A,hV,hB,rfl,bS,cM⟩;refine aU _ _ hV hB (aB 6 aa (aO aa I ?_));refine ro 2 aa ?_;refine au aa ?_ ?_<;>intro g4
 ·refine rc 9 aa ?_;obtain⟨_,⟨tu,rfl,xj,xk⟩,Br,xR,Jk,M3,eW⟩:=qI A M;refine aR (aI aa aa I ae eW aa ?_);refine rq 1 aa (cD aa aa (dx aa aa ?_));refine rq 4 aa ?_;refine au aa ?_ ?_<;>intro h6
  ·exact W
  refine rc 6 aa (aR (aI aa aa I ae eW aa ?_));refine rq 1 aa (cD aa aa (dx aa aa ?_));exact W
 refine aB 6 aa (aO aa I ?_);refine ro 2 aa ?_;refine au aa ?_ ?_<;>intro h8
 ·exact W
 refine rc 8 aa (aP aa (ay aa (ag7 F bX bX bX ai I ae M bX) ?_));rintro _ _⟨Jg,agF,rfl,Y,aed,Z⟩;have Bm:af ey [[(dJ db),(dJ hJ)]]:=(cA (aj ai (aj ai bg)) bT);refine adh 53 53 aa aa (fun _=>⟨aa,aa⟩) (aP aa (ay aa (IntSC F (.inl aa) ae Bm Y ae Z) ?_));rintro _ _⟨qA,Mc,rfl,U,Rg,Lg⟩;refine aR (aO aa U ?_);refine rq 2 aa ?_;refine au aa ?_ ?_<;>intro nC
 ·exact W
 refine rc 6 aa ?_;obtain⟨Fb,BE,Ju⟩:=bz (z:=L) (n:=G.length+1) ae ae;refine aR (eI (l:=0) (h:=Fb) rfl I M rfl OD ⟨_,(by rw[←BE];rfl)⟩ rfl ae ae (fun d14 zq hd14 Ou hr14=>?_));refine aP aa (VI.fresh aa (dQ (ys:=zq) 64 aa aa aa aa aa (.sD hd14 (cO hr14 aa)) ao ae ?_));refine rq 2 aa (nM 2 aa (fun p15=>?_));refine Qg 2 aa trivial aa aa (aX (rows:=zq) (ys:=[[(dJ bx),(dJ db),(dJ hJ)]]) aa aa aa (.bs (rows:=[[(dJ bx),(dJ db),(dJ hJ)]]) aa) ao ae bN bN ?_);refine rq 1 aa (Qh aa aa trivial ⟨aa,trivial,trivial,trivial,trivial,trivial⟩ (VI.TI (b:=2) aa (oJ (b:=2) aa aa aa ?_)));refine rq 1 aa ?_;obtain⟨jQ,pB,pC⟩:=bz (z:=L) (n:=G.length+1) ae ae;refine aR (eI (l:=jQ) (h:=G.length) rfl I M rfl OD rfl ⟨_,(by rw[←pB];rfl)⟩ ae ae (fun d17 sL Bw Ew Ez=>?_));refine aP aa (aX (rows:=(zq++[[(dJ bx),(dJ db),(dJ hJ)]])) (ys:=sL) aa aa aa (.sD Bw (cO Ez aa)) ao ae (fun h=>absurd h bB) (fun h=>absurd h bB) ?_);exact rq 1 aa (lk 72 64 aa aa (fun _=>⟨aa,aa⟩) (W))
end Go.Ev.Rp
namespace Go.Ev.Rp
open Go Go.Ev.Pp
attribute [local irreducible] VC VO VQ VI Sound cm
theorem ag8{T:aN}(F:FT T){L M O U Y Z a6 a7 a8 a9:DC}(z:tJ.ok L)(bW:(Ty.x).ok M)(cG:(Ty.x).ok O)(cn:(Ty.x).ok U)(bZ:(Ty.x).ok Y)(cl:(Ty.x).ok Z)(A:tJ.ok a6)(G:tJ.ok a7)(I:tJ.ok a8)(iO:(Ty.x).ok a9):Sound T 127 [.agg [.d L,.d M,.d O,.d U,.d Y,.d Z],.agg [.d a6,.d a7,.d a8,.d a9]] fun r=>∃y0,r= .d y0∧tJ.ok y0:=by
 refine bj F.q127 aa ?_;rcases z,A,G,I with⟨⟨aE,rfl,iU,iV⟩,⟨bx,rfl,oj,om⟩,⟨db,rfl,sn,sq⟩,⟨hJ,rfl,yD,yE⟩⟩
 exact W
theorem RetC{T:aN}(F:FT T){a0 a1 a2 a3 a4 a5 a6:DC}(O:tJ.ok a0)(bW:(Ty.x).ok a1)(cG:(Ty.x).ok a2)(U:tJ.ok a3){A:ak}(G:aA A a4)(fu:A.length≤13)(M:af je A)(cl:(Ty.x).ok a5)(Y:tJ.ok a6):Sound T 7 [.agg [.d a0,.d a1,.d a2,.d a3,.d a4,.d a5],.d a6] fun r=>∃y0,r= .d y0∧(Ty.b).ok y0:=by
 refine bj F.q7 aa ?_;rcases O,U,Y with⟨⟨aE,rfl,iU,iV⟩,⟨aW,rfl,mA,mB⟩,⟨bx,rfl,oj,om⟩⟩
 refine r0 11 aa ?_;refine bm aa ?_ ?_<;>intro h1
 ·exact W
 refine ro 6 aa ?_;refine au aa ?_ ?_<;>intro h2
 ·exact W
 refine rc 7 aa (bd [13,4,2,1,0] [2] aa aa (fun e0 b0 k VE B=>∃z,an ((5,.d (dJ z))::e0) VE∧an b0 B∧dP k 0 z (A.length:Int)) ?_ fin);rintro _ VE B⟨z,hV,hB,rfl,bS⟩;refine aU _ _ hV hB (aB 6 aa (aO aa G ?_));refine ro 2 aa ?_;refine au aa ?_ ?_<;>intro g3
 ·refine rc 8 aa ?_;obtain⟨pw,Z,fo,I,sg,L,cY⟩:=qI z M;refine ax (aI aa aa G ae cY aa ?_);refine aK 3 aa (ay aa (MQ F I L ai) ?_);rintro _ _⟨gV,rfl,rK⟩;exact W
 exact W
theorem IsDayC{T:aN}(F:FT T){A:DC}(z:tJ.ok A):Sound T 212 [.d A] fun r=>∃G,r= .d G∧(Ty.b).ok G:=by
 refine bj F.q212 aa ?_;obtain⟨aE,rfl,I,L⟩:=z;exact W
theorem usableC{T:aN}(F:FT T){Y Z a2 a3 a4 a5:DC}(z:tJ.ok Y)(A:(Ty.l 1000000000 cC).ok Z)(G:tJ.ok a2)(I:tJ.ok a3)(L:tJ.ok a4)(M:tJ.ok a5):Sound T 124 [.agg [.d Y,.d Z,.d a2,.d a3,.d a4,.d a5]] fun r=>∃y0,r= .d y0∧(Ty.b).ok y0:=by
 refine bj F.q124 aa ?_;rcases z,A,G,I,L,M with⟨⟨aE,rfl,iU,iV⟩,⟨bL,cN,df,cb⟩,⟨bf,rfl,lJ,lK⟩,⟨aW,rfl,mA,mB⟩,⟨bR,rfl,oq,ot⟩,⟨cQ,rfl,ov,ow⟩⟩
 refine bY 9 aa (ay aa (GI F ai ai) ?_);rintro _ _⟨_,rfl,O,rfl⟩;refine ro 1 aa ?_;refine bm aa ?_ ?_<;>intro h2
 ·refine ro 2 aa (bJ aa aa (ay aa (oV F ai ai) ?_));rintro _ _⟨jL,rfl,U⟩;exact W
 exact W
end Go.Ev.Rp
namespace Go.Ev.Rp
open Go Go.Ev.Pp
attribute [local irreducible] VC VO VQ VI Sound cm
theorem ag9{T:aN}(F:FT T){X:List Int}{P:DC→Prop}{a0 a1 a2 a3:DC}(cU:(Ty.q (P)).ok a0)(bW:(Ty.q (fb X)).ok a1)(cG:(Ty.q (P)).ok a2)(cn:(Ty.q (fb X)).ok a3)(hX:X.length≤2000000)(hP:∀d,P d→∃w,aA w d∧w.length≤1000000000∧af cC w):Sound T 429 [.agg [.d a0,.d a1],.agg [.d a2,.d a3]] fun r=>∃y0,r= .d y0∧(Ty.b).ok y0:=by
 refine bj F.aiG aa ?_;obtain⟨bP,G,cK,I⟩:=hP _ (Ty.bA cU);obtain⟨bL,L,z⟩:=Ty.bA bW;have M:=z.1;have df:=cw.len z;obtain⟨bt,O,dc,U⟩:=hP _ (Ty.bA cG);obtain⟨de,Y,A⟩:=Ty.bA cn;have Z:=A.1;have fI:=cw.len A;refine bY 12 aa (ay aa (xQ F (aM G ae I) (aM O ae U)) ?_);rintro _ _⟨_,rfl,ago,rfl,R5,R6⟩;refine ro 4 aa (rp 3 aa ?_);refine bm aa ?_ ?_<;>intro h2
 ·exact W
 refine ro 3 aa ?_;refine bm aa ?_ ?_<;>intro g3
 ·refine ro 4 aa (bJ aa aa (ay aa (afR F L ae M Y ae Z) ?_));rintro _ _⟨fJ,rfl,o5⟩;exact W
 exact W
theorem sortP_{T:aN}{X:List Int}{P:DC→Prop}(F:FT T)(hX:X.length≤2000000)(hP:∀d,P d→∃w,aA w d∧w.length≤1000000000∧af cC w)(N:Nat):∀{a0:DC}{O:ak}(Z:aA O a0)(cK:O.length≤1000000000)(bM:af [.q (P),.q (fb X)] O)(hN:O.length≤N),Sound T 334 [.d a0] fun r=>∃(y0:DC)(bu:ak),r= .d y0∧aA bu y0∧(bu.length:Int)≤O.length∧af [.q (P),.q (fb X)] bu∧0≤(bu.length:Int)∧(bu=[]→y0= .nil):=by
 induction N using Nat.strongRecOn with
 |_ N ih=>
 intro a0 O Z cK bM hN;refine bj F.aiC aa (bY 8 aa (aO aa Z ?_));refine ro 2 aa ?_;refine au aa ?_ ?_<;>intro g1
 ·refine aB 3 aa (dQ (ys:=O) 12 aa aa aa aa aa (.sD Z (cO bM aa)) ao ae ?_);exact ro 2 aa (cf 2 12 aa aa (fun _=>⟨aa,aa⟩) (W))
 refine rc 5 aa (aR (aO aa Z ?_));refine aR (wY aa aa aa aa ae ae ae ao ?_);obtain⟨j2,sP,pR⟩:=bz (z:=((O.length:Int)/2)) (n:=O.length+1) ae ae;refine aR (eI (l:=0) (h:=j2) rfl Z bM rfl (tq ae) ⟨_,(by rw[←sP];rfl)⟩ rfl ae ae (fun d3 w3 Xp O8 Xq=>?_));refine aP aa (ay aa (ih (w3).length ae Xp ae Xq (bq _)) ?_);rintro _ _⟨fJ,jH,rfl,A,th,U,xn,C6⟩;refine cZ 2 aa (aO aa Z ?_);refine aR (wY aa aa aa aa ae ae ae ao ?_);obtain⟨j5,Cc,Cd⟩:=bz (z:=((O.length:Int)/2)) (n:=O.length+1) ae ae;refine aR (eI (l:=j5) (h:=O.length) rfl Z bM rfl (tq ae) rfl ⟨_,(by rw[←Cc];rfl)⟩ ae ae (fun d6 w6 Xr Xs Xt=>?_));refine aP aa (ay aa (ih (w6).length ae Xr ae Xt (bq _)) ?_);rintro _ _⟨qS,Dx,rfl,G,adU,Y,hmy7_0,hey7_0⟩;refine rq 14 aa (dh 5 90 82 48 2 aa aa (bd [10,4,3,2,0] [] aa aa (fun e0 b0 k VE B=>∃L M I,an ((5,.ac 90 I.length 2)::(6,.d (dJ L))::(7,.d (dJ M))::e0) VE∧an ((90,.acc 82 48 2 I)::b0) B∧k=((jH.length:Int)+Dx.length-L-M).toNat∧(0≤L∧L≤(jH.length:Int))∧(0≤M∧M≤(Dx.length:Int))∧((I.length:Int)≤L+M)∧(af [.q (P),.q (fb X)] I)) ?_ fin));rintro _ VE B⟨L,M,I,hV,hB,rfl,bS,cM,ug,nO⟩;refine aU _ _ hV hB (aB 5 aa (aO aa A ?_));refine ro 2 aa ?_;refine bm aa ?_ ?_<;>intro g8
 ·refine ro 6 aa (eG aa aa (rc 6 aa (aR (aO aa G ?_))));refine rq 2 aa ?_;refine dw aa ?_ ?_<;>intro g9
  ·refine rq 5 aa (bK aa (bK aa (bK aa (dA aa (bK aa (bK aa (bK aa (dA aa (dA aa ?_)))))))));refine bK aa (rq 3 aa (eG aa aa (rc 5 aa ?_)));obtain⟨n5,ql,rQ,Am,gY⟩:=qI L U;refine ax (aI aa aa A ae gY aa ?_);obtain⟨adV,abv,abw,abx⟩:=hP _ (Ty.bA ql);obtain⟨wx10_1,hdx10_1,acr⟩:=Ty.bA Am;have hrx10_1:=acr.1;have hnx10_1:=cw.len acr;refine ro 2 aa ?_;refine ax (aX (rows:=I) (ys:=[[n5,rQ]]) rfl rfl rfl (.bs (rows:=[[n5,rQ]]) rfl) ao ae (fun h=>by rw[h];rfl) (fun h=>by rw[h];rfl) ?_);exact W
  refine rq 2 aa (ca aa aa (aO aa A ?_));refine rq 2 aa ?_;refine dw aa ?_ ?_<;>intro ld
  ·refine rq 2 aa ?_;obtain⟨qu,nP,tv,xq,gI⟩:=qI M Y;refine ca aa aa (aI aa aa G ae gI aa ?_);refine rq 3 aa ?_;obtain⟨qv,nQ,AT,SA,lP⟩:=qI L U;refine ca aa aa (aI aa aa A ae lP aa ?_);refine rq 1 aa (eL aa aa aa (ay aa (ag9 (X:=X) (P:=P) F nP xq nQ SA ae hP) ?_));rintro _ _⟨_,rfl,by14_0,rfl⟩;refine rq 4 aa ?_;refine cH aa ?_ ?_<;>intro Kf
   ·refine aB 5 aa (aI aa aa A ae lP aa ?_);obtain⟨wx13_0,hdx13_0,hnx13_0,hrx13_0⟩:=hP _ (Ty.bA nQ);obtain⟨adX,Lj,acs⟩:=Ty.bA SA;have Lk:=acs.1;have abB:=cw.len acs;refine ro 2 aa ?_;refine ax (aX (rows:=I) (ys:=[[qv,AT]]) rfl rfl rfl (.bs (rows:=[[qv,AT]]) rfl) ao ae (fun h=>by rw[h];rfl) (fun h=>by rw[h];rfl) ?_);exact W
   refine aB 5 aa (aI aa aa G ae gI aa ?_);obtain⟨adY,QW,abC,abD⟩:=hP _ (Ty.bA nP);obtain⟨adW,aby,acu⟩:=Ty.bA xq;have abA:=acu.1;have abz:=cw.len acu;refine ro 2 aa ?_;refine ax (aX (rows:=I) (ys:=[[qu,tv]]) rfl rfl rfl (.bs (rows:=[[qu,tv]]) rfl) ao ae (fun h=>by rw[h];rfl) (fun h=>by rw[h];rfl) ?_);exact W
  refine rq 13 aa (eo aa aa (rc 5 aa ?_));obtain⟨AQ,GK,AU,St,qR⟩:=qI M Y;refine ax (aI aa aa G ae qR aa ?_);obtain⟨wx16_0,hdx16_0,hnx16_0,hrx16_0⟩:=hP _ (Ty.bA GK);obtain⟨wx16_1,hdx16_1,acv⟩:=Ty.bA St;have hrx16_1:=acv.1;have hnx16_1:=cw.len acv;refine ro 2 aa ?_;refine ax (aX (rows:=I) (ys:=[[AQ,AU]]) rfl rfl rfl (.bs (rows:=[[AQ,AU]]) rfl) ao ae (fun h=>by rw[h];rfl) (fun h=>by rw[h];rfl) ?_);exact W
 refine ro 2 aa (bJ aa aa (aO aa G ?_));refine ro 3 aa ?_;refine au aa ?_ ?_<;>intro sN
 ·refine rc 6 aa (aR (aO aa G ?_));refine rq 2 aa ?_;refine dw aa ?_ ?_<;>intro sO
  ·refine rq 5 aa (bK aa (bK aa (bK aa (dA aa (bK aa (bK aa (bK aa (dA aa (dA aa ?_)))))))));refine bK aa (rq 3 aa (eG aa aa (rc 5 aa ?_)));obtain⟨xU,GR,Dy,aek,ng⟩:=qI L U;refine ax (aI aa aa A ae ng aa ?_);obtain⟨wx19_0,hdx19_0,hnx19_0,hrx19_0⟩:=hP _ (Ty.bA GR);obtain⟨wx19_1,hdx19_1,acw⟩:=Ty.bA aek;have hrx19_1:=acw.1;have hnx19_1:=cw.len acw;refine ro 2 aa ?_;refine ax (aX (rows:=I) (ys:=[[xU,Dy]]) rfl rfl rfl (.bs (rows:=[[xU,Dy]]) rfl) ao ae (fun h=>by rw[h];rfl) (fun h=>by rw[h];rfl) ?_);exact W
  refine rq 2 aa (ca aa aa (aO aa A ?_));refine rq 2 aa ?_;refine dw aa ?_ ?_<;>intro Xu
  ·refine rq 2 aa ?_;obtain⟨vq,u6,tw,Ao,lQ⟩:=qI M Y;refine ca aa aa (aI aa aa G ae lQ aa ?_);refine rq 3 aa ?_;obtain⟨ml,qh,mo,tm,vV⟩:=qI L U;refine ca aa aa (aI aa aa A ae vV aa ?_);refine rq 1 aa (eL aa aa aa (ay aa (ag9 (X:=X) (P:=P) F u6 Ao qh tm ae hP) ?_));rintro _ _⟨_,rfl,by23_0,rfl⟩;refine rq 4 aa ?_;refine cH aa ?_ ?_<;>intro Cf
   ·refine aB 5 aa (aI aa aa A ae vV aa ?_);obtain⟨LW,Lm,QX,Ln⟩:=hP _ (Ty.bA qh);obtain⟨LV,Gg,acx⟩:=Ty.bA tm;have Gh:=acx.1;have Ll:=cw.len acx;refine ro 2 aa ?_;refine ax (aX (rows:=I) (ys:=[[ml,mo]]) rfl rfl rfl (.bs (rows:=[[ml,mo]]) rfl) ao ae (fun h=>by rw[h];rfl) (fun h=>by rw[h];rfl) ?_);exact W
   refine aB 5 aa (aI aa aa G ae lQ aa ?_);obtain⟨wx21_0,hdx21_0,hnx21_0,hrx21_0⟩:=hP _ (Ty.bA u6);obtain⟨wx21_1,abE,acy⟩:=Ty.bA Ao;have abF:=acy.1;have hnx21_1:=cw.len acy;refine ro 2 aa ?_;refine ax (aX (rows:=I) (ys:=[[vq,tw]]) rfl rfl rfl (.bs (rows:=[[vq,tw]]) rfl) ao ae (fun h=>by rw[h];rfl) (fun h=>by rw[h];rfl) ?_);exact W
  refine rq 13 aa (eo aa aa (rc 5 aa ?_));obtain⟨Dz,aeB,DA,SD,vW⟩:=qI M Y;refine ax (aI aa aa G ae vW aa ?_);obtain⟨wx25_0,hdx25_0,hnx25_0,hrx25_0⟩:=hP _ (Ty.bA aeB);obtain⟨wx25_1,hdx25_1,acz⟩:=Ty.bA SD;have hrx25_1:=acz.1;have hnx25_1:=cw.len acz;refine ro 2 aa ?_;refine ax (aX (rows:=I) (ys:=[[Dz,DA]]) rfl rfl rfl (.bs (rows:=[[Dz,DA]]) rfl) ao ae (fun h=>by rw[h];rfl) (fun h=>by rw[h];rfl) ?_);exact W
 exact rc 6 aa (cf 2 90 aa aa (fun _=>⟨aa,aa⟩) (W))
theorem aha{T:aN}(F:FT T){X:List Int}{P:DC→Prop}{O:DC}{A:ak}(G:aA A O)(I:A.length≤1000000000)(L:af [.q (P),.q (fb X)] A)(U:X.length≤2000000)(Y:∀d,P d→∃w,aA w d∧w.length≤1000000000∧af cC w):Sound T 334 [.d O] fun r=>∃M z,r= .d M∧aA z M∧(z.length:Int)≤A.length∧af [.q (P),.q (fb X)] z∧0≤(z.length:Int)∧(z=[]→M= .nil):=sortP_ F U Y _ G I L (bq _)
theorem Uz{T:aN}(F:FT T){X:List Int}{m:Nat}{Y:DC}{A:ak}(G:aA A Y)(I:A.length≤1000000000)(L:af (dK X m) A)(Z:X.length≤2000000)(hm:m≤100000000):Sound T 334 [.d Y] fun r=>∃M z,r= .d M∧aA z M∧(z.length:Int)≤A.length∧af (dK X m) z∧0≤(z.length:Int)∧(z=[]→M= .nil):=Sound.mono (aha (P:=(Ty.l m cC).ok) F G I (rowP_of L) Z (fun d h=>by obtain⟨w,O,h2,U⟩:=Ty.aM h;exact⟨w,O,eZ h2 ae,U⟩)) fun r hp=>by
 obtain⟨M,z,O,h2,U,h4,h5,h6⟩:=hp;exact⟨M,z,O,h2,U,rowW_of h4,h5,h6⟩
theorem multM{T:aN}(F:FT T){X:List Int}{m:Nat}{a0 a1:DC}{G:ak}(M:aA G a0)(cK:G.length≤1000000000)(U:af (dK X m) G){O:ak}(Y:aA O a1)(df:O.length≤1000000000)(Z:af cC O)(hX:X.length≤2000000)(hm:m≤100000000):Sound T 520 [.d a0,.d a1] fun r=>∃y0,r= .d y0∧(Ty.i .i64 0 1000000000).ok y0:=by
 refine bj F.q520 aa (r0 14 aa (bd [4,1,0] [] aa aa (fun e0 b0 k VE B=>∃A z,an ((5,.d (dJ A))::(6,.d (dJ z))::e0) VE∧an b0 B∧k=((G.length:Int) -z).toNat∧(0≤A∧A≤z)∧(0≤z∧(z≤(G.length:Int)∨z=0))) ?_ fin));rintro _ VE B⟨A,z,hV,hB,rfl,bS,cM⟩;refine aU _ _ hV hB (aB 5 aa (aO aa M ?_));refine ro 2 aa ?_;refine au aa ?_ ?_<;>intro g1
 ·refine rc 7 aa ?_;obtain⟨gW,⟨qy,I,xr,L⟩,fP,jf,bQ⟩:=qI z U;refine ax (aI aa aa M ae bQ aa ?_);refine aK 3 aa (ay aa (xQ F (aM I ae L) (aM Y ae Z)) ?_);rintro _ _⟨jL,rfl,mj⟩;exact W
 exact W
theorem UnionM{T:aN}(F:FT T){X:List Int}{m:Nat}{U Y:DC}{z:ak}(I:aA z U)(Z:z.length≤4096)(L:af (dK X m) z){A:ak}(M:aA A Y)(df:A.length≤4096)(O:af (dK X m) A)(hX:X.length≤2000000)(hm:m≤100000000):Sound T 330 [.d U,.d Y] fun r=>∃y0 G,r= .d y0∧aA G y0∧(G.length:Int)≤8192∧af (dK X m) G:=by
 refine bj F.q330 aa (bY 7 aa (dQ (ys:=z) 6 aa aa aa aa aa (.sD I (cO L aa)) ao ae ?_));refine ro 1 aa ?_;refine ax (aX (rows:=z) (ys:=A) rfl rfl rfl (.sD M (cO O rfl)) ao ae (fun h=>by rw[h];rfl) (fun h=>by rw[h];rfl) ?_);exact ro 2 aa (cf 4 6 aa aa (fun _=>⟨aa,aa⟩) (W))
theorem SelectX{T:aN}(F:FT T){X:List Int}{m:Nat}{a0 a1 a2:DC}{I:ak}(U:aA I a0)(cK:I.length≤1000000000)(bM:af (dK X m) I){bL:ak}(cN:aA bL a1)(df:bL.length≤200)(cb:af ew bL)(cG:tJ.ok a2)(hX:X.length≤2000000)(hm:m≤100000000):Sound T 327 [.d a0,.d a1,.d a2] fun r=>∃y0 L,r= .d y0∧aA L y0∧(L.length:Int)≤I.length∧af (dK X m) L∧0≤(L.length:Int)∧(L=[]→y0= .nil):=by
 refine bj F.q327 aa ?_;obtain⟨bf,rfl,lJ,lK⟩:=cG;refine bY 12 aa (aO aa U ?_);refine ro 3 aa (dh 7 90 82 48 2 aa aa (bd [11,10,6,2,1,0] [] aa aa (fun e0 b0 k VE B=>∃z A,an ((7,.ac 90 A.length 2)::(12,.d (dJ z))::e0) VE∧an ((90,.acc 82 48 2 A)::b0) B∧k=((I.length:Int) -z).toNat∧(0≤z∧(z≤(I.length:Int)∨z=0))∧((A.length:Int)≤z)∧(af (dK X m) A)) ?_ fin));rintro _ VE B⟨z,A,hV,hB,rfl,bS,cM,GU⟩;refine aU _ _ hV hB (rc 5 aa ?_);refine au aa ?_ ?_<;>intro g1
 ·refine rc 5 aa ?_;obtain⟨Y,⟨qy,M,xr,O⟩,Z,jf,bQ⟩:=qI z bM;refine ax (aI aa aa U ae bQ aa ?_);refine aK 10 aa (ay aa (AW F cN ae cb ai M ae O) ?_);rintro _ _⟨jL,Ey,I5,rfl,mj,M1,Iv⟩;refine ax (ay aa (xT F mj M1 Iv) ?_);rintro _ _⟨_,rfl,agY,rfl⟩;refine ro 1 aa ?_;refine cH aa ?_ ?_<;>intro h5
  ·refine rc 1 aa ?_;obtain⟨n7,nU,G⟩:=Ty.bA jf;have nV:=G.1;have nR:=cw.len G;refine rp 3 aa ?_;refine ax (aX (rows:=A) (ys:=[[Y,Z]]) rfl rfl rfl (.bs (rows:=[[Y,Z]]) rfl) ao ae (fun h=>by rw[h];rfl) (fun h=>by rw[h];rfl) ?_);exact W
  exact W
 exact rc 6 aa (cf 6 90 aa aa (fun _=>⟨aa,aa⟩) (W))
end Go.Ev.Rp
namespace Go.Ev.Rp
open Go Go.Ev.Pp
attribute [local irreducible] VC VO VQ VI Sound cm
theorem AsOfX{T:aN}(F:FT T){X:List Int}{a0 a1:DC}{U:ak}(cr:aA U a0)(cK:U.length≤100000)(bM:af (TL X) U)(bW:tJ.ok a1)(hX:X.length≤2000000):Sound T 64 [.d a0,.d a1] fun r=>∃y0 Y,r= .d y0∧aA Y y0∧(Y.length:Int)≤100000∧af (MJ X) Y∧0≤(Y.length:Int)∧(Y=[]→y0= .nil):=by
 refine bj F.q64 aa ?_;obtain⟨aJ,rfl,eC,eg⟩:=bW;refine bY 12 aa (aO aa cr ?_);refine ro 3 aa (dh 5 90 148 64 4 aa aa (bd [9,8,4,1,0] [] aa aa (fun e0 b0 k VE B=>∃z A,an ((5,.ac 90 A.length 4)::(10,.d (dJ z))::e0) VE∧an ((90,.acc 148 64 4 A)::b0) B∧k=((U.length:Int) -z).toNat∧(0≤z∧(z≤(U.length:Int)∨z=0))∧((A.length:Int)≤z)∧(af (MJ X) A)) ?_ fin));rintro _ VE B⟨z,A,hV,hB,rfl,bS,cM,nO⟩;refine aU _ _ hV hB (rc 5 aa ?_);refine au aa ?_ ?_<;>intro g1
 ·refine rc 5 aa ?_;obtain⟨gW,iG,Z,⟨n7,M,nR,O⟩,gb,iS,lM,mi,vZ,xX,Wq,A1,bQ⟩:=qI z bM;refine ax (aI aa aa cr ae bQ aa ?_);refine ro 7 aa ?_;obtain⟨G,rfl,qe,hqx2_0⟩:=Ty.bA iG;refine ax (ay aa (usableC F ai (aM M ae O) iS mi xX A1) ?_);rintro _ _⟨_,rfl,AP,rfl⟩;refine ro 1 aa ?_;refine bm aa ?_ ?_<;>intro h4
  ·refine ro 3 aa (bJ aa aa (ay aa (MQ F xX A1 ai) ?_));rintro _ _⟨_,rfl,MW,rfl⟩;refine ro 2 aa ?_;refine cH aa ?_ ?_<;>intro h6
   ·refine rc 9 aa ?_;have J6:af br [[(dJ G)]]:=(cA (aj ai bg) bT);refine eT 29 29 aa aa (fun _=>⟨aa,aa⟩) ?_;rcases Ty.dH iS,Ty.dH mi with⟨⟨I,rfl,uX,uY⟩,⟨L,rfl,aeh,aei⟩⟩
    refine ro 2 aa ?_;refine ax (aX (rows:=A) (ys:=[[Z,(dJ I),(dJ L),(.sl [[(dJ G)]])]]) rfl rfl rfl (.bs (rows:=[[Z,(dJ I),(dJ L),(.sl [[(dJ G)]])]]) rfl) ao ae (fun h=>by rw[h];rfl) (fun h=>by rw[h];rfl) ?_);refine aK 3 aa (bC aa aa ae ae ?_);exact cW 2 aa (⟨((U.length:Int) -((z+1))).toNat,ae,(z+1),(A++[[Z,(dJ I),(dJ L),(.sl [[(dJ G)]])]]),⟨aa,aa,aa,aa,aa,aa,aa,trivial⟩,⟨aa,trivial⟩,aa,ae,cJ,(dC nO (dr (aj (aM M ae O) (aj ai (aj ai (aj (bA (fb.one hqx2_0 qe)) bg))))))⟩)
   exact W
  exact W
 exact rc 6 aa (cf 4 90 aa aa (fun _=>⟨aa,aa⟩) (W))
theorem TAsX{T:aN}(F:FT T){X:List Int}{a0 a1:DC}{G:ak}(U:aA G a0)(cK:G.length≤16)(bM:af (TN X) G)(bW:tJ.ok a1)(hX:X.length≤2000000):Sound T 31 [.d a0,.d a1] fun r=>∃y0 I,r= .d y0∧aA I y0∧(I.length:Int)≤16∧af (MK X) I∧0≤(I.length:Int)∧(I=[]→y0= .nil):=by
 refine bj F.q31 aa ?_;obtain⟨aJ,rfl,eC,eg⟩:=bW;refine bY 12 aa (aO aa U ?_);refine ro 3 aa (dh 5 90 87 64 3 aa aa (bd [9,8,4,1,0] [] aa aa (fun e0 b0 k VE B=>∃z A,an ((5,.ac 90 A.length 3)::(10,.d (dJ z))::e0) VE∧an ((90,.acc 87 64 3 A)::b0) B∧k=((G.length:Int) -z).toNat∧(0≤z∧(z≤(G.length:Int)∨z=0))∧((A.length:Int)≤z)∧(af (MK X) A)) ?_ fin));rintro _ VE B⟨z,A,hV,hB,rfl,bS,cM,nO⟩;refine aU _ _ hV hB (rc 5 aa ?_);refine au aa ?_ ?_<;>intro g1
 ·refine rc 5 aa ?_;obtain⟨_,⟨L,rfl,Ha⟩,Y,⟨n7,nU,nR,nV⟩,gb,⟨Nr,M,Af,O⟩,bQ⟩:=qI z bM;refine ax (aI aa aa U ae bQ aa ?_);refine ro 11 aa (aP aa (ay aa (AsOfX (X:=X) F M ae O ai ae) ?_));rintro _ _⟨Z,o4,rfl,C5,GJ,xl,RU,RV⟩;refine rq 2 aa ?_;refine aP rfl (aX (rows:=A) (ys:=[[(aq L),Y,Z]]) rfl rfl rfl (.bs (rows:=[[(aq L),Y,Z]]) rfl) ao ae (fun h=>by rw[h];rfl) (fun h=>by rw[h];rfl) ?_);exact W
 exact rc 6 aa (cf 4 90 aa aa (fun _=>⟨aa,aa⟩) (W))
theorem TimeX{T:aN}(F:FT T){X:List Int}{a0 a1:DC}{I:ak}(O:aA I a0)(cK:I.length≤100000)(bM:af (MJ X) I)(bW:tJ.ok a1)(hX:X.length≤2000000):Sound T 335 [.d a0,.d a1] fun r=>∃y0 L,r= .d y0∧aA L y0∧(L.length:Int)≤I.length∧af (dK X 13) L∧0≤(L.length:Int)∧(L=[]→y0= .nil):=by
 refine bj F.q335 aa ?_;obtain⟨aJ,rfl,eC,eg⟩:=bW;refine bY 12 aa (aO aa O ?_);refine ro 3 aa (dh 5 90 82 48 2 aa aa (bd [9,8,4,1,0] [] aa aa (fun e0 b0 k VE B=>∃z A,an ((5,.ac 90 A.length 2)::(10,.d (dJ z))::e0) VE∧an ((90,.acc 82 48 2 A)::b0) B∧k=((I.length:Int) -z).toNat∧(0≤z∧(z≤(I.length:Int)∨z=0))∧((A.length:Int)≤z)∧(af (dK X 13) A)) ?_ fin));rintro _ VE B⟨z,A,hV,hB,rfl,bS,cM,M⟩;refine aU _ _ hV hB (rc 5 aa ?_);refine au aa ?_ ?_<;>intro g1
 ·refine rc 5 aa ?_;obtain⟨U,⟨qy,Hb,xr,Aq⟩,fP,Z,gb,iS,Y,mi,bQ⟩:=qI z bM;refine ax (aI aa aa O ae bQ aa ?_);refine aK 9 aa (ay aa (MQ F Z iS ai) ?_);rintro _ _⟨_,rfl,AP,rfl⟩;refine ro 1 aa ?_;refine cH aa ?_ ?_<;>intro h4
  ·refine rc 1 aa ?_;obtain⟨Nd,GV,G⟩:=Ty.bA mi;have Ar:=G.1;have L5:=cw.len G;refine rp 7 aa ?_;refine ax (aX (rows:=A) (ys:=[[U,Y]]) rfl rfl rfl (.bs (rows:=[[U,Y]]) rfl) ao ae (fun h=>by rw[h];rfl) (fun h=>by rw[h];rfl) ?_);exact W
  exact W
 refine rc 1 aa (cf 5 90 aa aa (fun _=>⟨aa,aa⟩) (aB 3 aa (ay aa (Uz (X:=X) (m:=13) F (.acc _) ae M ae ae) ?_)));rintro _ _⟨gV,gR,rfl,jY,qf,jl,rD,qg⟩;exact W
theorem rowsOnX{T:aN}(F:FT T){X:List Int}{a0 a1:DC}{G:ak}(I:aA G a0)(cK:G.length≤16)(bM:af (MK X) G)(bW:tJ.ok a1)(hX:X.length≤2000000):Sound T 216 [.d a0,.d a1] fun r=>∃y0 L,r= .d y0∧aA L y0∧(L.length:Int)≤16∧af (HW X) L∧0≤(L.length:Int)∧(L=[]→y0= .nil):=by
 refine bj F.q216 aa ?_;obtain⟨aJ,rfl,eC,eg⟩:=bW;refine r0 14 aa (dh 5 90 223 64 3 aa aa (bd [4,1,0] [] aa aa (fun e0 b0 k VE B=>∃z A,an ((5,.ac 90 A.length 3)::(6,.d (dJ z))::e0) VE∧an ((90,.acc 223 64 3 A)::b0) B∧k=((G.length:Int) -z).toNat∧(0≤z∧(z≤(G.length:Int)∨z=0))∧((A.length:Int)≤z)∧(af (HW X) A)) ?_ fin));rintro _ VE B⟨z,A,hV,hB,rfl,bS,cM,nO⟩;refine aU _ _ hV hB (aB 5 aa (aO aa I ?_));refine ro 2 aa ?_;refine au aa ?_ ?_<;>intro g1
 ·refine rc 7 aa ?_;obtain⟨_,⟨M,rfl,Ha⟩,Y,⟨n7,nU,nR,nV⟩,gb,⟨Nr,O,Af,U⟩,bQ⟩:=qI z bM;refine aR (aI aa aa I ae bQ aa ?_);refine rq 1 aa (cD aa aa (gm aa (aS aa) (aS aa) ?_));refine cZ 2 aa (aI aa aa I ae bQ aa ?_);refine rq 1 aa (cD aa aa (dx aa aa ?_));refine rq 1 aa (aP aa (ay aa (TimeX (X:=X) F O ae U ai ae) ?_));rintro _ _⟨Z,o4,rfl,C5,GJ,xl,RU,RV⟩;refine rq 2 aa ?_;refine aP rfl (aX (rows:=A) (ys:=[[(aq M),Y,Z]]) rfl rfl rfl (.bs (rows:=[[(aq M),Y,Z]]) rfl) ao ae (fun h=>by rw[h];rfl) (fun h=>by rw[h];rfl) ?_);exact W
 exact rc 6 aa (cf 4 90 aa aa (fun _=>⟨aa,aa⟩) (W))
end Go.Ev.Rp
namespace Go.Ev.Rp
open Go Go.Ev.Pp
attribute [local irreducible] VC VO VQ VI Sound cm
theorem valuesC{T:aN}(F:FT T){a0 a1 a2:DC}{Y:ak}(cr:aA Y a0)(cK:Y.length≤200)(bM:af ew Y){G:ak}(U:aA G a1)(df:G.length≤1000000000)(cb:af br G){Z:ak}(cF:aA Z a2)(dc:Z.length≤1000000000)(bV:af cC Z):Sound T 425 [.d a0,.d a1,.d a2] fun r=>∃y0 I,r= .d y0∧aA I y0∧(I.length:Int)≤G.length∧af cC I∧0≤(I.length:Int)∧(I=[]→y0= .nil):=by
 refine bj F.aiF aa (bY 12 aa (aO aa U ?_));refine ro 3 aa (dh 7 90 121 32 3 aa aa (bd [11,10,6,2,1,0] [] aa aa (fun e0 b0 k VE B=>∃z A,an ((7,.ac 90 A.length 3)::(12,.d (dJ z))::e0) VE∧an ((90,.acc 121 32 3 A)::b0) B∧k=((G.length:Int) -z).toNat∧(0≤z∧(z≤(G.length:Int)∨z=0))∧((A.length:Int)≤z)∧(af cC A)) ?_ fin));rintro _ VE B⟨z,A,hV,hB,rfl,bS,cM,GU⟩;refine aU _ _ hV hB (rc 5 aa ?_);refine au aa ?_ ?_<;>intro g1
 ·refine rc 5 aa ?_;obtain⟨gW,iG,bQ⟩:=qI z cb;refine ax (aI aa aa U ae bQ aa ?_);refine aK 8 aa (ay aa (AW F cr ae bM iG cF ae bV) ?_);rintro _ _⟨_,_,_,rfl,⟨L,rfl,aeZ,ae0⟩,⟨M,rfl,hzy3_1,kzy3_1⟩,O,rfl,hsy3_2⟩;refine ro 1 aa ?_;refine ax (aX (rows:=A) (ys:=[[(dJ L),(dJ M),(aq O)]]) rfl rfl rfl (.bs (rows:=[[(dJ L),(dJ M),(aq O)]]) rfl) ao ae (fun h=>by rw[h];rfl) (fun h=>by rw[h];rfl) ?_);exact W
 exact rc 6 aa (cf 6 90 aa aa (fun _=>⟨aa,aa⟩) (W))
end Go.Ev.Rp
