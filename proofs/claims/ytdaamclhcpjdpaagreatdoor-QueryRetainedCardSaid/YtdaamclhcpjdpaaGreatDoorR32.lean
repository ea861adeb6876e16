/- Part 32 of rules for walks through the code of a program, and of such walks; what each part proves is said by its theorems. -/
import Derived.Test.YtdaamclhcpjdpaaGreatDoorR19
import Derived.Test.YtdaamclhcpjdpaaGreatDoorR21
import Derived.Test.YtdaamclhcpjdpaaGreatDoorR22
import Derived.Test.YtdaamclhcpjdpaaGreatDoorR23
import Derived.Test.YtdaamclhcpjdpaaGreatDoorR25
import Derived.Test.YtdaamclhcpjdpaaGreatDoorR29
import Derived.Test.YtdaamclhcpjdpaaGreatDoorR30
import Derived.Test.YtdaamclhcpjdpaaGreatDoorR31
set_option linter.unusedVariables false
set_option linter.unusedSimpArgs false
noncomputable section
set_option maxRecDepth 100000
set_option maxHeartbeats 4000000
namespace Go.Ev.Rp
open Go Go.Ev.Pp
attribute [local irreducible] VC VO VQ VI Sound cm
theorem ExpandC{T:aN}(F:FT T){a0 a1 a2 a3:DC}(cU:tJ.ok a0)(bW:tJ.ok a1){Y:ak}(M:aA Y a2)(dc:Y.length≤13)(bV:af mw Y){de:ak}(U:aA de a3)(fI:de.length≤1000000000)(eA:af cC de){bR:Int}(pO: -9223372036854775808≤bR)(pP:bR≤9223372036854775807):Sound T 144 [.agg [.d a0,.d a1,.d a2],.d a3,.d (dJ bR)] fun r=>∃y0 bu y2,r= .tuple [.d y0,.d y2]∧aA bu y0∧(bu.length:Int)≤12∧af cC bu∧tJ.ok y2:=by
 refine bj F.q144 aa ?_;rcases cU,bW with⟨⟨aE,rfl,iU,iV⟩,⟨aJ,rfl,eC,eg⟩⟩
 refine bY 10 aa (aO aa U ?_);refine aK 2 aa (aO aa M ?_);refine ro 2 aa ?_;refine bm aa ?_ ?_<;>intro h1
 ·exact W
 refine ro 4 aa ?_;refine au aa ?_ ?_<;>intro h2
 ·exact W
 refine rc 7 aa (bd [20,7,6,3,2,1,0] [3] aa aa (fun e0 b0 k VE B=>∃G,an ((8,.d (dJ G))::e0) VE∧an b0 B∧k=((Y.length:Int) -G).toNat∧(0≤G∧(G≤(Y.length:Int)∨G=0))∧(jD G bR Y)) ?_ fin);rintro _ VE B⟨G,hV,hB,rfl,bS,cM⟩;refine aU _ _ hV hB (aB 6 aa (aO aa M ?_));refine ro 2 aa ?_;refine au aa ?_ ?_<;>intro g3
 ·refine rc 8 aa ?_;obtain⟨_,⟨tt,rfl,qc,qd⟩,fo,mh,sg,rO,cY⟩:=qI G bV;refine ax (aI aa aa M ae cY aa ?_);refine ro 4 aa ?_;refine bm aa ?_ ?_<;>intro h5
  ·exact W
  refine ro 3 aa (bJ aa aa (aI aa aa M ae cY aa ?_));refine ro 6 aa ?_;refine au aa ?_ ?_<;>intro h6
  ·exact W
  refine aB 3 aa (bC aa aa ae ae ?_);refine cW 2 aa ?_;exact⟨((Y.length:Int) -((G+1))).toNat,ae,(G+1),⟨rfl,rfl,rfl,rfl,rfl,rfl,rfl,rfl,trivial⟩,⟨rfl,trivial⟩,rfl,ae,(by first|assumption|exact aaj|exact jD.step (by assumption) ae (by assumption) rfl ae ae)⟩
 refine aB 4 aa (pZ aa aa (fun z7 hz7=>?_));obtain⟨n8,hn8⟩:∃n:Nat,z7=n:=⟨(z7).toNat,(AE ae).symm⟩;refine ax (FH (n:=n8) 47 rfl rfl rfl rfl rfl (by rw[←hn8];rfl) (by rw[←hn8];rfl) ae ae (fun w8 wB uu=>?_));have wA:af cC w8:=by subst wB;exact FG (aj ai (aj ai (aj (bE (s:=[]) ao) bg)))
 refine ro 8 aa (bd [25,20,8,7,6,3,2,1,0] [3] aa aa (fun e0 b0 k VE B=>∃A O L,an ((9,.bs 47 O 3)::(10,.d (dJ A))::e0) VE∧an ((47,.arr 121 32 3 O L)::b0) B∧k=((Y.length:Int) -A).toNat∧(0≤A∧(A≤(Y.length:Int)∨A=0))∧(L.length=O)∧(O=w8.length)∧(af cC L)) ?_ fin);rintro _ VE B⟨A,O,L,hV,hB,rfl,eU,rfl,Od,I⟩;refine aU _ _ hV hB (aB 6 aa (aO aa M ?_));refine ro 2 aa ?_;refine au aa ?_ ?_<;>intro g9
 ·refine rc 8 aa ?_;obtain⟨n5,ql,rQ,Z,H6,An,gY⟩:=qI A eA;refine aR (aI aa aa U ae gY aa ?_);refine cD aa aa (gm aa (aS aa) (aS aa) ?_);refine aP aa (ay aa (adS F ql Z An) ?_);rintro _ _⟨_,rfl,by11_0,rfl⟩;refine rq 2 aa ?_;refine dw aa ?_ ?_<;>intro nC
  ·refine rq 7 aa (bK aa (bK aa (bK aa (bK aa (dA aa (bK aa (dA aa (bK aa (bK aa ?_)))))))));exact bK aa (dA aa (bK aa (rq 2 aa (W))))
  refine rq 2 aa (ca aa aa (aI aa aa U ae gY aa ?_));refine rq 2 aa ?_;obtain⟨ad4,rfl,abj,abk⟩:=Ty.dH ql;refine rp 2 aa ?_;refine dw aa ?_ ?_<;>intro sK
  ·refine rq 2 aa (ca aa aa (aI aa aa U ae gY aa ?_));refine rq 5 aa ?_;obtain⟨_,⟨C4,rfl,Gd,Ge⟩,Ub,aej,_,⟨zx14_2,rfl,hzx14_2,kzx14_2⟩,gX⟩:=qI A bV;refine ca aa aa (aI aa aa M ae gX aa ?_);refine rq 2 aa (rp 4 aa ?_);refine au aa ?_ ?_<;>intro Kf
   ·exact W
   refine rc 6 aa (aR (aI aa aa M ae gX aa ?_));refine rq 1 aa (cD aa aa (dx aa aa ?_));refine aR (dq aa aa ae ae ?_);refine cZ 2 aa (aI aa aa U ae gY aa ?_);refine cD aa aa (gm aa (aS aa) (aS aa) ?_);have kb:=jD.get (n:=bR) dm ae gX rfl;obtain⟨jQ,pB,pC⟩:=bz (z:=(C4-1)) (n:=L.length) ae ae;obtain⟨AQ,GK,AU,St,x16_2,hx16_2,qR⟩:=qN pC I;refine aR (fi rfl (by rw[←pB];rfl) pC ?_);refine gK aa (uD aa aa aa aa aa aa ao ao qR (fun sL Oc Ew=>?_));have aiU:af cC sL:=by rw[Oc];exact e8 I (aj ai (aj Z (aj An bg)))
   rw[←Ew];exact W
  refine rq 15 aa (eo aa aa (rc 6 aa ?_));obtain⟨_,⟨zx18_0,rfl,hzx18_0,kzx18_0⟩,agL,Sx,agM,Sy,nh⟩:=qI A bV;refine aR (aI aa aa M ae nh aa ?_);refine rq 1 aa (cD aa aa (dx aa aa ?_));refine aR (dq aa aa ae ae ?_);refine cZ 2 aa (aI aa aa U ae gY aa ?_);refine cD aa aa (gm aa (aS aa) (aS aa) ?_);have kb:=jD.get (n:=bR) dm ae nh rfl;obtain⟨sQ,Bx,By⟩:=bz (z:=(zx18_0-1)) (n:=L.length) ae ae;obtain⟨xU,GR,Dy,aek,x19_2,hx19_2,ng⟩:=qN By I;refine aR (fi rfl (by rw[←Bx];rfl) By ?_);refine gK aa (uD aa aa aa aa aa aa ao ao ng (fun lW BG yI=>?_));have uf:af cC lW:=by rw[BG];exact e8 I (aj ai (aj Z (aj An bg)))
  rw[←yI];exact W
 exact rc 7 aa (qa 6 47 aa aa (fun _=>⟨aa,aa⟩) (W))
theorem Q2{T:aN}(F:FT T){nv:Nat}{a0 a1 a2 a3 a4 a5 a6:DC}(cU:(Ty.s 1000).ok a0){A:ak}(Vr:1≤A.length)(I:aA A a1)(df:A.length≤nv)(G:af en A)(cG:(Ty.l 200 br).ok a2)(cn:(Ty.l 4 eD).ok a3)(bZ:(Ty.l 4 ee).ok a4){L:ak}(iL:aA L a5)(vX:L.length≤13)(kV:af mw L)(fw:tJ.ok a6)(oA:nv≤99):Sound T 140 [.agg [.d a0,.d a1,.d a2,.d a3,.d a4],.d a5,.d a6] fun r=>∃y0 y1 M y3 y4 y5,r= .agg [.d y0,.d y1,.d y3,.d y4,.d y5]∧(Ty.s 1000).ok y0∧aA M y1∧(M.length:Int)≤nv+1∧af en M∧(Ty.l 200 br).ok y3∧(Ty.l 4 eD).ok y4∧(Ty.l 4 ee).ok y5:=by
 refine bj F.q140 aa ?_;rcases cU,cG,cn,bZ,fw with⟨⟨iP,rfl,kE⟩,⟨bt,cF,dc,bV⟩,⟨de,e6,fI,eA⟩,⟨eu,er,fu,dg⟩,⟨bx,rfl,oj,om⟩⟩
 refine bY 9 aa (aO aa I ?_);refine aK 6 aa (dQ (ys:=A) 14 aa aa aa aa aa (.sD I (cO G aa)) ao ae ?_);refine aK 7 aa (dq aa aa ae ae ?_);obtain⟨j1,Kc,zi⟩:=bz (z:=((A.length:Int) -1)) (n:=((A).length)) ae ae;obtain⟨_,⟨mY,rfl,L0,L1⟩,ajd,hx1_1,aje,hx1_2,nE⟩:=qN zi G;refine ax (cX rfl (by rw[←Kc];rfl) zi ?_);refine aK 2 aa (eX (rows:=A) aa aa nE aa ?_);refine ro 3 aa ?_;refine au aa ?_ ?_<;>intro g2
 ·refine aB 3 aa (dq aa aa ae ae ?_);refine ro 1 aa ?_;obtain⟨j3,B5,wy⟩:=bz (z:=((A.length:Int) -1)) (n:=((A).length)) ae ae;obtain⟨pz,O,ud,U,Eu,qz,fD⟩:=qN wy G;refine ax (cX rfl (by rw[←B5];rfl) wy ?_);refine ro 1 aa (jV (fZ aa aa aa aa aa aa ao ao fD (fun w4 XH Xh=>?_)));have hb4:af en w4:=by rw[XH];exact e8 G (aj O (aj U (aj (aM iL ae kV) bg)))
  rw[←Xh];exact ro 5 aa (eS 44 14 aa aa (fun _=>⟨aa,aa⟩) (W))
 refine aB 4 aa (dq aa aa ae ae ?_);refine ro 1 aa ?_;obtain⟨j5,Cc,Cd⟩:=bz (z:=((A.length:Int) -1)) (n:=((A).length)) ae ae;obtain⟨Et,Y,Br,xR,Jk,Z,eW⟩:=qN Cd G;refine ax (cX rfl (by rw[←Cc];rfl) Cd ?_);refine ro 2 aa (jV (fZ aa aa aa aa aa aa ao ao eW (fun w6 hw6 Xs=>?_)));have O1:af en w6:=by rw[hw6];exact e8 G (aj Y (aj ai (aj Z bg)))
 rw[←Xs];refine aK 8 aa (aX (rows:=w6) (ys:=[[(dJ bx),(dJ 1099511627776),a5]]) aa aa aa (.bs (rows:=[[(dJ bx),(dJ 1099511627776),a5]]) aa) ao ae bN bN ?_);exact ro 6 aa (eS 44 14 aa aa (fun _=>⟨aa,aa⟩) (W))
theorem AddColC{T:aN}(F:FT T){nv:Nat}{a0 a1 a2 a3 a4 a5 a6 a7 a8:DC}(cU:(Ty.s 1000).ok a0){bL:ak}(A:aA bL a1)(df:bL.length≤nv)(G:af en bL)(cG:(Ty.l 200 br).ok a2)(cn:(Ty.l 4 eD).ok a3)(bZ:(Ty.l 4 ee).ok a4)(cl:tJ.ok a5)(fw:(Ty.s 1000).ok a6)(fS:tJ.ok a7)(gk:tJ.ok a8)(oA:nv≤99):Sound T 79 [.agg [.d a0,.d a1,.d a2,.d a3,.d a4],.agg [.d a5,.d a6,.d a7],.d a8] fun r=>∃y0 y1 lV y3 y4 y5 y6,r= .tuple [.agg [.d y0,.d y1,.d y3,.d y4,.d y5],.d y6]∧(Ty.s 1000).ok y0∧aA lV y1∧(lV.length:Int)≤nv+1∧af en lV∧(Ty.l 200 br).ok y3∧(Ty.l 4 eD).ok y4∧(Ty.l 4 ee).ok y5∧tJ.ok y6:=by
 refine bj F.q79 aa ?_;rcases cU,cG,cn,bZ,cl,fw,fS,gk with⟨⟨iP,rfl,kE⟩,⟨bt,I,dc,L⟩,⟨de,M,fI,O⟩,⟨eu,U,fu,Y⟩,⟨cQ,rfl,ov,ow⟩,⟨E7,rfl,Oj⟩,⟨db,rfl,sn,sq⟩,⟨hJ,rfl,yD,yE⟩⟩
 refine bY 11 aa (ay aa (agJ F (bE ah) A ae G (aM I ae L) (aM M ae O) (aM U ae Y) ai) ?_);rintro _ _⟨ez,Bt,v3,xY,Bu,rfl,qw,DH,Z,xu,z,Ik⟩;refine ro 15 aa ?_;refine cH aa ?_ ?_<;>intro h2
 ·exact W
 have k2:=Ik (by simpa using h2);refine aB 4 aa (ay aa (Sm F (bE ah)) ?_);rintro _ _⟨_,rfl,AP,rfl⟩;refine ro 3 aa ?_;refine cH aa ?_ ?_<;>intro h4
 ·exact W
 refine rc 6 aa ?_;refine bm aa ?_ ?_<;>intro h5
 ·exact W
 refine ro 6 aa ?_;refine au aa ?_ ?_<;>intro h6
 ·exact W
 refine aB 5 aa (ay aa (RR F qw DH Z ae z (bE ah)) ?_);rintro _ _⟨qS,rfl,n6⟩;refine ro 3 aa ?_;refine au aa ?_ ?_<;>intro h8
 ·exact W
 refine aB 3 aa (ay aa (LZ F (bE ah) A ae G (aM I ae L) (aM M ae O) (aM U ae Y)) ?_);rintro _ _⟨Jg,rfl,ly9_0,uy9_0,MX⟩;refine ro 3 aa ?_;refine au aa ?_ ?_<;>intro Pc
 ·exact W
 refine aB 4 aa (ay aa (LZ F (bE ah) A ae G (aM I ae L) (aM M ae O) (aM U ae Y)) ?_);rintro _ _⟨qA,rfl,ly11_0,uy11_0,rF⟩;have kw:=p0.le rF.2 MX.1 ae;refine ax (bC aa aa ae ae ?_);refine ro 8 aa (aP aa (VI.fresh aa (dQ (ys:=xY) 55 aa aa aa aa aa (.sD Z (cO z aa)) ao ae ?_)));refine rq 2 aa ?_;refine aP rfl (aX (rows:=xY) (ys:=[[(dJ (qA+1)),(aq E7),(dJ db)]]) rfl rfl rfl (.bs (rows:=[[(dJ (qA+1)),(aq E7),(dJ db)]]) rfl) ao ae (fun h=>by rw[h];rfl) (fun h=>by rw[h];rfl) ?_);refine rq 1 aa (lk 58 55 aa aa (fun _=>⟨aa,aa⟩) (aP aa (ay aa (Q2 (nv:=nv) F (bE ah) ae A ae G (aM I ae L) (aM M ae O) (aM U ae Y) (.acc _) Bg (dC z (dr (aj ai (aj (bE ah) (aj ai bg))))) ai ae) ?_)));rintro _ _⟨DI,agN,ael,agO,agP,agQ,rfl,GW,abH,abI,abJ,aem,aen,aeo⟩;exact W
theorem DropColC{T:aN}(F:FT T){nv:Nat}{a0 a1 a2 a3 a4 a5 a6:DC}(cU:(Ty.s 1000).ok a0){bL:ak}(L:aA bL a1)(df:bL.length≤nv)(M:af en bL)(cG:(Ty.l 200 br).ok a2)(cn:(Ty.l 4 eD).ok a3)(bZ:(Ty.l 4 ee).ok a4)(cl:tJ.ok a5)(fw:tJ.ok a6)(oA:nv≤99):Sound T 80 [.agg [.d a0,.d a1,.d a2,.d a3,.d a4],.d a5,.d a6] fun r=>∃y0 y1 lV y3 y4 y5 y6,r= .tuple [.agg [.d y0,.d y1,.d y3,.d y4,.d y5],.d y6]∧(Ty.s 1000).ok y0∧aA lV y1∧(lV.length:Int)≤nv+1∧af en lV∧(Ty.l 200 br).ok y3∧(Ty.l 4 eD).ok y4∧(Ty.l 4 ee).ok y5∧tJ.ok y6:=by
 refine bj F.q80 aa ?_;rcases cU,cG,cn,bZ,cl,fw with⟨⟨iP,rfl,kE⟩,⟨bt,O,dc,U⟩,⟨de,Y,fI,Z⟩,⟨eu,er,fu,dg⟩,⟨cQ,rfl,ov,ow⟩,⟨bx,rfl,oj,om⟩⟩
 refine bY 10 aa (ay aa (agJ F (bE ah) L ae M (aM O ae U) (aM Y ae Z) (aM er ae dg) ai) ?_);rintro _ _⟨ez,Bt,v3,I,Bu,rfl,qw,DH,A,xu,G,Ik⟩;refine ro 13 aa ?_;refine cH aa ?_ ?_<;>intro h2
 ·exact W
 have k2:=Ik (by simpa using h2);refine aB 5 aa (ay aa (N8 F qw DH A ae G ai) ?_);rintro _ _⟨jL,rfl,mj⟩;refine ro 8 aa ?_;refine au aa ?_ ?_<;>intro h4
 ·exact W
 refine aB 5 aa (aO aa L ?_);refine ro 4 aa ?_;obtain⟨ago,rfl,R5,R6⟩:=Ty.dH qw;refine rp 6 aa ?_;refine bm aa ?_ ?_<;>intro g5
 ·refine ro 3 aa ?_;refine bm aa ?_ ?_<;>intro g6
  ·refine aK 18 aa (aO aa A ?_);refine ro 2 aa ?_;refine bm aa ?_ ?_<;>intro h7
   ·exact W
   refine ro 2 aa (bJ aa aa (ay aa (TZ F (bE ah) (aM L ae M) (aM O ae U) (aM Y ae Z) (aM er ae dg) ai) ?_));rintro _ _⟨ss,rfl,vu⟩;exact W
  refine ro 3 aa (bJ aa aa (dq aa aa ae ae ?_));obtain⟨n5,ql,rQ,Am,H6,⟨wx10_2,Q3,hnx10_2,Q4⟩,gY⟩:=qI ((bL.length:Int) -2) M;refine bJ aa aa (aI aa aa L ae gY aa ?_);refine ro 2 aa (bJ aa aa (ay aa (N8 F ql Am Q3 ae Q4 ai) ?_));rintro _ _⟨qA,rfl,rF⟩;refine aK 10 aa (aO aa A ?_);refine ro 2 aa ?_;refine bm aa ?_ ?_<;>intro nC
  ·exact W
  refine ro 2 aa (bJ aa aa (ay aa (TZ F (bE ah) (aM L ae M) (aM O ae U) (aM Y ae Z) (aM er ae dg) ai) ?_));rintro _ _⟨_,rfl,by13_0,rfl⟩;refine ro 1 aa (rp 1 aa ?_);refine bm aa ?_ ?_<;>intro h14
  ·exact W
  refine ro 3 aa ?_;refine au aa ?_ ?_<;>intro Kf
  ·exact W
  refine rc 7 aa ?_;obtain⟨jQ,pB,pC⟩:=bz (z:=jL) (n:=I.length+1) ae ae;refine aR (eI (l:=0) (h:=jQ) rfl A G rfl (tq ae) ⟨_,(by rw[←pB];rfl)⟩ rfl ae ae (fun d17 sL Bw Ew Ez=>?_));refine aP aa (VI.fresh aa (dQ (ys:=sL) 69 aa aa aa aa aa (.sD Bw (cO Ez aa)) ao ae ?_));refine cZ 3 aa (bC aa aa ae ae ?_);obtain⟨pQ,sh,si⟩:=bz (z:=(jL+1)) (n:=I.length+1) ae ae;refine aR (eI (l:=pQ) (h:=I.length) rfl A G rfl (tq ae) rfl ⟨_,(by rw[←sh];rfl)⟩ ae ae (fun d19 Xf Vm hl19 yF=>?_));refine aP aa (aX (rows:=sL) (ys:=Xf) aa aa aa (.sD Vm (cO yF aa)) ao ae bN bN ?_);refine rq 1 aa (lk 75 69 aa aa (fun _=>⟨aa,aa⟩) (aP aa (ay aa (Q2 (nv:=nv) F (bE ah) ae L ae M (aM O ae U) (aM Y ae Z) (aM er ae dg) (.acc _) Bg (dC Ez yF) ai ae) ?_)));rintro _ _⟨agG,y20_1,wy20_1,y20_3,y20_4,y20_5,rfl,hy20_0,hdy20_1,hny20_1,hry20_1,hy20_3,hy20_4,hy20_5⟩;exact W
 refine ro 3 aa (iZ aa (iZ aa (iZ aa (iZ aa (iZ aa (iZ aa (iZ aa (iZ aa (iZ aa ?_)))))))));refine aK 9 aa (aO aa A ?_);refine ro 2 aa ?_;refine bm aa ?_ ?_<;>intro h21
 ·exact W
 refine ro 2 aa (bJ aa aa (ay aa (TZ F (bE ah) (aM L ae M) (aM O ae U) (aM Y ae Z) (aM er ae dg) ai) ?_));rintro _ _⟨_,rfl,by22_0,rfl⟩;refine ro 1 aa (rp 1 aa ?_);refine bm aa ?_ ?_<;>intro Pb
 ·exact W
 refine ro 3 aa (eo aa aa (rc 7 aa ?_));obtain⟨Pf,V7,ajf⟩:=bz (z:=jL) (n:=I.length+1) ae ae;refine aR (eI (l:=0) (h:=Pf) rfl A G rfl (tq ae) ⟨_,(by rw[←V7];rfl)⟩ rfl ae ae (fun d25 w25 hd25 hl25 ajg=>?_));refine aP aa (VI.fresh aa (dQ (ys:=w25) 69 aa aa aa aa aa (.sD hd25 (cO ajg aa)) ao ae ?_));refine cZ 3 aa (bC aa aa ae ae ?_);obtain⟨zp,BM,yL⟩:=bz (z:=(jL+1)) (n:=I.length+1) ae ae;refine aR (eI (l:=zp) (h:=I.length) rfl A G rfl (tq ae) rfl ⟨_,(by rw[←BM];rfl)⟩ ae ae (fun d27 w27 hd27 hl27 ajh=>?_));refine aP aa (aX (rows:=w25) (ys:=w27) aa aa aa (.sD hd27 (cO ajh aa)) ao ae bN bN ?_);refine rq 1 aa (lk 75 69 aa aa (fun _=>⟨aa,aa⟩) (aP aa (ay aa (Q2 (nv:=nv) F (bE ah) ae L ae M (aM O ae U) (aM Y ae Z) (aM er ae dg) (.acc _) Bg (dC ajg ajh) ai ae) ?_)));rintro _ _⟨H9,y28_1,wy28_1,y28_3,y28_4,y28_5,rfl,aea,hdy28_1,hny28_1,hry28_1,hy28_3,hy28_4,hy28_5⟩;exact W
end Go.Ev.Rp
namespace Go.Ev.Rp
open Go Go.Ev.Pp
attribute [local irreducible] VC VO VQ VI Sound cm
theorem affC{T:aN}(F:FT T){a0 a1 a2 a3 a4:DC}{Y:ak}(cr:aA Y a0)(cK:Y.length≤1000000000)(bM:af jK Y)(bW:tJ.ok a1)(cG:tJ.ok a2){de:ak}(e6:aA de a3)(fI:de.length≤200)(eA:af ew de)(bZ:tJ.ok a4):Sound T 348 [.d a0,.agg [.d a1,.d a2],.d a3,.d a4] fun r=>∃y0 Z,r= .d y0∧aA Z y0∧(Z.length:Int)≤Y.length∧af jK Z∧0≤(Z.length:Int)∧(Z=[]→y0= .nil):=by
 refine bj F.q348 aa ?_;rcases bW,cG,bZ with⟨⟨aJ,rfl,eC,eg⟩,⟨bf,rfl,lJ,lK⟩,⟨bR,rfl,oq,ot⟩⟩
 refine bY 13 aa (aO aa cr ?_);refine ro 3 aa (dh 9 90 156 64 6 aa aa (bd [16,15,8,5,3,2,1,0] [5] aa aa (fun e0 b0 k VE B=>∃L M,an ((9,.ac 90 M.length 6)::(17,.d (dJ L))::e0) VE∧an ((90,.acc 156 64 6 M)::b0) B∧k=((Y.length:Int) -L).toNat∧(0≤L∧(L≤(Y.length:Int)∨L=0))∧((M.length:Int)≤L)∧(af jK M)) ?_ fin));rintro _ VE B⟨L,M,hV,hB,rfl,bS,cM,Sz⟩;refine aU _ _ hV hB (rc 5 aa ?_);refine au aa ?_ ?_<;>intro g1
 ·refine rc 5 aa ?_;obtain⟨_,⟨ka,rfl,qe,rB⟩,fP,⟨n7,O,nR,U⟩,gb,iS,lM,mi,_,⟨agR,rfl,hzx2_4,kzx2_4⟩,_,⟨Nc,rfl,hzx2_5,kzx2_5⟩,bQ⟩:=qI L bM;refine ax (aI aa aa cr ae bQ aa ?_);refine aK 9 aa (ay aa (C3 F iS mi ai ai) ?_);rintro _ _⟨jL,Ey,_,rfl,mj,M1,afS,rfl⟩;refine ro 10 aa (rp 5 aa ?_);refine bm aa ?_ ?_<;>intro h4
  ·exact W
  refine ro 1 aa (rp 3 aa ?_);refine bm aa ?_ ?_<;>intro h5
  ·exact W
  refine ro 4 aa (bJ aa aa (ay aa (AW F e6 ae eA ai O ae U) ?_));rintro _ _⟨kD,vL,qP,rfl,qp,rN,DJ⟩;refine bJ aa aa (ay aa (xT F qp rN DJ) ?_);rintro _ _⟨_,rfl,by7_0,rfl⟩;refine ro 3 aa ?_;refine cH aa ?_ ?_<;>intro h8
  ·exact W
  refine rc 9 aa ?_;rcases Ty.dH iS,Ty.dH mi with⟨⟨MY,rfl,uX,uY⟩,⟨agS,rfl,aeh,aei⟩⟩
  refine rp 3 aa ?_;refine ax (aX (rows:=M) (ys:=[[(dJ ka),fP,(dJ MY),(dJ agS),(dJ agR),(dJ Nc)]]) rfl rfl rfl (.bs (rows:=[[(dJ ka),fP,(dJ MY),(dJ agS),(dJ agR),(dJ Nc)]]) rfl) ao ae (fun h=>by rw[h];rfl) (fun h=>by rw[h];rfl) ?_);refine ro 4 aa (bd [44,18,17,16,15,13,11,8,5,3,2,1,0] [49,12,11,5] aa aa (fun e0 b0 k VE B=>∃G I,an ((9,.ac 90 I.length 6)::(14,.d (dJ G))::e0) VE∧an ((90,.acc 156 64 6 I)::b0) B∧k=(G).toNat∧(0≤G∧G<(I.length:Int))∧((I.length:Int)≤L+1)∧(af jK I)) ?_ fin);rintro _ VE B⟨G,I,hV,hB,rfl,eU,fO,A⟩;refine aU _ _ hV hB (rc 6 aa ?_);refine dw aa ?_ ?_<;>intro g9
  ·refine rq 2 aa (ca aa aa (dq aa aa ae ae ?_));obtain⟨B9,vP,ou⟩:=bz (z:=(G-1)) (n:=I.length) ae ae;obtain⟨_,⟨ad4,rfl,abj,abk⟩,rQ,Am,H6,An,x10_3,hx10_3,x10_4,hx10_4,x10_5,hx10_5,gY⟩:=qN ou A;refine ca rfl rfl (cX rfl (by rw[←vP];rfl) ou ?_);refine rq 1 aa (eL aa aa aa (eX (rows:=I) aa aa gY aa ?_));refine rq 2 aa (rp 3 aa ?_);refine au aa ?_ ?_<;>intro ld
   ·refine aB 8 aa (dq aa aa ae ae ?_);obtain⟨J5,vQ,sj⟩:=bz (z:=(G-1)) (n:=I.length) ae ae;obtain⟨qu,nP,tv,xq,Uc,L6,x12_3,hx12_3,x12_4,hx12_4,x12_5,hx12_5,gI⟩:=qN sj A;refine ax (cX rfl (by rw[←vQ];rfl) sj ?_);refine ax (Cn (rows:=I) aa aa gI (aS aa) (aS aa) ?_);obtain⟨Fb,BE,Ju⟩:=bz (z:=G) (n:=I.length) ae ae;obtain⟨qv,nQ,AT,SA,x13_2,aep,x13_3,aeq,x13_4,aer,x13_5,hx13_5,lP⟩:=qN Ju A;refine ax (cX rfl (by rw[←BE];rfl) Ju ?_);refine jV (fZ aa aa aa aa aa aa ao ao lP (fun zq V8 Ou=>?_));have Of:af jK zq:=by rw[V8];exact e8 A (aj nP (aj xq (aj L6 (aj hx12_3 (aj hx12_4 (aj hx12_5 bg))))))
    rw[←Ou];exact W
   refine rc 5 aa ?_;obtain⟨XC,Jn,BF⟩:=bz (z:=G) (n:=I.length) ae ae;obtain⟨H8,L2,DB,GP,x15_2,hx15_2,x15_3,hx15_3,x15_4,hx15_4,x15_5,hx15_5,BD⟩:=qN BF A;refine ax (cX rfl (by rw[←Jn];rfl) BF ?_);refine jV (fZ aa aa aa aa aa aa ao ao BD (fun XK hw16 aji=>?_));have Og:af jK XK:=by rw[hw16];exact e8 A (aj ai (aj (aM O ae U) (aj ai (aj ai (aj ai (aj ai bg))))))
   rw[←aji];exact W
  refine rq 11 aa (eo aa aa (rc 5 aa ?_));obtain⟨wE,BN,yM⟩:=bz (z:=G) (n:=I.length) ae ae;obtain⟨x17_0,hx17_0,xW,GS,agT,aes,agU,aet,agV,aeu,agW,aev,ji⟩:=qN yM A;refine ax (cX rfl (by rw[←BN];rfl) yM ?_);refine jV (fZ aa aa aa aa aa aa ao ao ji (fun w18 hw18 hl18=>?_));have Vt:af jK w18:=by rw[hw18];exact e8 A (aj ai (aj (aM O ae U) (aj ai (aj ai (aj ai (aj ai bg))))))
  rw[←hl18];exact W
 exact rc 6 aa (cf 8 90 aa aa (fun _=>⟨aa,aa⟩) (W))
theorem agX{T:aN}(F:FT T){a0 a1 a2 a3 a4 a5 a6:DC}{bP:ak}(cr:aA bP a0)(cK:bP.length≤1000000)(bM:af jK bP)(bW:tJ.ok a1)(cG:tJ.ok a2){de:ak}(e6:aA de a3)(fI:de.length≤200)(eA:af ew de)(bZ:tJ.ok a4)(cl:(Ty.b).ok a5){gB:ak}(fY:aA gB a6)(yJ:gB.length≤1000000000)(iM:af ey gB):Sound T 229 [.d a0,.agg [.d a1,.d a2],.d a3,.d a4,.d a5,.d a6] fun r=>∃y0 bu y2 dT,r= .agg [.d y0,.d y2]∧aA bu y0∧(bu.length:Int)≤bP.length∧af br bu∧aA dT y2∧(dT.length:Int)≤3*bP.length∧af jr dT:=by
 refine bj F.q229 aa ?_;rcases bW,cG,bZ,cl with⟨⟨aJ,rfl,eC,eg⟩,⟨bf,rfl,lJ,lK⟩,⟨bR,rfl,oq,ot⟩,⟨Pg,rfl⟩⟩
 refine bY 16 aa (ay aa (affC F cr ae bM ai ai e6 ae eA ai) ?_);rintro _ _⟨ez,fg,rfl,gL,jE,fy,lu,mT⟩;refine ax (aO aa gL ?_);refine ro 3 aa (jz 13 0 90 3 8 1 aa aa aa (jz 13 1 91 148 64 4 aa aa aa (bd [24,23,13,12,7,5,4,3,2,1,0] [12,7] aa aa (fun e0 b0 k VE B=>∃U M A,an ((25,.d (dJ U))::e0) VE∧an ((13,.one 276 48 [.ac 90 M.length 1,.ac 91 A.length 4])::(90,.acc 3 8 1 M)::(91,.acc 148 64 4 A)::b0) B∧k=((fg.length:Int) -U).toNat∧(0≤U∧(U≤(fg.length:Int)∨U=0))∧((M.length:Int)≤U)∧(af br M)∧((A.length:Int)≤3*U)∧(af jr A)) ?_ fin)));rintro _ VE B⟨U,M,A,hV,hB,rfl,bS,cM,hrw13_0_0,js,hrw13_1_0⟩;refine aU _ _ hV hB (rc 5 aa ?_);refine au aa ?_ ?_<;>intro g2
 ·refine rc 5 aa ?_;obtain⟨_,⟨z,rfl,GG,CW⟩,O,⟨wx3_1,aew,hnx3_1,aex⟩,Eu,qz,ajj,Y,ajk,Nf,ajl,Ng,fD⟩:=qI U fy;refine ax (aI aa aa gL ae fD aa ?_);refine ro 6 aa (rp 5 aa ?_);refine ax (aX (rows:=M) (ys:=[[(dJ z)]]) rfl rfl rfl (.bs (rows:=[[(dJ z)]]) rfl) ao ae (fun h=>by rw[h];rfl) (fun h=>by rw[h];rfl) ?_);refine aK 15 aa (ay aa (C3 F qz Y ai ai) ?_);rintro _ _⟨_,_,ue,rfl,⟨I,rfl,hzy4_0,kzy4_0⟩,⟨G,rfl,hzy4_1,kzy4_1⟩,TX⟩;refine ro 10 aa ?_;obtain⟨Z,rfl,hzx3_2,kzx3_2⟩:=Ty.dH qz;refine rp 7 aa ?_;refine au aa ?_ ?_<;>intro g5
  ·have O1:af br [[(dJ z)]]:=(cA (aj ai bg) bT);refine qa 16 38 aa aa (fun _=>⟨aa,aa⟩) (rc 1 aa (rp 13 aa ?_));refine ax (aX (rows:=A) (ys:=[[O,(dJ Z),(dJ I),(.sl [[(dJ z)]])]]) rfl rfl rfl (.bs (rows:=[[O,(dJ Z),(dJ I),(.sl [[(dJ z)]])]]) rfl) ao ae (fun h=>by rw[h];rfl) (fun h=>by rw[h];rfl) ?_);refine ro 8 aa ?_;refine cH aa ?_ ?_<;>intro h7
   ·refine rc 7 aa (aP aa (ay aa (abG F aew ae aex e6 ae eA fY ae iM) ?_));rintro _ _⟨ss,wy8_0,rfl,aey,hny8_0,aez⟩;refine rq 4 aa (aP aa (aX (rows:=(A++[[O,(dJ Z),(dJ I),(.sl [[(dJ z)]])]])) (ys:=[[ss,(dJ I),(dJ G),(.sl [[(dJ z)]])]]) aa aa aa (.bs (rows:=[[ss,(dJ I),(dJ G),(.sl [[(dJ z)]])]]) aa) ao ae (fun h=>absurd h bB) (fun h=>absurd h bB) ?_));refine rq 5 aa ?_;obtain⟨L,rfl,SB,SC⟩:=Ty.dH Y;refine rp 7 aa ?_;refine au aa ?_ ?_<;>intro g9
    ·refine aB 14 aa (aX (rows:=((A++[[O,(dJ Z),(dJ I),(.sl [[(dJ z)]])]])++[[ss,(dJ I),(dJ G),(.sl [[(dJ z)]])]])) (ys:=[[O,(dJ G),(dJ L),(.sl [[(dJ z)]])]]) aa aa aa (.bs (rows:=[[O,(dJ G),(dJ L),(.sl [[(dJ z)]])]]) aa) ao ae (fun h=>absurd h bB) (fun h=>absurd h bB) ?_);exact W
    exact W
   refine rc 3 aa ?_;obtain⟨L,rfl,SB,SC⟩:=Ty.dH Y;refine rp 7 aa ?_;refine au aa ?_ ?_<;>intro sM
   ·refine aB 14 aa (aX (rows:=(A++[[O,(dJ Z),(dJ I),(.sl [[(dJ z)]])]])) (ys:=[[O,(dJ G),(dJ L),(.sl [[(dJ z)]])]]) aa aa aa (.bs (rows:=[[O,(dJ G),(dJ L),(.sl [[(dJ z)]])]]) aa) ao ae (fun h=>absurd h bB) (fun h=>absurd h bB) ?_);exact W
   exact W
  refine rc 6 aa ?_;refine cH aa ?_ ?_<;>intro sJ
  ·have I3:af br [[(dJ z)]]:=(cA (aj ai bg) bT);refine qa 16 38 aa aa (fun _=>⟨aa,aa⟩) (rc 7 aa (aP aa (ay aa (abG F aew ae aex e6 ae eA fY ae iM) ?_)));rintro _ _⟨vt,aeA,rfl,abK,abL,abM⟩;refine rq 4 aa ?_;refine aP rfl (aX (rows:=A) (ys:=[[vt,(dJ I),(dJ G),(.sl [[(dJ z)]])]]) rfl rfl rfl (.bs (rows:=[[vt,(dJ I),(dJ G),(.sl [[(dJ z)]])]]) rfl) ao ae (fun h=>by rw[h];rfl) (fun h=>by rw[h];rfl) ?_);refine rq 5 aa ?_;obtain⟨L,rfl,SB,SC⟩:=Ty.dH Y;refine rp 7 aa ?_;refine au aa ?_ ?_<;>intro B7
   ·refine aB 14 aa (aX (rows:=(A++[[vt,(dJ I),(dJ G),(.sl [[(dJ z)]])]])) (ys:=[[O,(dJ G),(dJ L),(.sl [[(dJ z)]])]]) aa aa aa (.bs (rows:=[[O,(dJ G),(dJ L),(.sl [[(dJ z)]])]]) aa) ao ae (fun h=>absurd h bB) (fun h=>absurd h bB) ?_);exact W
   exact W
  refine rc 3 aa ?_;obtain⟨L,rfl,SB,SC⟩:=Ty.dH Y;refine rp 7 aa ?_;refine au aa ?_ ?_<;>intro ur
  ·have Og:af br [[(dJ z)]]:=(cA (aj ai bg) bT);refine qa 16 38 aa aa (fun _=>⟨aa,aa⟩) (rc 1 aa (rp 13 aa ?_));refine ax (aX (rows:=A) (ys:=[[O,(dJ G),(dJ L),(.sl [[(dJ z)]])]]) rfl rfl rfl (.bs (rows:=[[O,(dJ G),(dJ L),(.sl [[(dJ z)]])]]) rfl) ao ae (fun h=>by rw[h];rfl) (fun h=>by rw[h];rfl) ?_);exact W
  exact W
 exact rc 4 aa (eS 103 90 aa aa dz (eS 103 91 aa aa dz (W)))
theorem abN{T:aN}(F:FT T){a0 a1 a2 a3 a4:DC}{z:ak}(L:aA z a0)(cK:z.length≤1000000)(M:af jK z)(bW:tJ.ok a1)(cG:tJ.ok a2){A:ak}(O:aA A a3)(fI:A.length≤200)(U:af ew A)(bZ:tJ.ok a4):Sound T 148 [.d a0,.agg [.d a1,.d a2],.d a3,.d a4] fun r=>∃y0 G y2 I,r= .agg [.d y0,.d y2]∧aA G y0∧(G.length:Int)≤z.length∧af br G∧aA I y2∧(I.length:Int)≤3*z.length∧af jr I:=by
 refine bj F.q148 aa ?_;rcases bW,cG,bZ with⟨⟨aJ,rfl,eC,eg⟩,⟨bf,rfl,lJ,lK⟩,⟨bR,rfl,oq,ot⟩⟩
 refine bY 11 aa (ay aa (agX F L ae M ai ai O ae U ai dY (.inr ⟨aa,aa⟩) ae bT) ?_);rintro _ _⟨ez,fg,v3,xY,rfl,Y,Z,fy,u7,xu,u9⟩;exact W
theorem abO{T:aN}(F:FT T){a0 a1 a2 a3 a4 a5:DC}{z:ak}(M:aA z a0)(cK:z.length≤1000000)(O:af jK z)(bW:tJ.ok a1)(cG:tJ.ok a2){A:ak}(U:aA A a3)(fI:A.length≤200)(Y:af ew A)(bZ:tJ.ok a4){G:ak}(Z:aA G a5)(vX:G.length≤1000000000)(kV:af ey G):Sound T 149 [.d a0,.agg [.d a1,.d a2],.d a3,.d a4,.d a5] fun r=>∃y0 I y2 L,r= .agg [.d y0,.d y2]∧aA I y0∧(I.length:Int)≤z.length∧af br I∧aA L y2∧(L.length:Int)≤3*z.length∧af jr L:=by
 refine bj F.q149 aa ?_;rcases bW,cG,bZ with⟨⟨aJ,rfl,eC,eg⟩,⟨bf,rfl,lJ,lK⟩,⟨bR,rfl,oq,ot⟩⟩
 refine bY 12 aa (ay aa (agX F M ae O ai ai U ae Y ai dY Z ae kV) ?_);rintro _ _⟨ez,fg,v3,xY,rfl,gL,jE,fy,u7,xu,u9⟩;exact W
theorem findF{T:aN}(F:FT T){a0:DC}{A:ak}(G:aA A a0)(cK:A.length≤1000000000)(I:af jK A){aJ:Int}(kJ: -9223372036854775808≤aJ)(kK:aJ≤9223372036854775807):Sound T 230 [.d a0,.d (dJ aJ)] fun r=>∃L,r= .d (dJ L)∧((-1)≤L∧L≤(A.length:Int) -1∧((0≤L→ub aJ A)∧(L<0→kI A.length aJ A))):=by
 refine bj F.q230 aa (bY 8 aa (aO aa G ?_));refine ro 3 aa (bd [8,7,4,1,0] [] aa aa (fun e0 b0 k VE B=>∃z,an ((9,.d (dJ z))::e0) VE∧an b0 B∧k=((A.length:Int) -z).toNat∧(0≤z∧(z≤(A.length:Int)∨z=0))∧(kI z aJ A)) ?_ fin);rintro _ VE B⟨z,hV,hB,rfl,bS,cM⟩;refine aU _ _ hV hB (rc 5 aa ?_);refine au aa ?_ ?_<;>intro g1
 ·refine rc 6 aa ?_;obtain⟨_,⟨Z,rfl,M,O⟩,fP,jf,gb,iS,lM,mi,vZ,xX,_,⟨Nc,rfl,U,Y⟩,bQ⟩:=qI z I;refine ax (aI aa aa G ae bQ aa ?_);refine ro 7 aa (rp 5 aa ?_);refine bm aa ?_ ?_<;>intro g3
  ·refine ro 3 aa (rp 3 aa ?_);refine au aa ?_ ?_<;>intro g4
   ·refine dO 6 aa ?_;exact bI rfl rfl ⟨z,rfl,⟨ae,ae,(by first|exact⟨fun _=>ub.mk (by assumption) rfl rfl ae ae,fun h=>absurd h ah⟩|exact⟨fun h=>absurd h ao,fun _=>kI.all (by assumption) ae⟩)⟩⟩
   refine aB 2 aa (bC aa aa ae ae ?_);refine cW 2 aa ?_;exact⟨((A.length:Int) -((z+1))).toNat,ae,(z+1),⟨rfl,rfl,rfl,rfl,rfl,rfl,trivial⟩,trivial,rfl,ae,(by first|assumption|exact afG|exact kI.afH (by assumption) ae (by assumption) rfl ae|exact kI.afI (by assumption) ae (by assumption) rfl ae)⟩
  refine ro 6 aa (eo aa aa (aB 2 aa (bC aa aa ae ae ?_)));refine cW 2 aa ?_;exact⟨((A.length:Int) -((z+1))).toNat,ae,(z+1),⟨rfl,rfl,rfl,rfl,rfl,rfl,trivial⟩,trivial,rfl,ae,(by first|assumption|exact afG|exact kI.afH (by assumption) ae (by assumption) rfl ae|exact kI.afI (by assumption) ae (by assumption) rfl ae)⟩
 refine dO 6 aa ?_;exact bI rfl rfl ⟨(-1),rfl,⟨ae,ae,(by first|exact⟨fun _=>ub.mk (by assumption) rfl rfl ae ae,fun h=>absurd h ah⟩|exact⟨fun h=>absurd h ao,fun _=>kI.all (by assumption) ae⟩)⟩⟩
theorem GX{T:aN}(F:FT T){a0 a1 a2:DC}{Y:ak}(cr:aA Y a0)(cK:Y.length≤1000000)(bM:af jK Y){bL:ak}(cN:aA bL a1)(df:bL.length≤1000000)(cb:af br bL){bt:ak}(cF:aA bt a2)(dc:bt.length≤3000000)(bV:af jr bt){aW:Int}(gi:0≤aW)(gj:aW≤1000){bR:Int}(pO: -9223372036854775808≤bR)(pP:bR≤9223372036854775807)(Fe:pn Y):Sound T 150 [.d a0,.agg [.d a1,.d a2],.d (dJ aW),.d (dJ bR)] fun r=>∃y0 bu y2,r= .tuple [.d y0,.d y2]∧aA bu y0∧(bu.length:Int)≤(Y.length:Int)+bt.length∧af jK bu∧0≤(bu.length:Int)∧(pn bu)∧tJ.ok y2:=by
 refine bj F.q150 aa (r0 12 aa ?_);refine bm aa ?_ ?_<;>intro h1
 ·exact W
 refine ro 4 aa ?_;refine bm aa ?_ ?_<;>intro h2
 ·exact W
 refine ro 4 aa ?_;refine bm aa ?_ ?_<;>intro g3
 ·refine ro 4 aa (eG aa aa (dO 6 aa ?_));exact bI rfl rfl ⟨.nil,[],(dJ 1),rfl,(.inr ⟨rfl,rfl⟩),ae,bT,ae,(by first|exact rl|exact gG.fin (by assumption)),ai⟩
 refine ro 4 aa ?_;refine au aa ?_ ?_<;>intro g4
 ·refine dO 6 aa ?_;exact bI rfl rfl ⟨.nil,[],(dJ 1),rfl,(.inr ⟨rfl,rfl⟩),ae,bT,ae,(by first|exact rl|exact gG.fin (by assumption)),ai⟩
 refine aB 5 aa (aO aa cr ?_);refine ro 3 aa (bd [39,38,37,9,8,5,3,2,1,0] [5] aa aa (fun e0 b0 k VE B=>∃M,an ((40,.d (dJ M))::e0) VE∧an b0 B∧k=((Y.length:Int) -M).toNat∧(0≤M∧(M≤(Y.length:Int)∨M=0))∧(B2 M Y bR)) ?_ fin);rintro _ VE B⟨M,hV,hB,rfl,bS,cM⟩;refine aU _ _ hV hB (rc 5 aa ?_);refine au aa ?_ ?_<;>intro g5
 ·refine rc 6 aa ?_;obtain⟨_,⟨vn,rfl,GN,GO⟩,BC,xV,V6,Nb,x6_3,hx6_3,x6_4,hx6_4,x6_5,hx6_5,e7⟩:=qI M bM;refine ax (aI aa aa cr ae e7 aa ?_);refine ro 8 aa (rp 5 aa ?_);refine au aa ?_ ?_<;>intro g7
  ·refine dO 6 aa ?_;exact bI rfl rfl ⟨.nil,[],(dJ 1),rfl,(.inr ⟨rfl,rfl⟩),ae,bT,ae,(by first|exact rl|exact gG.fin (by assumption)),ai⟩
  refine rc 6 aa (bd [48,41,40,39,38,37,11,10,9,8,5,3,2,1,0] [11,5] aa aa (fun e0 b0 k VE B=>∃Nh,an ((12,.d (dJ Nh))::e0) VE∧an b0 B∧dP k 0 Nh M) ?_ fin);rintro _ VE B⟨Nh,hV,hB,rfl,eU⟩;refine aU _ _ hV hB (rc 7 aa ?_);refine au aa ?_ ?_<;>intro g8
  ·refine rc 7 aa ?_;obtain⟨_,⟨DE,rfl,L3,aeb⟩,pr,rM,BL,tD,Jv,DK,EB,tz,EC,tA,fc⟩:=qI Nh bM;refine aR (aI aa aa cr ae fc aa ?_);refine rq 1 aa (cD aa aa (dx aa aa ?_));refine rq 4 aa ?_;refine au aa ?_ ?_<;>intro sM
   ·refine dO 6 aa ?_;exact bI rfl rfl ⟨.nil,[],(dJ 1),rfl,(.inr ⟨rfl,rfl⟩),ae,bT,ae,(by first|exact rl|exact gG.fin (by assumption)),ai⟩
   exact W
  refine aB 2 aa (bC aa aa ae ae ?_);refine cW 2 aa ?_;exact⟨((Y.length:Int) -((M+1))).toNat,ae,(M+1),⟨rfl,rfl,rfl,rfl,rfl,rfl,rfl,rfl,rfl,rfl,rfl,trivial⟩,⟨rfl,trivial⟩,rfl,ae,(by first|assumption|exact ltV_0|exact B2.step (by assumption) ae (by assumption) (by first|(simp only[gh];omega)|(simp only[gh];simp_all;omega)))⟩
 refine aB 6 aa (aO aa cN ?_);refine ro 3 aa (bd [65,64,41,40,39,38,37,9,8,5,3,2,1,0] [5] aa aa (fun e0 b0 k VE B=>∃I,an ((66,.d (dJ I))::e0) VE∧an b0 B∧k=((bL.length:Int) -I).toNat∧(0≤I∧(I≤(bL.length:Int)∨I=0))∧(vJ I Y bL)) ?_ fin);rintro _ VE B⟨I,hV,hB,rfl,ox,yN⟩;refine aU _ _ hV hB (rc 5 aa ?_);refine au aa ?_ ?_<;>intro ld
 ·refine rc 6 aa ?_;obtain⟨_,⟨adF,rfl,abl,abm⟩,gI⟩:=qI I cb;refine ax (aI aa aa cN ae gI aa ?_);refine aK 8 aa (ay aa (findF (aJ:=adF) F cr ae bM ae ae) ?_);rintro _ _⟨vt,rfl,ly13_0,uy13_0,LY⟩;have kv:=LY.1;refine ro 2 aa ?_;refine bm aa ?_ ?_<;>intro B7
  ·refine ro 8 aa (eG aa aa (dO 6 aa ?_));exact bI rfl rfl ⟨.nil,[],(dJ 11),rfl,(.inr ⟨rfl,rfl⟩),ae,bT,ae,(by first|exact rl|exact gG.fin (by assumption)),ai⟩
  refine ro 3 aa ?_;obtain⟨XC,Jn,BF⟩:=bz (z:=I) (n:=bL.length+1) ae ae;refine bJ rfl rfl (eI (l:=0) (h:=XC) rfl cN cb rfl (tq ae) ⟨_,(by rw[←Jn];rfl)⟩ rfl ae ae (fun d16 XK hd16 aji hr16=>?_));refine ro 1 aa (bJ aa aa (ay aa (ZC F hd16 ae hr16 ai) ?_));rintro _ _⟨_,rfl,by17_0,rfl⟩;refine ro 2 aa ?_;refine cH aa ?_ ?_<;>intro Xv
  ·refine dO 6 aa ?_;exact bI rfl rfl ⟨.nil,[],(dJ 11),rfl,(.inr ⟨rfl,rfl⟩),ae,bT,ae,(by first|exact rl|exact gG.fin (by assumption)),ai⟩
  refine aB 2 aa (bC aa aa ae ae ?_);refine cW 2 aa ?_;exact⟨((bL.length:Int) -((I+1))).toNat,ae,(I+1),⟨rfl,rfl,rfl,rfl,rfl,rfl,rfl,rfl,rfl,rfl,rfl,rfl,rfl,rfl,rfl,trivial⟩,⟨rfl,trivial⟩,rfl,ae,(by first|assumption|exact allV_0|exact vJ.step (by assumption) ae (by assumption) rfl (kv ae))⟩
 refine aB 6 aa (aO aa cN ?_);refine ro 3 aa (bd [86,85,67,66,65,64,41,40,39,38,37,9,8,5,3,2,1,0] [5] aa aa (fun e0 b0 k VE B=>∃Ni,an ((87,.d (dJ Ni))::e0) VE∧an b0 B∧dP k 0 Ni (bL.length:Int)) ?_ fin);rintro _ VE B⟨Ni,hV,hB,rfl,Ji⟩;refine aU _ _ hV hB (rc 5 aa ?_);refine au aa ?_ ?_<;>intro XD
 ·refine rc 5 aa ?_;obtain⟨_,⟨C8,rfl,abP,abQ⟩,mC⟩:=qI Ni cb;refine ax (aI aa aa cN ae mC aa ?_);refine aK 9 aa (ay aa (findF (aJ:=C8) F cr ae bM ae ae) ?_);rintro _ _⟨T8,rfl,ly21_0,uy21_0,aef⟩;have kb:=find_ge aef (vJ.get (k:=I) dm ae mC rfl);obtain⟨ml,qh,mo,tm,x22_2,hx22_2,x22_3,hx22_3,_,⟨zx22_4,rfl,hzx22_4,kzx22_4⟩,x22_5,hx22_5,vV⟩:=qI T8 bM;refine ax (aI aa aa cr ae vV aa ?_);refine ro 5 aa ?_;refine au aa ?_ ?_<;>intro O9
  ·refine dO 6 aa ?_;exact bI rfl rfl ⟨.nil,[],(dJ 10),rfl,(.inr ⟨rfl,rfl⟩),ae,bT,ae,(by first|exact rl|exact gG.fin (by assumption)),ai⟩
  exact W
 refine aB 6 aa (aO aa cF ?_);refine ro 3 aa (bd [104,103,88,87,86,85,67,66,65,64,41,40,39,38,37,9,8,5,3,2,1,0] [5] aa aa (fun e0 b0 k VE B=>∃L7,an ((105,.d (dJ L7))::e0) VE∧an b0 B∧dP k 0 L7 (bt.length:Int)) ?_ fin);rintro _ VE B⟨L7,hV,hB,rfl,Jj⟩;refine aU _ _ hV hB (rc 5 aa ?_);refine au aa ?_ ?_<;>intro O2
 ·refine rc 5 aa ?_;obtain⟨Dz,aeB,DA,SD,x25_2,hx25_2,x25_3,hx25_3,vW⟩:=qI L7 bV;refine ax (aI aa aa cF ae vW aa ?_);refine aK 8 aa (ay aa (GI F SD hx25_2) ?_);rintro _ _⟨_,rfl,ad6,rfl⟩;refine ro 2 aa ?_;refine cH aa ?_ ?_<;>intro h27
  ·refine dO 6 aa ?_;exact bI rfl rfl ⟨.nil,[],(dJ 10),rfl,(.inr ⟨rfl,rfl⟩),ae,bT,ae,(by first|exact rl|exact gG.fin (by assumption)),ai⟩
  exact W
 refine aB 9 aa (aO aa cr ?_);refine ro 3 aa (dh 19 90 156 64 6 aa aa ?_);refine bd [115,114,106,105,104,103,88,87,86,85,67,66,65,64,41,40,39,38,37,9,8,5,3,2,1,0] [5] rfl rfl (fun e0 b0 k VE B=>∃A L,an ((19,.ac 90 L.length 6)::(116,.d (dJ A))::e0) VE∧an ((90,.acc 156 64 6 L)::b0) B∧k=((Y.length:Int) -A).toNat∧(0≤A∧(A≤(Y.length:Int)∨A=0))∧((L.length:Int)≤A)∧(af jK L)∧(fB A Y L)) ?_ (k:=((Y.length:Int) -0).toNat) ⟨0,[],⟨rfl,rfl,rfl,rfl,rfl,rfl,rfl,rfl,rfl,rfl,rfl,rfl,rfl,rfl,rfl,rfl,rfl,rfl,rfl,rfl,rfl,rfl,rfl,rfl,rfl,rfl,rfl,rfl,trivial⟩,⟨rfl,rfl,trivial⟩,rfl,ae,cJ,bT,(by first|assumption|exact Ac|exact fB.step (by assumption) Fe ae (by assumption)|exact fB.skip (by assumption) ae)⟩;rintro _ VE B⟨A,L,hV,hB,rfl,V9,V',Lo,f5_3⟩;refine aU _ _ hV hB (rc 5 aa ?_);refine au aa ?_ ?_<;>intro Ph
 ·refine rc 5 aa ?_;obtain⟨Il,va,vw,⟨wx29_1,Lp,hnx29_1,Lq⟩,_,⟨Z,rfl,hzx29_2,kzx29_2⟩,_,⟨nT,rfl,abR,abS⟩,_,⟨C9,rfl,hzx29_4,kzx29_4⟩,_,⟨SE,rfl,hzx29_5,kzx29_5⟩,nj⟩:=qI A bM;refine ax (aI aa aa cr ae nj aa ?_);refine aK 11 aa (ay aa (ZC F cN ae cb va) ?_);rintro _ _⟨_,rfl,ad7,rfl⟩;refine ro 1 aa ?_;refine cH aa ?_ ?_<;>intro h31
  ·refine rc 3 aa (rp 6 aa ?_);refine au aa ?_ ?_<;>intro Pj
   ·refine aB 2 aa (bC aa aa ae ae ?_);refine cW 2 aa ?_;exact⟨((Y.length:Int) -((A+1))).toNat,ae,(A+1),L,⟨rfl,rfl,rfl,rfl,rfl,rfl,rfl,rfl,rfl,rfl,rfl,rfl,rfl,rfl,rfl,rfl,rfl,rfl,rfl,rfl,rfl,rfl,rfl,rfl,rfl,rfl,rfl,rfl,trivial⟩,⟨rfl,rfl,trivial⟩,rfl,ae,ae,Lo,(by first|assumption|exact Ac|exact fB.step (by assumption) Fe ae (by assumption)|exact fB.skip (by assumption) ae)⟩
   refine rc 8 aa ?_;obtain⟨U,rfl,abT,abU⟩:=Ty.dH va;refine rp 3 aa ?_;refine ax (aX (rows:=L) (ys:=[[(dJ U),vw,(dJ Z),(dJ nT),(dJ C9),(dJ aW)]]) rfl rfl rfl (.bs (rows:=[[(dJ U),vw,(dJ Z),(dJ nT),(dJ C9),(dJ aW)]]) rfl) ao ae (fun h=>by rw[h];rfl) (fun h=>by rw[h];rfl) ?_);refine aK 3 aa (bC aa aa ae ae ?_);refine cW 2 aa ?_;exact⟨((Y.length:Int) -((A+1))).toNat,ae,(A+1),(L++[[(dJ U),vw,(dJ Z),(dJ nT),(dJ C9),(dJ aW)]]),⟨rfl,rfl,rfl,rfl,rfl,rfl,rfl,rfl,rfl,rfl,rfl,rfl,rfl,rfl,rfl,rfl,rfl,rfl,rfl,rfl,rfl,rfl,rfl,rfl,rfl,rfl,rfl,rfl,trivial⟩,⟨rfl,rfl,trivial⟩,rfl,ae,cJ,(dC Lo (dr (aj ai (aj (aM Lp ae Lq) (aj ai (aj ai (aj ai (aj ai bg)))))))),(by first|assumption|exact Ac|exact fB.step (by assumption) Fe ae (by assumption)|exact fB.skip (by assumption) ae)⟩
  refine rc 2 aa ?_;obtain⟨U,rfl,abT,abU⟩:=Ty.dH va;refine rp 3 aa ?_;refine ax (aX (rows:=L) (ys:=[[(dJ U),vw,(dJ Z),(dJ nT),(dJ C9),(dJ SE)]]) rfl rfl rfl (.bs (rows:=[[(dJ U),vw,(dJ Z),(dJ nT),(dJ C9),(dJ SE)]]) rfl) ao ae (fun h=>by rw[h];rfl) (fun h=>by rw[h];rfl) ?_);refine aK 3 aa (bC aa aa ae ae ?_);refine cW 2 aa ?_;exact⟨((Y.length:Int) -((A+1))).toNat,ae,(A+1),(L++[[(dJ U),vw,(dJ Z),(dJ nT),(dJ C9),(dJ SE)]]),⟨rfl,rfl,rfl,rfl,rfl,rfl,rfl,rfl,rfl,rfl,rfl,rfl,rfl,rfl,rfl,rfl,rfl,rfl,rfl,rfl,rfl,rfl,rfl,rfl,rfl,rfl,rfl,rfl,trivial⟩,⟨rfl,rfl,trivial⟩,rfl,ae,cJ,(dC Lo (dr (aj ai (aj (aM Lp ae Lq) (aj ai (aj ai (aj ai (aj ai bg)))))))),(by first|assumption|exact Ac|exact fB.step (by assumption) Fe ae (by assumption)|exact fB.skip (by assumption) ae)⟩
 refine aB 6 aa (aO aa cF ?_);refine ro 3 aa ?_;refine bd [140,139,117,116,115,114,106,105,104,103,88,87,86,85,67,66,65,64,41,40,39,38,37,9,8,5,3,2,1,0] [5] rfl rfl (fun e0 b0 k VE B=>∃G O,an ((19,.ac 90 O.length 6)::(141,.d (dJ G))::e0) VE∧an ((90,.acc 156 64 6 O)::b0) B∧k=((bt.length:Int) -G).toNat∧(0≤G∧(G≤(bt.length:Int)∨G=0))∧((O.length:Int)≤(Y.length:Int)+G)∧(af jK O)∧(gG O (bR+G))) ?_ (k:=((bt.length:Int) -0).toNat) ⟨0,L,⟨rfl,rfl,rfl,rfl,rfl,rfl,rfl,rfl,rfl,rfl,rfl,rfl,rfl,rfl,rfl,rfl,rfl,rfl,rfl,rfl,rfl,rfl,rfl,rfl,rfl,rfl,rfl,rfl,rfl,rfl,rfl,rfl,trivial⟩,⟨rfl,rfl,trivial⟩,rfl,ae,ae,Lo,(by first|assumption|exact gG.mk (by assumption) Fe (by assumption) ae ae|exact gG.step (by assumption) (by simp only[gh];first|done|omega) rfl ae rfl ae ae)⟩;rintro _ VE B⟨G,O,hV,hB,rfl,ajm,ajn,abV,ajo⟩;refine aU _ _ hV hB (rc 5 aa ?_);refine au aa ?_ ?_<;>intro Xi
 ·refine rc 6 aa ?_;obtain⟨Ud,⟨wx34_0,hdx34_0,hnx34_0,hrx34_0⟩,_,⟨SF,rfl,hzx34_1,kzx34_1⟩,_,⟨SG,rfl,hzx34_2,kzx34_2⟩,x34_3,hx34_3,hg34⟩:=qI G bV;refine ax (aI aa aa cF ae hg34 aa ?_);refine aK 9 aa (bC aa aa ae ae ?_);refine ro 8 aa ?_;refine ax (aX (rows:=O) (ys:=[[(dJ (bR+G)),Ud,(dJ SF),(dJ SG),(dJ aW),(dJ 1099511627776)]]) rfl rfl rfl (.bs (rows:=[[(dJ (bR+G)),Ud,(dJ SF),(dJ SG),(dJ aW),(dJ 1099511627776)]]) rfl) ao ae (fun h=>by rw[h];rfl) (fun h=>by rw[h];rfl) ?_);refine aK 3 aa (bC aa aa ae ae ?_);refine cW 2 aa ?_;exact⟨((bt.length:Int) -((G+1))).toNat,ae,(G+1),(O++[[(dJ (bR+G)),Ud,(dJ SF),(dJ SG),(dJ aW),(dJ 1099511627776)]]),⟨rfl,rfl,rfl,rfl,rfl,rfl,rfl,rfl,rfl,rfl,rfl,rfl,rfl,rfl,rfl,rfl,rfl,rfl,rfl,rfl,rfl,rfl,rfl,rfl,rfl,rfl,rfl,rfl,rfl,rfl,rfl,rfl,trivial⟩,⟨rfl,rfl,trivial⟩,rfl,ae,cJ,(dC abV (dr (aj ai (aj (aM hdx34_0 ae hrx34_0) (aj ai (aj ai (aj ai (aj ai bg)))))))),(by first|assumption|exact gG.mk (by assumption) Fe (by assumption) ae ae|exact gG.step (by assumption) (by simp only[gh];first|done|omega) rfl ae rfl ae ae)⟩
 refine rc 7 aa (cf 8 90 aa aa (fun _=>⟨aa,aa⟩) (dO 1 aa ?_));exact bI rfl rfl ⟨(.cE O),O,i0,rfl,(.acc _),ae,abV,ae,(by first|exact rl|exact gG.fin (by assumption)),ai⟩
end Go.Ev.Rp
