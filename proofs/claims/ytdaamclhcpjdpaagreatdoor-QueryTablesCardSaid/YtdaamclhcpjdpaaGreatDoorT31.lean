/- Part 31 of rules for walks through the code of a program, and of such walks; what each part proves is said by its theorems. -/
import Derived.Test.YtdaamclhcpjdpaaGreatDoorT19
import Derived.Test.YtdaamclhcpjdpaaGreatDoorT21
import Derived.Test.YtdaamclhcpjdpaaGreatDoorT22
import Derived.Test.YtdaamclhcpjdpaaGreatDoorT28
import Derived.Test.YtdaamclhcpjdpaaGreatDoorT29
import Derived.Test.YtdaamclhcpjdpaaGreatDoorT30
set_option linter.unusedVariables false
set_option linter.unusedSimpArgs false
noncomputable section
set_option maxRecDepth 100000
set_option maxHeartbeats 4000000
namespace Go.Ev.Rp
open Go Go.Ev.Pp
attribute [local irreducible] VC VO VQ VI Sound cF
theorem ExpandC{T:aO}(F:FT T){a0 a1 a2 a3:DC}(cC:tJ.ok a0)(bX:tJ.ok a1){Y:aj}(M:ao Y a2)(cX:Y.length≤13)(bS:af gB Y){da:aj}(U:ao da a3)(fe:da.length≤1000000000)(dQ:af cn da){bT:Int}(oE: -9223372036854775808≤bT)(oF:bT≤9223372036854775807):Sound T 144 [.agg [.d a0,.d a1,.d a2],.d a3,.d (dJ bT)] fun r=>∃y0 br y2,r= .tuple [.d y0,.d y2]∧ao br y0∧(br.length:Int)≤12∧af cn br∧tJ.ok y2:=by
 refine bg F.q144 aa ?_;rcases cC,bX with⟨⟨aK,rfl,gZ,hD⟩,⟨aH,rfl,ey,dW⟩⟩
 refine cf 10 aa (aM aa U ?_);refine aJ 2 aa (aM aa M ?_);refine ro 2 aa ?_;refine bk aa ?_ ?_<;>intro h1
 ·exact W
 refine ro 4 aa ?_;refine ax aa ?_ ?_<;>intro h2
 ·exact W
 refine rc 7 aa (bd [20,7,6,3,2,1,0] [3] aa aa (fun e0 b0 k VE B=>∃G,an ((8,.d (dJ G))::e0) VE∧an b0 B∧k=((Y.length:Int) -G).toNat∧(0≤G∧(G≤(Y.length:Int)∨G=0))∧(jO G bT Y)) ?_ fin);rintro _ VE B⟨G,hV,hB,rfl,bR,cM⟩;refine aS _ _ hV hB (aB 6 aa (aM aa M ?_));refine ro 2 aa ?_;refine ax aa ?_ ?_<;>intro g3
 ·refine rc 8 aa ?_;obtain⟨_,⟨DZ,rfl,sX,sY⟩,fu,mo,qE,oW,cZ⟩:=qI G bS;refine aw (aF aa aa M ae cZ aa ?_);refine ro 4 aa ?_;refine bk aa ?_ ?_<;>intro h5
  ·exact W
  refine ro 3 aa (bw aa aa (aF aa aa M ae cZ aa ?_));refine ro 6 aa ?_;refine ax aa ?_ ?_<;>intro h6
  ·exact W
  refine aB 3 aa (bB aa aa ae ae ?_);refine cA 2 aa ?_;exact⟨((Y.length:Int) -((G+1))).toNat,ae,(G+1),⟨rfl,rfl,rfl,rfl,rfl,rfl,rfl,rfl,trivial⟩,⟨rfl,trivial⟩,rfl,ae,(by first|assumption|exact aaF|exact jO.step (by assumption) ae (by assumption) rfl ae ae)⟩
 refine aB 4 aa (sO aa aa (fun z7 hz7=>?_));obtain⟨n8,hn8⟩:∃n:Nat,z7=n:=⟨(z7).toNat,(vl ae).symm⟩;refine aw (Aw (n:=n8) 47 rfl rfl rfl rfl rfl (by rw[←hn8];rfl) (by rw[←hn8];rfl) ae ae (fun w8 sn uo=>?_));have sq:af cn w8:=by subst sn;exact Au (ah ai (ah ai (ah (bC (s:=[]) au) bf)))
 refine ro 8 aa (bd [25,20,8,7,6,3,2,1,0] [3] aa aa (fun e0 b0 k VE B=>∃A O L,an ((9,.bs 47 O 3)::(10,.d (dJ A))::e0) VE∧an ((47,.arr 121 32 3 O L)::b0) B∧k=((Y.length:Int) -A).toNat∧(0≤A∧(A≤(Y.length:Int)∨A=0))∧(L.length=O)∧(O=w8.length)∧(af cn L)) ?_ fin);rintro _ VE B⟨A,O,L,hV,hB,rfl,fh,rfl,Oj,I⟩;refine aS _ _ hV hB (aB 6 aa (aM aa M ?_));refine ro 2 aa ?_;refine ax aa ?_ ?_<;>intro g9
 ·refine rc 8 aa ?_;obtain⟨nY,qa,rI,Z,Ij,AY,hJ⟩:=qI A dQ;refine aT (aF aa aa U ae hJ aa ?_);refine cr aa aa (gr aa (aV aa) (aV aa) ?_);refine aP aa (aA aa (aei F qa Z AY) ?_);rintro _ _⟨_,rfl,by11_0,rfl⟩;refine rq 2 aa ?_;refine dK aa ?_ ?_<;>intro nA
  ·refine rq 7 aa (bL aa (bL aa (bL aa (bL aa (dA aa (bL aa (dA aa (bL aa (bL aa ?_)))))))));exact bL aa (dA aa (bL aa (rq 2 aa (W))))
  refine rq 2 aa (cb aa aa (aF aa aa U ae hJ aa ?_));refine rq 2 aa ?_;obtain⟨aeu,rfl,hzx10_0,kzx10_0⟩:=Ty.dP qa;refine rp 2 aa ?_;refine dK aa ?_ ?_<;>intro ur
  ·refine rq 2 aa (cb aa aa (aF aa aa U ae hJ aa ?_));refine rq 5 aa ?_;obtain⟨_,⟨G7,rfl,Ls,Lt⟩,UL,aeH,_,⟨zx14_2,rfl,hzx14_2,kzx14_2⟩,iZ⟩:=qI A bS;refine cb aa aa (aF aa aa M ae iZ aa ?_);refine rq 2 aa (rp 4 aa ?_);refine ax aa ?_ ?_<;>intro Km
   ·exact W
   refine rc 6 aa (aT (aF aa aa M ae iZ aa ?_));refine rq 1 aa (cr aa aa (c4 aa aa ?_));refine aT (dO aa aa ae ae ?_);refine c7 2 aa (aF aa aa U ae hJ aa ?_);refine cr aa aa (gr aa (aV aa) (aV aa) ?_);have kb:=jO.get (n:=bT) dz ae iZ rfl;obtain⟨l5,rV,ud⟩:=bF (z:=(G7-1)) (n:=L.length) ae ae;obtain⟨D4,aeI,Bt,SW,x16_2,hx16_2,B4⟩:=qN ud I;refine aT (fb rfl (by rw[←rV];rfl) ud ?_);refine iR aa (q9 aa aa aa aa aa aa au au B4 (fun zV hw17 Oy=>?_));have hb17:af cn zV:=by rw[hw17];exact fm I (ah ai (ah Z (ah AY bf)))
   rw[←Oy];exact W
  refine rq 15 aa (dc aa aa (rc 6 aa ?_));obtain⟨_,⟨zx18_0,rfl,hzx18_0,kzx18_0⟩,ag4,S0,ag5,S1,ni⟩:=qI A bS;refine aT (aF aa aa M ae ni aa ?_);refine rq 1 aa (cr aa aa (c4 aa aa ?_));refine aT (dO aa aa ae ae ?_);refine c7 2 aa (aF aa aa U ae hJ aa ?_);refine cr aa aa (gr aa (aV aa) (aV aa) ?_);have kb:=jO.get (n:=bT) dz ae ni rfl;obtain⟨sA,BZ,B0⟩:=bF (z:=(zx18_0-1)) (n:=L.length) ae ae;obtain⟨yn,G6,D5,aeJ,x19_2,hx19_2,nh⟩:=qN B0 I;refine aT (fb rfl (by rw[←BZ];rfl) B0 ?_);refine iR aa (q9 aa aa aa aa aa aa au au nh (fun l6 B9 zm=>?_));have ub:af cn l6:=by rw[B9];exact fm I (ah ai (ah Z (ah AY bf)))
  rw[←zm];exact W
 exact rc 7 aa (mS 6 47 aa aa (fun _=>⟨aa,aa⟩) (W))
theorem Ri{T:aO}(F:FT T){nv:Nat}{a0 a1 a2 a3 a4 a5 a6:DC}(cC:(Ty.s 1000).ok a0){A:aj}(V2:1≤A.length)(I:ao A a1)(dg:A.length≤nv)(G:af dk A)(cN:(Ty.l 200 bc).ok a2)(ch:(Ty.l 4 dy).ok a3)(bY:(Ty.l 4 dj).ok a4){L:aj}(iM:ao L a5)(wg:L.length≤13)(kW:af gB L)(fE:tJ.ok a6)(oy:nv≤99):Sound T 140 [.agg [.d a0,.d a1,.d a2,.d a3,.d a4],.d a5,.d a6] fun r=>∃y0 y1 M y3 y4 y5,r= .agg [.d y0,.d y1,.d y3,.d y4,.d y5]∧(Ty.s 1000).ok y0∧ao M y1∧(M.length:Int)≤nv+1∧af dk M∧(Ty.l 200 bc).ok y3∧(Ty.l 4 dy).ok y4∧(Ty.l 4 dj).ok y5:=by
 refine bg F.q140 aa ?_;rcases cC,cN,ch,bY,fE with⟨⟨gN,rfl,jl⟩,⟨bu,cu,cX,bS⟩,⟨da,ez,fe,dQ⟩,⟨ed,dY,fJ,dw⟩,⟨bx,rfl,oe,og⟩⟩
 refine cf 9 aa (aM aa I ?_);refine aJ 6 aa (dZ (ys:=A) 14 aa aa aa aa aa (.sD I (cP G aa)) au ae ?_);refine aJ 7 aa (dO aa aa ae ae ?_);obtain⟨j1,Kh,zU⟩:=bF (z:=((A.length:Int) -1)) (n:=((A).length)) ae ae;obtain⟨_,⟨mZ,rfl,Mm,Mn⟩,ajs,hx1_1,ajt,hx1_2,nC⟩:=qN zU G;refine aw (di rfl (by rw[←Kh];rfl) zU ?_);refine aJ 2 aa (fk (rows:=A) aa aa nC aa ?_);refine ro 3 aa ?_;refine ax aa ?_ ?_<;>intro g2
 ·refine aB 3 aa (dO aa aa ae ae ?_);refine ro 1 aa ?_;obtain⟨j3,XL,Ki⟩:=bF (z:=((A.length:Int) -1)) (n:=((A).length)) ae ae;obtain⟨ng,O,qF,U,vX,qo,eS⟩:=qN Ki G;refine aw (di rfl (by rw[←XL];rfl) Ki ?_);refine ro 1 aa (jv (gO aa aa aa aa aa aa au au eS (fun w4 X7 hl4=>?_)));have hb4:af dk w4:=by rw[X7];exact fm G (ah O (ah U (ah (aL iM ae kW) bf)))
  rw[←hl4];exact ro 5 aa (eK 44 14 aa aa (fun _=>⟨aa,aa⟩) (W))
 refine aB 4 aa (dO aa aa ae ae ?_);refine ro 1 aa ?_;obtain⟨j5,CG,CH⟩:=bF (z:=((A.length:Int) -1)) (n:=((A).length)) ae ae;obtain⟨BV,Y,zi,vA,EN,Z,eQ⟩:=qN CH G;refine aw (di rfl (by rw[←CG];rfl) CH ?_);refine ro 2 aa (jv (gO aa aa aa aa aa aa au au eQ (fun w6 hw6 XT=>?_)));have Pb:af dk w6:=by rw[hw6];exact fm G (ah Y (ah ai (ah Z bf)))
 rw[←XT];refine aJ 8 aa (aW (rows:=w6) (ys:=[[(dJ bx),(dJ 1099511627776),a5]]) aa aa aa (.bs (rows:=[[(dJ bx),(dJ 1099511627776),a5]]) aa) au ae bW bW ?_);exact ro 6 aa (eK 44 14 aa aa (fun _=>⟨aa,aa⟩) (W))
theorem AddColC{T:aO}(F:FT T){nv:Nat}{a0 a1 a2 a3 a4 a5 a6 a7 a8:DC}(cC:(Ty.s 1000).ok a0){bN:aj}(A:ao bN a1)(dg:bN.length≤nv)(G:af dk bN)(cN:(Ty.l 200 bc).ok a2)(ch:(Ty.l 4 dy).ok a3)(bY:(Ty.l 4 dj).ok a4)(cB:tJ.ok a5)(fE:(Ty.s 1000).ok a6)(fX:tJ.ok a7)(gq:tJ.ok a8)(oy:nv≤99):Sound T 79 [.agg [.d a0,.d a1,.d a2,.d a3,.d a4],.agg [.d a5,.d a6,.d a7],.d a8] fun r=>∃y0 y1 lZ y3 y4 y5 y6,r= .tuple [.agg [.d y0,.d y1,.d y3,.d y4,.d y5],.d y6]∧(Ty.s 1000).ok y0∧ao lZ y1∧(lZ.length:Int)≤nv+1∧af dk lZ∧(Ty.l 200 bc).ok y3∧(Ty.l 4 dy).ok y4∧(Ty.l 4 dj).ok y5∧tJ.ok y6:=by
 refine bg F.q79 aa ?_;rcases cC,cN,ch,bY,cB,fE,fX,gq with⟨⟨gN,rfl,jl⟩,⟨bu,I,cX,L⟩,⟨da,M,fe,O⟩,⟨ed,U,fJ,Y⟩,⟨bO,rfl,oo,oq⟩,⟨Fs,rfl,Ov⟩,⟨dh,rfl,rS,rT⟩,⟨hY,rfl,zb,zc⟩⟩
 refine cf 11 aa (aA aa (ag2 F (bC aq) A ae G (aL I ae L) (aL M ae O) (aL U ae Y) ai) ?_);rintro _ _⟨eo,zf,tY,yp,vW,rfl,oV,Bp,Z,uW,z,Ix⟩;refine ro 15 aa ?_;refine cO aa ?_ ?_<;>intro h2
 ·exact W
 have k2:=Ix (by simpa using h2);refine aB 4 aa (aA aa (SO F (bC aq)) ?_);rintro _ _⟨_,rfl,Bu,rfl⟩;refine ro 3 aa ?_;refine cO aa ?_ ?_<;>intro h4
 ·exact W
 refine rc 6 aa ?_;refine bk aa ?_ ?_<;>intro h5
 ·exact W
 refine ro 6 aa ?_;refine ax aa ?_ ?_<;>intro h6
 ·exact W
 refine aB 5 aa (aA aa (SL F oV Bp Z ae z (bC aq)) ?_);rintro _ _⟨nf,rfl,qm⟩;refine ro 3 aa ?_;refine ax aa ?_ ?_<;>intro h8
 ·exact W
 refine aB 3 aa (aA aa (Ml F (bC aq) A ae G (aL I ae L) (aL M ae O) (aL U ae Y)) ?_);rintro _ _⟨Jl,rfl,ly9_0,uy9_0,Nb⟩;refine ro 3 aa ?_;refine ax aa ?_ ?_<;>intro Po
 ·exact W
 refine aB 4 aa (aA aa (Ml F (bC aq) A ae G (aL I ae L) (aL M ae O) (aL U ae Y)) ?_);rintro _ _⟨qp,rfl,ly11_0,uy11_0,rz⟩;have kw:=pS.le rz.2 Nb.1 ae;refine aw (bB aa aa ae ae ?_);refine ro 8 aa (aP aa (VI.fresh aa (dZ (ys:=yp) 55 aa aa aa aa aa (.sD Z (cP z aa)) au ae ?_)));refine rq 2 aa ?_;refine aP rfl (aW (rows:=yp) (ys:=[[(dJ (qp+1)),(al Fs),(dJ dh)]]) rfl rfl rfl (.bs (rows:=[[(dJ (qp+1)),(al Fs),(dJ dh)]]) rfl) au ae (fun h=>by rw[h];rfl) (fun h=>by rw[h];rfl) ?_);refine rq 1 aa (lk 58 55 aa aa (fun _=>⟨aa,aa⟩) (aP aa (aA aa (Ri (nv:=nv) F (bC aq) ae A ae G (aL I ae L) (aL M ae O) (aL U ae Y) (.acc _) BP (df z (c9 (ah ai (ah (bC aq) (ah ai bf))))) ai ae) ?_)));rintro _ _⟨Ec,ag6,aeK,ag7,ag8,ag9,rfl,G',ab3,ab4,ab5,aeL,aeM,aeN⟩;exact W
theorem DropColC{T:aO}(F:FT T){nv:Nat}{a0 a1 a2 a3 a4 a5 a6:DC}(cC:(Ty.s 1000).ok a0){bN:aj}(L:ao bN a1)(dg:bN.length≤nv)(M:af dk bN)(cN:(Ty.l 200 bc).ok a2)(ch:(Ty.l 4 dy).ok a3)(bY:(Ty.l 4 dj).ok a4)(cB:tJ.ok a5)(fE:tJ.ok a6)(oy:nv≤99):Sound T 80 [.agg [.d a0,.d a1,.d a2,.d a3,.d a4],.d a5,.d a6] fun r=>∃y0 y1 lZ y3 y4 y5 y6,r= .tuple [.agg [.d y0,.d y1,.d y3,.d y4,.d y5],.d y6]∧(Ty.s 1000).ok y0∧ao lZ y1∧(lZ.length:Int)≤nv+1∧af dk lZ∧(Ty.l 200 bc).ok y3∧(Ty.l 4 dy).ok y4∧(Ty.l 4 dj).ok y5∧tJ.ok y6:=by
 refine bg F.q80 aa ?_;rcases cC,cN,ch,bY,cB,fE with⟨⟨gN,rfl,jl⟩,⟨bu,O,cX,U⟩,⟨da,Y,fe,Z⟩,⟨ed,dY,fJ,dw⟩,⟨bO,rfl,oo,oq⟩,⟨bx,rfl,oe,og⟩⟩
 refine cf 10 aa (aA aa (ag2 F (bC aq) L ae M (aL O ae U) (aL Y ae Z) (aL dY ae dw) ai) ?_);rintro _ _⟨eo,zf,tY,I,vW,rfl,oV,Bp,A,uW,G,Ix⟩;refine ro 13 aa ?_;refine cO aa ?_ ?_<;>intro h2
 ·exact W
 have k2:=Ix (by simpa using h2);refine aB 5 aa (aA aa (Ou F oV Bp A ae G ai) ?_);rintro _ _⟨jX,rfl,lC⟩;refine ro 8 aa ?_;refine ax aa ?_ ?_<;>intro h4
 ·exact W
 refine aB 5 aa (aM aa L ?_);refine ro 4 aa ?_;obtain⟨agH,rfl,Su,Sv⟩:=Ty.dP oV;refine rp 6 aa ?_;refine bk aa ?_ ?_<;>intro g5
 ·refine ro 3 aa ?_;refine bk aa ?_ ?_<;>intro g6
  ·refine aJ 18 aa (aM aa A ?_);refine ro 2 aa ?_;refine bk aa ?_ ?_<;>intro h7
   ·exact W
   refine ro 2 aa (bw aa aa (aA aa (Uz F (bC aq) (aL L ae M) (aL O ae U) (aL Y ae Z) (aL dY ae dw) ai) ?_));rintro _ _⟨wi,rfl,Bv⟩;exact W
  refine ro 3 aa (bw aa aa (dO aa aa ae ae ?_));obtain⟨nY,qa,rI,AX,Ij,⟨wx10_2,Rj,hnx10_2,Rk⟩,hJ⟩:=qI ((bN.length:Int) -2) M;refine bw aa aa (aF aa aa L ae hJ aa ?_);refine ro 2 aa (bw aa aa (aA aa (Ou F qa AX Rj ae Rk ai) ?_));rintro _ _⟨qp,rfl,rz⟩;refine aJ 10 aa (aM aa A ?_);refine ro 2 aa ?_;refine bk aa ?_ ?_<;>intro nA
  ·exact W
  refine ro 2 aa (bw aa aa (aA aa (Uz F (bC aq) (aL L ae M) (aL O ae U) (aL Y ae Z) (aL dY ae dw) ai) ?_));rintro _ _⟨_,rfl,by13_0,rfl⟩;refine ro 1 aa (rp 1 aa ?_);refine bk aa ?_ ?_<;>intro J'
  ·exact W
  refine ro 3 aa ?_;refine ax aa ?_ ?_<;>intro Km
  ·exact W
  refine rc 7 aa ?_;obtain⟨l5,rV,ud⟩:=bF (z:=jX) (n:=I.length+1) ae ae;refine aT (eO (l:=0) (h:=l5) rfl A G rfl (ta ae) ⟨_,(by rw[←rV];rfl)⟩ rfl ae ae (fun d17 zV BY Oy EO=>?_));refine aP aa (VI.fresh aa (dZ (ys:=zV) 69 aa aa aa aa aa (.sD BY (cP EO aa)) au ae ?_));refine c7 3 aa (bB aa aa ae ae ?_);obtain⟨pM,rW,rX⟩:=bF (z:=(jX+1)) (n:=I.length+1) ae ae;refine aT (eO (l:=pM) (h:=I.length) rfl A G rfl (ta ae) rfl ⟨_,(by rw[←rW];rfl)⟩ ae ae (fun d19 Ya WC hl19 zp=>?_));refine aP aa (aW (rows:=zV) (ys:=Ya) aa aa aa (.sD WC (cP zp aa)) au ae bW bW ?_);refine rq 1 aa (lk 75 69 aa aa (fun _=>⟨aa,aa⟩) (aP aa (aA aa (Ri (nv:=nv) F (bC aq) ae L ae M (aL O ae U) (aL Y ae Z) (aL dY ae dw) (.acc _) BP (df EO zp) ai ae) ?_)));rintro _ _⟨agY,y20_1,wy20_1,y20_3,y20_4,y20_5,rfl,hy20_0,hdy20_1,hny20_1,hry20_1,hy20_3,hy20_4,hy20_5⟩;exact W
 refine ro 3 aa (jb aa (jb aa (jb aa (jb aa (jb aa (jb aa (jb aa (jb aa (jb aa ?_)))))))));refine aJ 9 aa (aM aa A ?_);refine ro 2 aa ?_;refine bk aa ?_ ?_<;>intro h21
 ·exact W
 refine ro 2 aa (bw aa aa (aA aa (Uz F (bC aq) (aL L ae M) (aL O ae U) (aL Y ae Z) (aL dY ae dw) ai) ?_));rintro _ _⟨_,rfl,by22_0,rfl⟩;refine ro 1 aa (rp 1 aa ?_);refine bk aa ?_ ?_<;>intro Pn
 ·exact W
 refine ro 3 aa (dc aa aa (rc 7 aa ?_));obtain⟨Ps,WD,aju⟩:=bF (z:=jX) (n:=I.length+1) ae ae;refine aT (eO (l:=0) (h:=Ps) rfl A G rfl (ta ae) ⟨_,(by rw[←WD];rfl)⟩ rfl ae ae (fun d25 w25 hd25 hl25 ajv=>?_));refine aP aa (VI.fresh aa (dZ (ys:=w25) 69 aa aa aa aa aa (.sD hd25 (cP ajv aa)) au ae ?_));refine c7 3 aa (bB aa aa ae ae ?_);obtain⟨Ad,Cf,zq⟩:=bF (z:=(jX+1)) (n:=I.length+1) ae ae;refine aT (eO (l:=Ad) (h:=I.length) rfl A G rfl (ta ae) rfl ⟨_,(by rw[←Cf];rfl)⟩ ae ae (fun d27 w27 hd27 hl27 ajw=>?_));refine aP aa (aW (rows:=w25) (ys:=w27) aa aa aa (.sD hd27 (cP ajw aa)) au ae bW bW ?_);refine rq 1 aa (lk 75 69 aa aa (fun _=>⟨aa,aa⟩) (aP aa (aA aa (Ri (nv:=nv) F (bC aq) ae L ae M (aL O ae U) (aL Y ae Z) (aL dY ae dw) (.acc _) BP (df ajv ajw) ai ae) ?_)));rintro _ _⟨Im,y28_1,wy28_1,y28_3,y28_4,y28_5,rfl,aeB,hdy28_1,hny28_1,hry28_1,hy28_3,hy28_4,hy28_5⟩;exact W
end Go.Ev.Rp
namespace Go.Ev.Rp
open Go Go.Ev.Pp
attribute [local irreducible] VC VO VQ VI Sound cF
theorem affC{T:aO}(F:FT T){a0 a1 a2 a3 a4:DC}{Y:aj}(cg:ao Y a0)(cI:Y.length≤1000000000)(bJ:af fC Y)(bX:tJ.ok a1)(cN:tJ.ok a2){da:aj}(ez:ao da a3)(fe:da.length≤200)(dQ:af eB da)(bY:tJ.ok a4):Sound T 348 [.d a0,.agg [.d a1,.d a2],.d a3,.d a4] fun r=>∃y0 Z,r= .d y0∧ao Z y0∧(Z.length:Int)≤Y.length∧af fC Z∧0≤(Z.length:Int)∧(Z=[]→y0= .nil):=by
 refine bg F.q348 aa ?_;rcases bX,cN,bY with⟨⟨aH,rfl,ey,dW⟩,⟨bA,rfl,lN,lO⟩,⟨bT,rfl,oj,om⟩⟩
 refine cf 13 aa (aM aa cg ?_);refine ro 3 aa (de 9 90 156 64 6 aa aa (bd [16,15,8,5,3,2,1,0] [5] aa aa (fun e0 b0 k VE B=>∃L M,an ((9,.ac 90 M.length 6)::(17,.d (dJ L))::e0) VE∧an ((90,.acc 156 64 6 M)::b0) B∧k=((Y.length:Int) -L).toNat∧(0≤L∧(L≤(Y.length:Int)∨L=0))∧((M.length:Int)≤L)∧(af fC M)) ?_ fin));rintro _ VE B⟨L,M,hV,hB,rfl,bR,cM,S3⟩;refine aS _ _ hV hB (rc 5 aa ?_);refine ax aa ?_ ?_<;>intro g1
 ·refine rc 5 aa ?_;obtain⟨_,⟨ml,rfl,mT,nM⟩,ff,⟨jy,O,jg,U⟩,fg,fT,jB,iV,_,⟨aha,rfl,adT,adU⟩,_,⟨Bq,rfl,Sc,Sd⟩,bM⟩:=qI L bJ;refine aw (aF aa aa cg ae bM aa ?_);refine aJ 9 aa (aA aa (DD F fT iV ai ai) ?_);rintro _ _⟨jX,zh,_,rfl,lC,Br,ahb,rfl⟩;refine ro 10 aa (rp 5 aa ?_);refine bk aa ?_ ?_<;>intro h4
  ·exact W
  refine ro 1 aa (rp 3 aa ?_);refine bk aa ?_ ?_<;>intro h5
  ·exact W
  refine ro 4 aa (bw aa aa (aA aa (Bw F ez ae dQ ai O ae U) ?_));rintro _ _⟨jW,vU,qD,rfl,qd,rD,Ed⟩;refine bw aa aa (aA aa (ym F qd rD Ed) ?_);rintro _ _⟨_,rfl,by7_0,rfl⟩;refine ro 3 aa ?_;refine cO aa ?_ ?_<;>intro h8
  ·exact W
  refine rc 9 aa ?_;rcases Ty.dP fT,Ty.dP iV with⟨⟨Nc,rfl,xx,xz⟩,⟨ahc,rfl,L2,L3⟩⟩
  refine rp 3 aa ?_;refine aw (aW (rows:=M) (ys:=[[(dJ ml),ff,(dJ Nc),(dJ ahc),(dJ aha),(dJ Bq)]]) rfl rfl rfl (.bs (rows:=[[(dJ ml),ff,(dJ Nc),(dJ ahc),(dJ aha),(dJ Bq)]]) rfl) au ae (fun h=>by rw[h];rfl) (fun h=>by rw[h];rfl) ?_);refine ro 4 aa (bd [44,18,17,16,15,13,11,8,5,3,2,1,0] [49,12,11,5] aa aa (fun e0 b0 k VE B=>∃G I,an ((9,.ac 90 I.length 6)::(14,.d (dJ G))::e0) VE∧an ((90,.acc 156 64 6 I)::b0) B∧k=(G).toNat∧(0≤G∧G<(I.length:Int))∧((I.length:Int)≤L+1)∧(af fC I)) ?_ fin);rintro _ VE B⟨G,I,hV,hB,rfl,fh,gn,A⟩;refine aS _ _ hV hB (rc 6 aa ?_);refine dK aa ?_ ?_<;>intro g9
  ·refine rq 2 aa (cb aa aa (dO aa aa ae ae ?_));obtain⟨Yb,Cg,rY⟩:=bF (z:=(G-1)) (n:=I.length) ae ae;obtain⟨_,⟨aeu,rfl,hzx10_0,kzx10_0⟩,rI,AX,Ij,AY,x10_3,hx10_3,x10_4,hx10_4,x10_5,hx10_5,hJ⟩:=qN rY A;refine cb rfl rfl (di rfl (by rw[←Cg];rfl) rY ?_);refine rq 1 aa (eD aa aa aa (fk (rows:=I) aa aa hJ aa ?_));refine rq 2 aa (rp 3 aa ?_);refine ax aa ?_ ?_<;>intro l7
   ·refine aB 8 aa (dO aa aa ae ae ?_);obtain⟨X8,B8,zr⟩:=bF (z:=(G-1)) (n:=I.length) ae ae;obtain⟨qh,nO,tm,xH,UM,Mq,x12_3,hx12_3,x12_4,hx12_4,x12_5,hx12_5,iY⟩:=qN zr A;refine aw (di rfl (by rw[←B8];rfl) zr ?_);refine aw (vi_loadAA (rows:=I) aa aa iY (aV aa) (aV aa) ?_);obtain⟨Fv,B6,Jx⟩:=bF (z:=G) (n:=I.length) ae ae;obtain⟨ql,nP,Bs,S4,x13_2,aeO,x13_3,aeP,x13_4,aeQ,x13_5,hx13_5,lQ⟩:=qN Jx A;refine aw (di rfl (by rw[←B6];rfl) Jx ?_);refine jv (gO aa aa aa aa aa aa au au lQ (fun Ae WE OG=>?_));have On:af fC Ae:=by rw[WE];exact fm A (ah nO (ah xH (ah Mq (ah hx12_3 (ah hx12_4 (ah hx12_5 bf))))))
    rw[←OG];exact W
   refine rc 5 aa ?_;obtain⟨X3,Jq,B7⟩:=bF (z:=G) (n:=I.length) ae ae;obtain⟨Il,Mo,D9,G4,x15_2,hx15_2,x15_3,hx15_3,x15_4,hx15_4,x15_5,hx15_5,B5⟩:=qN B7 A;refine aw (di rfl (by rw[←Jq];rfl) B7 ?_);refine jv (gO aa aa aa aa aa aa au au B5 (fun Yc hw16 ajx=>?_));have Oo:af fC Yc:=by rw[hw16];exact fm A (ah ai (ah (aL O ae U) (ah ai (ah ai (ah ai (ah ai bf))))))
   rw[←ajx];exact W
  refine rq 11 aa (dc aa aa (rc 5 aa ?_));obtain⟨wP,Ch,zs⟩:=bF (z:=G) (n:=I.length) ae ae;obtain⟨x17_0,hx17_0,yo,G8,ahd,aeR,ahe,aeS,ahf,aeT,ahg,aeU,jm⟩:=qN zs A;refine aw (di rfl (by rw[←Ch];rfl) zs ?_);refine jv (gO aa aa aa aa aa aa au au jm (fun w18 hw18 hl18=>?_));have V3:af fC w18:=by rw[hw18];exact fm A (ah ai (ah (aL O ae U) (ah ai (ah ai (ah ai (ah ai bf))))))
  rw[←hl18];exact W
 exact rc 6 aa (cl 8 90 aa aa (fun _=>⟨aa,aa⟩) (W))
theorem ahh{T:aO}(F:FT T){a0 a1 a2 a3 a4 a5 a6:DC}{bV:aj}(cg:ao bV a0)(cI:bV.length≤1000000)(bJ:af fC bV)(bX:tJ.ok a1)(cN:tJ.ok a2){da:aj}(ez:ao da a3)(fe:da.length≤200)(dQ:af eB da)(bY:tJ.ok a4)(cB:(Ty.b).ok a5){gG:aj}(gi:ao gG a6)(zn:gG.length≤1000000000)(iN:af eC gG):Sound T 229 [.d a0,.agg [.d a1,.d a2],.d a3,.d a4,.d a5,.d a6] fun r=>∃y0 br y2 ee,r= .agg [.d y0,.d y2]∧ao br y0∧(br.length:Int)≤bV.length∧af bc br∧ao ee y2∧(ee.length:Int)≤3*bV.length∧af fI ee:=by
 refine bg F.q229 aa ?_;rcases bX,cN,bY,cB with⟨⟨aH,rfl,ey,dW⟩,⟨bA,rfl,lN,lO⟩,⟨bT,rfl,oj,om⟩,⟨Pt,rfl⟩⟩
 refine cf 16 aa (aA aa (affC F cg ae bJ ai ai ez ae dQ ai) ?_);rintro _ _⟨eo,eY,rfl,gP,jh,fF,ku,lv⟩;refine aw (aM aa gP ?_);refine ro 3 aa (iQ 13 0 90 3 8 1 aa aa aa (iQ 13 1 91 148 64 4 aa aa aa (bd [24,23,13,12,7,5,4,3,2,1,0] [12,7] aa aa (fun e0 b0 k VE B=>∃U M A,an ((25,.d (dJ U))::e0) VE∧an ((13,.one 276 48 [.ac 90 M.length 1,.ac 91 A.length 4])::(90,.acc 3 8 1 M)::(91,.acc 148 64 4 A)::b0) B∧k=((eY.length:Int) -U).toNat∧(0≤U∧(U≤(eY.length:Int)∨U=0))∧((M.length:Int)≤U)∧(af bc M)∧((A.length:Int)≤3*U)∧(af fI A)) ?_ fin)));rintro _ VE B⟨U,M,A,hV,hB,rfl,bR,cM,hrw13_0_0,hH,hrw13_1_0⟩;refine aS _ _ hV hB (rc 5 aa ?_);refine ax aa ?_ ?_<;>intro g2
 ·refine rc 5 aa ?_;obtain⟨_,⟨z,rfl,L8,GY⟩,O,⟨age,Mc,ad4,Md⟩,vX,qo,VY,Y,ajy,Nn,ajz,No,eS⟩:=qI U fF;refine aw (aF aa aa gP ae eS aa ?_);refine ro 6 aa (rp 5 aa ?_);refine aw (aW (rows:=M) (ys:=[[(dJ z)]]) rfl rfl rfl (.bs (rows:=[[(dJ z)]]) rfl) au ae (fun h=>by rw[h];rfl) (fun h=>by rw[h];rfl) ?_);refine aJ 15 aa (aA aa (DD F qo Y ai ai) ?_);rintro _ _⟨_,_,ua,rfl,⟨I,rfl,hzy4_0,kzy4_0⟩,⟨G,rfl,hzy4_1,kzy4_1⟩,Ux⟩;refine ro 10 aa ?_;obtain⟨Z,rfl,Sn,So⟩:=Ty.dP qo;refine rp 7 aa ?_;refine ax aa ?_ ?_<;>intro g5
  ·have Pb:af bc [[(dJ z)]]:=(cJ (ah ai bf) ca);refine mS 16 38 aa aa (fun _=>⟨aa,aa⟩) (rc 1 aa (rp 13 aa ?_));refine aw (aW (rows:=A) (ys:=[[O,(dJ Z),(dJ I),(.sl [[(dJ z)]])]]) rfl rfl rfl (.bs (rows:=[[O,(dJ Z),(dJ I),(.sl [[(dJ z)]])]]) rfl) au ae (fun h=>by rw[h];rfl) (fun h=>by rw[h];rfl) ?_);refine ro 8 aa ?_;refine cO aa ?_ ?_<;>intro h7
   ·refine rc 7 aa (aP aa (aA aa (ab2 F Mc ae Md ez ae dQ gi ae iN) ?_));rintro _ _⟨wi,wy8_0,rfl,aeV,hny8_0,aeW⟩;refine rq 4 aa (aP aa (aW (rows:=(A++[[O,(dJ Z),(dJ I),(.sl [[(dJ z)]])]])) (ys:=[[wi,(dJ I),(dJ G),(.sl [[(dJ z)]])]]) aa aa aa (.bs (rows:=[[wi,(dJ I),(dJ G),(.sl [[(dJ z)]])]]) aa) au ae (fun h=>absurd h bh) (fun h=>absurd h bh) ?_));refine rq 5 aa ?_;obtain⟨L,rfl,S5,S7⟩:=Ty.dP Y;refine rp 7 aa ?_;refine ax aa ?_ ?_<;>intro g9
    ·refine aB 14 aa (aW (rows:=((A++[[O,(dJ Z),(dJ I),(.sl [[(dJ z)]])]])++[[wi,(dJ I),(dJ G),(.sl [[(dJ z)]])]])) (ys:=[[O,(dJ G),(dJ L),(.sl [[(dJ z)]])]]) aa aa aa (.bs (rows:=[[O,(dJ G),(dJ L),(.sl [[(dJ z)]])]]) aa) au ae (fun h=>absurd h bh) (fun h=>absurd h bh) ?_);exact W
    exact W
   refine rc 3 aa ?_;obtain⟨L,rfl,S5,S7⟩:=Ty.dP Y;refine rp 7 aa ?_;refine ax aa ?_ ?_<;>intro uq
   ·refine aB 14 aa (aW (rows:=(A++[[O,(dJ Z),(dJ I),(.sl [[(dJ z)]])]])) (ys:=[[O,(dJ G),(dJ L),(.sl [[(dJ z)]])]]) aa aa aa (.bs (rows:=[[O,(dJ G),(dJ L),(.sl [[(dJ z)]])]]) aa) au ae (fun h=>absurd h bh) (fun h=>absurd h bh) ?_);exact W
   exact W
  refine rc 6 aa ?_;refine cO aa ?_ ?_<;>intro sk
  ·have V4:af bc [[(dJ z)]]:=(cJ (ah ai bf) ca);refine mS 16 38 aa aa (fun _=>⟨aa,aa⟩) (rc 7 aa (aP aa (aA aa (ab2 F Mc ae Md ez ae dQ gi ae iN) ?_)));rintro _ _⟨vD,aeX,rfl,ab6,ab7,ab8⟩;refine rq 4 aa ?_;refine aP rfl (aW (rows:=A) (ys:=[[vD,(dJ I),(dJ G),(.sl [[(dJ z)]])]]) rfl rfl rfl (.bs (rows:=[[vD,(dJ I),(dJ G),(.sl [[(dJ z)]])]]) rfl) au ae (fun h=>by rw[h];rfl) (fun h=>by rw[h];rfl) ?_);refine rq 5 aa ?_;obtain⟨L,rfl,S5,S7⟩:=Ty.dP Y;refine rp 7 aa ?_;refine ax aa ?_ ?_<;>intro CD
   ·refine aB 14 aa (aW (rows:=(A++[[vD,(dJ I),(dJ G),(.sl [[(dJ z)]])]])) (ys:=[[O,(dJ G),(dJ L),(.sl [[(dJ z)]])]]) aa aa aa (.bs (rows:=[[O,(dJ G),(dJ L),(.sl [[(dJ z)]])]]) aa) au ae (fun h=>absurd h bh) (fun h=>absurd h bh) ?_);exact W
   exact W
  refine rc 3 aa ?_;obtain⟨L,rfl,S5,S7⟩:=Ty.dP Y;refine rp 7 aa ?_;refine ax aa ?_ ?_<;>intro uu
  ·have Oo:af bc [[(dJ z)]]:=(cJ (ah ai bf) ca);refine mS 16 38 aa aa (fun _=>⟨aa,aa⟩) (rc 1 aa (rp 13 aa ?_));refine aw (aW (rows:=A) (ys:=[[O,(dJ G),(dJ L),(.sl [[(dJ z)]])]]) rfl rfl rfl (.bs (rows:=[[O,(dJ G),(dJ L),(.sl [[(dJ z)]])]]) rfl) au ae (fun h=>by rw[h];rfl) (fun h=>by rw[h];rfl) ?_);exact W
  exact W
 exact rc 4 aa (eK 103 90 aa aa dx (eK 103 91 aa aa dx (W)))
theorem ab9{T:aO}(F:FT T){a0 a1 a2 a3 a4:DC}{z:aj}(L:ao z a0)(cI:z.length≤1000000)(M:af fC z)(bX:tJ.ok a1)(cN:tJ.ok a2){A:aj}(O:ao A a3)(fe:A.length≤200)(U:af eB A)(bY:tJ.ok a4):Sound T 148 [.d a0,.agg [.d a1,.d a2],.d a3,.d a4] fun r=>∃y0 G y2 I,r= .agg [.d y0,.d y2]∧ao G y0∧(G.length:Int)≤z.length∧af bc G∧ao I y2∧(I.length:Int)≤3*z.length∧af fI I:=by
 refine bg F.q148 aa ?_;rcases bX,cN,bY with⟨⟨aH,rfl,ey,dW⟩,⟨bA,rfl,lN,lO⟩,⟨bT,rfl,oj,om⟩⟩
 refine cf 11 aa (aA aa (ahh F L ae M ai ai O ae U ai eb (.inr ⟨aa,aa⟩) ae ca) ?_);rintro _ _⟨eo,eY,tY,yp,rfl,Y,Z,fF,xJ,uW,xK⟩;exact W
theorem aca{T:aO}(F:FT T){a0 a1 a2 a3 a4 a5:DC}{z:aj}(M:ao z a0)(cI:z.length≤1000000)(O:af fC z)(bX:tJ.ok a1)(cN:tJ.ok a2){A:aj}(U:ao A a3)(fe:A.length≤200)(Y:af eB A)(bY:tJ.ok a4){G:aj}(Z:ao G a5)(wg:G.length≤1000000000)(kW:af eC G):Sound T 149 [.d a0,.agg [.d a1,.d a2],.d a3,.d a4,.d a5] fun r=>∃y0 I y2 L,r= .agg [.d y0,.d y2]∧ao I y0∧(I.length:Int)≤z.length∧af bc I∧ao L y2∧(L.length:Int)≤3*z.length∧af fI L:=by
 refine bg F.q149 aa ?_;rcases bX,cN,bY with⟨⟨aH,rfl,ey,dW⟩,⟨bA,rfl,lN,lO⟩,⟨bT,rfl,oj,om⟩⟩
 refine cf 12 aa (aA aa (ahh F M ae O ai ai U ae Y ai eb Z ae kW) ?_);rintro _ _⟨eo,eY,tY,yp,rfl,gP,jh,fF,xJ,uW,xK⟩;exact W
theorem findF{T:aO}(F:FT T){a0:DC}{A:aj}(G:ao A a0)(cI:A.length≤1000000000)(I:af fC A){aH:Int}(jE: -9223372036854775808≤aH)(jF:aH≤9223372036854775807):Sound T 230 [.d a0,.d (dJ aH)] fun r=>∃L,r= .d (dJ L)∧((-1)≤L∧L≤(A.length:Int) -1∧((0≤L→tX aH A)∧(L<0→kQ A.length aH A))):=by
 refine bg F.q230 aa (cf 8 aa (aM aa G ?_));refine ro 3 aa (bd [8,7,4,1,0] [] aa aa (fun e0 b0 k VE B=>∃z,an ((9,.d (dJ z))::e0) VE∧an b0 B∧k=((A.length:Int) -z).toNat∧(0≤z∧(z≤(A.length:Int)∨z=0))∧(kQ z aH A)) ?_ fin);rintro _ VE B⟨z,hV,hB,rfl,bR,cM⟩;refine aS _ _ hV hB (rc 5 aa ?_);refine ax aa ?_ ?_<;>intro g1
 ·refine rc 6 aa ?_;obtain⟨_,⟨Z,rfl,M,O⟩,ff,iW,fg,fT,jB,iV,pn,mX,_,⟨Bq,rfl,U,Y⟩,bM⟩:=qI z I;refine aw (aF aa aa G ae bM aa ?_);refine ro 7 aa (rp 5 aa ?_);refine bk aa ?_ ?_<;>intro g3
  ·refine ro 3 aa (rp 3 aa ?_);refine ax aa ?_ ?_<;>intro g4
   ·refine dH 6 aa ?_;exact bD rfl rfl ⟨z,rfl,⟨ae,ae,(by first|exact⟨fun _=>tX.mk (by assumption) rfl rfl ae ae,fun h=>absurd h aq⟩|exact⟨fun h=>absurd h au,fun _=>kQ.all (by assumption) ae⟩)⟩⟩
   refine aB 2 aa (bB aa aa ae ae ?_);refine cA 2 aa ?_;exact⟨((A.length:Int) -((z+1))).toNat,ae,(z+1),⟨rfl,rfl,rfl,rfl,rfl,rfl,trivial⟩,trivial,rfl,ae,(by first|assumption|exact afX|exact kQ.afY (by assumption) ae (by assumption) rfl ae|exact kQ.afZ (by assumption) ae (by assumption) rfl ae)⟩
  refine ro 6 aa (dc aa aa (aB 2 aa (bB aa aa ae ae ?_)));refine cA 2 aa ?_;exact⟨((A.length:Int) -((z+1))).toNat,ae,(z+1),⟨rfl,rfl,rfl,rfl,rfl,rfl,trivial⟩,trivial,rfl,ae,(by first|assumption|exact afX|exact kQ.afY (by assumption) ae (by assumption) rfl ae|exact kQ.afZ (by assumption) ae (by assumption) rfl ae)⟩
 refine dH 6 aa ?_;exact bD rfl rfl ⟨(-1),rfl,⟨ae,ae,(by first|exact⟨fun _=>tX.mk (by assumption) rfl rfl ae ae,fun h=>absurd h aq⟩|exact⟨fun h=>absurd h au,fun _=>kQ.all (by assumption) ae⟩)⟩⟩
theorem Ha{T:aO}(F:FT T){a0 a1 a2:DC}{Y:aj}(cg:ao Y a0)(cI:Y.length≤1000000)(bJ:af fC Y){bN:aj}(cW:ao bN a1)(dg:bN.length≤1000000)(cq:af bc bN){bu:aj}(cu:ao bu a2)(cX:bu.length≤3000000)(bS:af fI bu){bn:Int}(jG:0≤bn)(jH:bn≤1000){bT:Int}(oE: -9223372036854775808≤bT)(oF:bT≤9223372036854775807)(Fx:pg Y):Sound T 150 [.d a0,.agg [.d a1,.d a2],.d (dJ bn),.d (dJ bT)] fun r=>∃y0 br y2,r= .tuple [.d y0,.d y2]∧ao br y0∧(br.length:Int)≤(Y.length:Int)+bu.length∧af fC br∧0≤(br.length:Int)∧(pg br)∧tJ.ok y2:=by
 refine bg F.q150 aa (r0 12 aa ?_);refine bk aa ?_ ?_<;>intro h1
 ·exact W
 refine ro 4 aa ?_;refine bk aa ?_ ?_<;>intro h2
 ·exact W
 refine ro 4 aa ?_;refine bk aa ?_ ?_<;>intro g3
 ·refine ro 4 aa (eM aa aa (dH 6 aa ?_));exact bD rfl rfl ⟨.nil,[],(dJ 1),rfl,(.inr ⟨rfl,rfl⟩),ae,ca,ae,(by first|exact rb|exact gL.fin (by assumption)),ai⟩
 refine ro 4 aa ?_;refine ax aa ?_ ?_<;>intro g4
 ·refine dH 6 aa ?_;exact bD rfl rfl ⟨.nil,[],(dJ 1),rfl,(.inr ⟨rfl,rfl⟩),ae,ca,ae,(by first|exact rb|exact gL.fin (by assumption)),ai⟩
 refine aB 5 aa (aM aa cg ?_);refine ro 3 aa (bd [39,38,37,9,8,5,3,2,1,0] [5] aa aa (fun e0 b0 k VE B=>∃M,an ((40,.d (dJ M))::e0) VE∧an b0 B∧k=((Y.length:Int) -M).toNat∧(0≤M∧(M≤(Y.length:Int)∨M=0))∧(Ct M Y bT)) ?_ fin);rintro _ VE B⟨M,hV,hB,rfl,bR,cM⟩;refine aS _ _ hV hB (rc 5 aa ?_);refine ax aa ?_ ?_<;>intro g5
 ·refine rc 6 aa ?_;obtain⟨_,⟨D3,rfl,Mf,Mg⟩,vV,rG,Ok,DX,x6_3,hx6_3,x6_4,hx6_4,x6_5,hx6_5,e6⟩:=qI M bJ;refine aw (aF aa aa cg ae e6 aa ?_);refine ro 8 aa (rp 5 aa ?_);refine ax aa ?_ ?_<;>intro g7
  ·refine dH 6 aa ?_;exact bD rfl rfl ⟨.nil,[],(dJ 1),rfl,(.inr ⟨rfl,rfl⟩),ae,ca,ae,(by first|exact rb|exact gL.fin (by assumption)),ai⟩
  refine rc 6 aa (bd [48,41,40,39,38,37,11,10,9,8,5,3,2,1,0] [11,5] aa aa (fun e0 b0 k VE B=>∃Np,an ((12,.d (dJ Np))::e0) VE∧an b0 B∧dT k 0 Np M) ?_ fin);rintro _ VE B⟨Np,hV,hB,rfl,fh⟩;refine aS _ _ hV hB (rc 7 aa ?_);refine ax aa ?_ ?_<;>intro g8
  ·refine rc 7 aa ?_;obtain⟨_,⟨nX,rfl,DA,L5⟩,oh,tu,Ce,tv,Jy,Ee,ER,tp,ES,tq,eW⟩:=qI Np bJ;refine aT (aF aa aa cg ae eW aa ?_);refine rq 1 aa (cr aa aa (c4 aa aa ?_));refine rq 4 aa ?_;refine ax aa ?_ ?_<;>intro uq
   ·refine dH 6 aa ?_;exact bD rfl rfl ⟨.nil,[],(dJ 1),rfl,(.inr ⟨rfl,rfl⟩),ae,ca,ae,(by first|exact rb|exact gL.fin (by assumption)),ai⟩
   exact W
  refine aB 2 aa (bB aa aa ae ae ?_);refine cA 2 aa ?_;exact⟨((Y.length:Int) -((M+1))).toNat,ae,(M+1),⟨rfl,rfl,rfl,rfl,rfl,rfl,rfl,rfl,rfl,rfl,rfl,trivial⟩,⟨rfl,trivial⟩,rfl,ae,(by first|assumption|exact ltV_0|exact Ct.step (by assumption) ae (by assumption) (by first|(simp only[ka];omega)|(simp only[ka];simp_all;omega)))⟩
 refine aB 6 aa (aM aa cW ?_);refine ro 3 aa (bd [65,64,41,40,39,38,37,9,8,5,3,2,1,0] [5] aa aa (fun e0 b0 k VE B=>∃I,an ((66,.d (dJ I))::e0) VE∧an b0 B∧k=((bN.length:Int) -I).toNat∧(0≤I∧(I≤(bN.length:Int)∨I=0))∧(vR I Y bN)) ?_ fin);rintro _ VE B⟨I,hV,hB,rfl,ot,zu⟩;refine aS _ _ hV hB (rc 5 aa ?_);refine ax aa ?_ ?_<;>intro l7
 ·refine rc 6 aa ?_;obtain⟨_,⟨zx12_0,rfl,hzx12_0,kzx12_0⟩,iY⟩:=qI I cq;refine aw (aF aa aa cW ae iY aa ?_);refine aJ 8 aa (aA aa (findF (aH:=zx12_0) F cg ae bJ ae ae) ?_);rintro _ _⟨vD,rfl,ly13_0,uy13_0,Mk⟩;have kv:=Mk.1;refine ro 2 aa ?_;refine bk aa ?_ ?_<;>intro CD
  ·refine ro 8 aa (eM aa aa (dH 6 aa ?_));exact bD rfl rfl ⟨.nil,[],(dJ 11),rfl,(.inr ⟨rfl,rfl⟩),ae,ca,ae,(by first|exact rb|exact gL.fin (by assumption)),ai⟩
  refine ro 3 aa ?_;obtain⟨X3,Jq,B7⟩:=bF (z:=I) (n:=bN.length+1) ae ae;refine bw rfl rfl (eO (l:=0) (h:=X3) rfl cW cq rfl (ta ae) ⟨_,(by rw[←Jq];rfl)⟩ rfl ae ae (fun d16 Yc hd16 ajx hr16=>?_));refine ro 1 aa (bw aa aa (aA aa (Z1 F hd16 ae hr16 ai) ?_));rintro _ _⟨_,rfl,by17_0,rfl⟩;refine ro 2 aa ?_;refine cO aa ?_ ?_<;>intro XW
  ·refine dH 6 aa ?_;exact bD rfl rfl ⟨.nil,[],(dJ 11),rfl,(.inr ⟨rfl,rfl⟩),ae,ca,ae,(by first|exact rb|exact gL.fin (by assumption)),ai⟩
  refine aB 2 aa (bB aa aa ae ae ?_);refine cA 2 aa ?_;exact⟨((bN.length:Int) -((I+1))).toNat,ae,(I+1),⟨rfl,rfl,rfl,rfl,rfl,rfl,rfl,rfl,rfl,rfl,rfl,rfl,rfl,rfl,rfl,trivial⟩,⟨rfl,trivial⟩,rfl,ae,(by first|assumption|exact allV_0|exact vR.step (by assumption) ae (by assumption) rfl (kv ae))⟩
 refine aB 6 aa (aM aa cW ?_);refine ro 3 aa (bd [86,85,67,66,65,64,41,40,39,38,37,9,8,5,3,2,1,0] [5] aa aa (fun e0 b0 k VE B=>∃Nq,an ((87,.d (dJ Nq))::e0) VE∧an b0 B∧dT k 0 Nq (bN.length:Int)) ?_ fin);rintro _ VE B⟨Nq,hV,hB,rfl,Jn⟩;refine aS _ _ hV hB (rc 5 aa ?_);refine ax aa ?_ ?_<;>intro X4
 ·refine rc 5 aa ?_;obtain⟨_,⟨DG,rfl,acb,acd⟩,mD⟩:=qI Nq cq;refine aw (aF aa aa cW ae mD aa ?_);refine aJ 9 aa (aA aa (findF (aH:=DG) F cg ae bJ ae ae) ?_);rintro _ _⟨UI,rfl,ly21_0,uy21_0,aeF⟩;have kb:=find_ge aeF (vR.get (k:=I) dz ae mD rfl);obtain⟨mq,p',mr,s0,x22_2,hx22_2,x22_3,hx22_3,_,⟨zx22_4,rfl,hzx22_4,kzx22_4⟩,x22_5,hx22_5,wa⟩:=qI UI bJ;refine aw (aF aa aa cg ae wa aa ?_);refine ro 5 aa ?_;refine ax aa ?_ ?_<;>intro Pk
  ·refine dH 6 aa ?_;exact bD rfl rfl ⟨.nil,[],(dJ 10),rfl,(.inr ⟨rfl,rfl⟩),ae,ca,ae,(by first|exact rb|exact gL.fin (by assumption)),ai⟩
  exact W
 refine aB 6 aa (aM aa cu ?_);refine ro 3 aa (bd [104,103,88,87,86,85,67,66,65,64,41,40,39,38,37,9,8,5,3,2,1,0] [5] aa aa (fun e0 b0 k VE B=>∃Mr,an ((105,.d (dJ Mr))::e0) VE∧an b0 B∧dT k 0 Mr (bu.length:Int)) ?_ fin);rintro _ VE B⟨Mr,hV,hB,rfl,Jo⟩;refine aS _ _ hV hB (rc 5 aa ?_);refine ax aa ?_ ?_<;>intro Pc
 ·refine rc 5 aa ?_;obtain⟨D7,aeY,D8,S8,x25_2,hx25_2,x25_3,hx25_3,wb⟩:=qI Mr bS;refine aw (aF aa aa cu ae wb aa ?_);refine aJ 8 aa (aA aa (G3 F S8 hx25_2) ?_);rintro _ _⟨_,rfl,aex,rfl⟩;refine ro 2 aa ?_;refine cO aa ?_ ?_<;>intro h27
  ·refine dH 6 aa ?_;exact bD rfl rfl ⟨.nil,[],(dJ 10),rfl,(.inr ⟨rfl,rfl⟩),ae,ca,ae,(by first|exact rb|exact gL.fin (by assumption)),ai⟩
  exact W
 refine aB 9 aa (aM aa cg ?_);refine ro 3 aa (de 19 90 156 64 6 aa aa ?_);refine bd [115,114,106,105,104,103,88,87,86,85,67,66,65,64,41,40,39,38,37,9,8,5,3,2,1,0] [5] rfl rfl (fun e0 b0 k VE B=>∃A L,an ((19,.ac 90 L.length 6)::(116,.d (dJ A))::e0) VE∧an ((90,.acc 156 64 6 L)::b0) B∧k=((Y.length:Int) -A).toNat∧(0≤A∧(A≤(Y.length:Int)∨A=0))∧((L.length:Int)≤A)∧(af fC L)∧(fH A Y L)) ?_ (k:=((Y.length:Int) -0).toNat) ⟨0,[],⟨rfl,rfl,rfl,rfl,rfl,rfl,rfl,rfl,rfl,rfl,rfl,rfl,rfl,rfl,rfl,rfl,rfl,rfl,rfl,rfl,rfl,rfl,rfl,rfl,rfl,rfl,rfl,rfl,trivial⟩,⟨rfl,rfl,trivial⟩,rfl,ae,cE,ca,(by first|assumption|exact AL|exact fH.step (by assumption) Fx ae (by assumption)|exact fH.skip (by assumption) ae)⟩;rintro _ VE B⟨A,L,hV,hB,rfl,WG,WH,Lu,f5_3⟩;refine aS _ _ hV hB (rc 5 aa ?_);refine ax aa ?_ ?_<;>intro Pu
 ·refine rc 5 aa ?_;obtain⟨Iy,vd,vF,⟨wx29_1,Lv,hnx29_1,Lw⟩,_,⟨Z,rfl,hzx29_2,kzx29_2⟩,_,⟨nQ,rfl,ace,acf⟩,_,⟨DH,rfl,hzx29_4,kzx29_4⟩,_,⟨S9,rfl,hzx29_5,kzx29_5⟩,nj⟩:=qI A bJ;refine aw (aF aa aa cg ae nj aa ?_);refine aJ 11 aa (aA aa (Z1 F cW ae cq vd) ?_);rintro _ _⟨_,rfl,aey,rfl⟩;refine ro 1 aa ?_;refine cO aa ?_ ?_<;>intro h31
  ·refine rc 3 aa (rp 6 aa ?_);refine ax aa ?_ ?_<;>intro Pv
   ·refine aB 2 aa (bB aa aa ae ae ?_);refine cA 2 aa ?_;exact⟨((Y.length:Int) -((A+1))).toNat,ae,(A+1),L,⟨rfl,rfl,rfl,rfl,rfl,rfl,rfl,rfl,rfl,rfl,rfl,rfl,rfl,rfl,rfl,rfl,rfl,rfl,rfl,rfl,rfl,rfl,rfl,rfl,rfl,rfl,rfl,rfl,trivial⟩,⟨rfl,rfl,trivial⟩,rfl,ae,ae,Lu,(by first|assumption|exact AL|exact fH.step (by assumption) Fx ae (by assumption)|exact fH.skip (by assumption) ae)⟩
   refine rc 8 aa ?_;obtain⟨U,rfl,acg,ach⟩:=Ty.dP vd;refine rp 3 aa ?_;refine aw (aW (rows:=L) (ys:=[[(dJ U),vF,(dJ Z),(dJ nQ),(dJ DH),(dJ bn)]]) rfl rfl rfl (.bs (rows:=[[(dJ U),vF,(dJ Z),(dJ nQ),(dJ DH),(dJ bn)]]) rfl) au ae (fun h=>by rw[h];rfl) (fun h=>by rw[h];rfl) ?_);refine aJ 3 aa (bB aa aa ae ae ?_);refine cA 2 aa ?_;exact⟨((Y.length:Int) -((A+1))).toNat,ae,(A+1),(L++[[(dJ U),vF,(dJ Z),(dJ nQ),(dJ DH),(dJ bn)]]),⟨rfl,rfl,rfl,rfl,rfl,rfl,rfl,rfl,rfl,rfl,rfl,rfl,rfl,rfl,rfl,rfl,rfl,rfl,rfl,rfl,rfl,rfl,rfl,rfl,rfl,rfl,rfl,rfl,trivial⟩,⟨rfl,rfl,trivial⟩,rfl,ae,cE,(df Lu (c9 (ah ai (ah (aL Lv ae Lw) (ah ai (ah ai (ah ai (ah ai bf)))))))),(by first|assumption|exact AL|exact fH.step (by assumption) Fx ae (by assumption)|exact fH.skip (by assumption) ae)⟩
  refine rc 2 aa ?_;obtain⟨U,rfl,acg,ach⟩:=Ty.dP vd;refine rp 3 aa ?_;refine aw (aW (rows:=L) (ys:=[[(dJ U),vF,(dJ Z),(dJ nQ),(dJ DH),(dJ S9)]]) rfl rfl rfl (.bs (rows:=[[(dJ U),vF,(dJ Z),(dJ nQ),(dJ DH),(dJ S9)]]) rfl) au ae (fun h=>by rw[h];rfl) (fun h=>by rw[h];rfl) ?_);refine aJ 3 aa (bB aa aa ae ae ?_);refine cA 2 aa ?_;exact⟨((Y.length:Int) -((A+1))).toNat,ae,(A+1),(L++[[(dJ U),vF,(dJ Z),(dJ nQ),(dJ DH),(dJ S9)]]),⟨rfl,rfl,rfl,rfl,rfl,rfl,rfl,rfl,rfl,rfl,rfl,rfl,rfl,rfl,rfl,rfl,rfl,rfl,rfl,rfl,rfl,rfl,rfl,rfl,rfl,rfl,rfl,rfl,trivial⟩,⟨rfl,rfl,trivial⟩,rfl,ae,cE,(df Lu (c9 (ah ai (ah (aL Lv ae Lw) (ah ai (ah ai (ah ai (ah ai bf)))))))),(by first|assumption|exact AL|exact fH.step (by assumption) Fx ae (by assumption)|exact fH.skip (by assumption) ae)⟩
 refine aB 6 aa (aM aa cu ?_);refine ro 3 aa ?_;refine bd [140,139,117,116,115,114,106,105,104,103,88,87,86,85,67,66,65,64,41,40,39,38,37,9,8,5,3,2,1,0] [5] rfl rfl (fun e0 b0 k VE B=>∃G O,an ((19,.ac 90 O.length 6)::(141,.d (dJ G))::e0) VE∧an ((90,.acc 156 64 6 O)::b0) B∧k=((bu.length:Int) -G).toNat∧(0≤G∧(G≤(bu.length:Int)∨G=0))∧((O.length:Int)≤(Y.length:Int)+G)∧(af fC O)∧(gL O (bT+G))) ?_ (k:=((bu.length:Int) -0).toNat) ⟨0,L,⟨rfl,rfl,rfl,rfl,rfl,rfl,rfl,rfl,rfl,rfl,rfl,rfl,rfl,rfl,rfl,rfl,rfl,rfl,rfl,rfl,rfl,rfl,rfl,rfl,rfl,rfl,rfl,rfl,rfl,rfl,rfl,rfl,trivial⟩,⟨rfl,rfl,trivial⟩,rfl,ae,ae,Lu,(by first|assumption|exact gL.mk (by assumption) Fx (by assumption) ae ae|exact gL.step (by assumption) (by simp only[ka];first|done|omega) rfl ae rfl ae ae)⟩;rintro _ VE B⟨G,O,hV,hB,rfl,ajA,ajB,aci,ajC⟩;refine aS _ _ hV hB (rc 5 aa ?_);refine ax aa ?_ ?_<;>intro XI
 ·refine rc 6 aa ?_;obtain⟨UN,⟨wx34_0,hdx34_0,hnx34_0,hrx34_0⟩,_,⟨Ta,rfl,hzx34_1,kzx34_1⟩,_,⟨Tb,rfl,hzx34_2,kzx34_2⟩,x34_3,hx34_3,hg34⟩:=qI G bS;refine aw (aF aa aa cu ae hg34 aa ?_);refine aJ 9 aa (bB aa aa ae ae ?_);refine ro 8 aa ?_;refine aw (aW (rows:=O) (ys:=[[(dJ (bT+G)),UN,(dJ Ta),(dJ Tb),(dJ bn),(dJ 1099511627776)]]) rfl rfl rfl (.bs (rows:=[[(dJ (bT+G)),UN,(dJ Ta),(dJ Tb),(dJ bn),(dJ 1099511627776)]]) rfl) au ae (fun h=>by rw[h];rfl) (fun h=>by rw[h];rfl) ?_);refine aJ 3 aa (bB aa aa ae ae ?_);refine cA 2 aa ?_;exact⟨((bu.length:Int) -((G+1))).toNat,ae,(G+1),(O++[[(dJ (bT+G)),UN,(dJ Ta),(dJ Tb),(dJ bn),(dJ 1099511627776)]]),⟨rfl,rfl,rfl,rfl,rfl,rfl,rfl,rfl,rfl,rfl,rfl,rfl,rfl,rfl,rfl,rfl,rfl,rfl,rfl,rfl,rfl,rfl,rfl,rfl,rfl,rfl,rfl,rfl,rfl,rfl,rfl,rfl,trivial⟩,⟨rfl,rfl,trivial⟩,rfl,ae,cE,(df aci (c9 (ah ai (ah (aL hdx34_0 ae hrx34_0) (ah ai (ah ai (ah ai (ah ai bf)))))))),(by first|assumption|exact gL.mk (by assumption) Fx (by assumption) ae ae|exact gL.step (by assumption) (by simp only[ka];first|done|omega) rfl ae rfl ae ae)⟩
 refine rc 7 aa (cl 8 90 aa aa (fun _=>⟨aa,aa⟩) (dH 1 aa ?_));exact bD rfl rfl ⟨(.cm O),O,i0,rfl,(.acc _),ae,aci,ae,(by first|exact rb|exact gL.fin (by assumption)),ai⟩
end Go.Ev.Rp
