/- Part 22 of rules for walks through the code of a program, and of such walks; what each part proves is said by its theorems. -/
import Derived.Test.YtdgcofocbhbjcaaGreatS21
set_option linter.unusedVariables false
set_option linter.unusedSimpArgs false
noncomputable section
set_option maxRecDepth 100000
set_option maxHeartbeats 4000000
namespace Go.Ev.Rp
open Go Go.Ev.Pp
theorem affC{T:bC}(F:FT T){a0 a1 a2 a3 a4:DC}{K:List (List DC)}(dW:aR K a0)(ed:K.length≤1000000000)(cW:aH gf K)(da:tJ.ok a1)(dE:tJ.ok a2){e5:List (List DC)}(eC:aR e5 a3)(iS:e5.length≤200)(ef:aH ji e5)(dg:tJ.ok a4):Sound T 215 [.d a0,.agg [.d a1,.d a2],.d a3,.d a4] fun r=>∃(y0:DC)(cQ:List (List DC)),r= .d y0∧aR cQ y0∧(cQ.length:Int)≤K.length∧aH gf cQ∧0≤(cQ.length:Int)∧(cQ=[]→y0= .nil):=by
 refine ch F.q215 aa ?_
 obtain⟨aB,rfl,eS,eT⟩:=Ty.az da
 obtain⟨bk,rfl,pA,pB⟩:=Ty.az dE
 obtain⟨bc,rfl,sh,si⟩:=Ty.az dg
 refine aj (af 2 aa (aj (af 1 aa (aA (aj (ak 1 aa (ai (bu aa dW ?_))))))))
 refine af 1 aa (bj (ki 9 90 48 64 6 aa aa (cb (fun k VE B=>∃(p:Int)(G:List (List DC)),(0≤p∧(p≤(K.length:Int)∨p=0))∧((G.length:Int)≤p)∧(aH gf G)∧k=((K.length:Int) -p).toNat∧aT [(0,.d a0),(1,.agg [.d (dJ aB),.d (dJ bk)]),(2,.d a3),(3,.d (dJ bc)),(5,.vp 5 0),(8,dN),(9,.ac 90 G.length 6),(15,.d a0),(16,.d (dJ (K.length:Int))),(17,.d (dJ p))] VE∧aT [(5,.one 46 16 [.d (dJ aB),.d (dJ bk)]),(90,.acc 48 64 6 G)] B) ?_ (k:=((K.length:Int) -0).toNat) ⟨0,[],ae,cn,bN,aa,⟨aa,aa,aa,aa,aa,aa,aa,aa,aa,aa,trivial⟩,⟨aa,aa,trivial⟩⟩)))
 rintro _ VE B⟨p,G,c9,fr,L,rfl,hV,hB⟩
 refine bz _ _ hV hB (aj (af 1 aa (aA (aN aa (fun h1 g1=>?_) (fun h1 g1=>?_)))))
 ·refine aG (aA (bj (aj ?_)))
  obtain⟨r2,dj,dA⟩:=bR p cW
  obtain⟨fR,fh,gn,lu,oE,se,rfl,ig,ij,iP,gC,kr,ov⟩:=fe dA
  refine ai (bo aa aa dW ae dj aa ?_)
  refine af 3 aa (aj (ak 3 aa (ai (aY aa (aV aa) (Xx F iP gC ah ah) (fun r3 _ fv=>?_)))))
  obtain⟨iG,zJ,abC,rfl,kx,hy3_1,hy3_2⟩:=fv
  refine af 6 aa (aA (aj ?_))
  obtain⟨U,rfl,Nb,Nc⟩:=Ty.az ov
  refine ak 5 aa (bZ (g:=vZ) aa (fun h4 g4=>?_) (fun h4 g4=>?_))
  ·refine an aa h4 (an aa h4 (ai (aW aa h4 aa ?_)))
   refine ak 1 aa (an aa aa (an aa aa (an aa aa (an aa aa (an aa aa (an aa aa (an aa aa (ai (aW aa aa aa ?_)))))))))
   refine bn (cg aa aa (bV (aS (ai (br aa aa ae ae ?_)))))
   exact af 1 aa (⟨((K.length:Int) -((p+1))).toNat,ae,(p+1),G,ae,ae,L,aa,⟨aa,aa,aa,aa,aa,aa,aa,aa,aa,aa,trivial⟩,⟨aa,aa,trivial⟩⟩)
  refine aq aa h4 (bf aa ?_)
  obtain⟨by3_2,rfl⟩:=Ty.bQ hy3_2
  refine aq aa h4 (eQ aa ?_)
  refine ai (bd aa h4 aa ?_)
  refine ak 1 aa (e6 (g:=ll) aa (fun h5=>?_) (fun h5=>?_))
  ·refine an aa h5 (an aa h5 (an aa h5 (an aa h5 (an aa h5 (an aa h5 (an aa h5 (ai (aW aa h5 aa ?_))))))))
   refine bn (cg aa aa (bV (aS (ai (br aa aa ae ae ?_)))))
   exact af 1 aa (⟨((K.length:Int) -((p+1))).toNat,ae,(p+1),G,ae,ae,L,aa,⟨aa,aa,aa,aa,aa,aa,aa,aa,aa,aa,trivial⟩,⟨aa,aa,trivial⟩⟩)
  refine aq aa h5 (bf aa ?_)
  refine aq aa h5 (bf aa ?_)
  refine aq aa h5 (bL aa ?_)
  refine aq aa h5 (bJ aa aa aa ?_)
  obtain⟨ED,M,DN,O⟩:=Ty.au ij
  refine aq aa h5 (aY aa (aV aa) (ZE F eC ae ef ah M ae O) (fun r6 _ iW=>?_))
  obtain⟨oH,F0,mW,rfl,rG,rH,yq⟩:=iW
  refine aq aa h5 (aY aa (aV aa) (BC F rG rH yq) (fun r7 _ nc=>?_))
  obtain⟨wu,rfl,rJ⟩:=nc
  obtain⟨by7_0,rfl⟩:=Ty.bQ rJ
  refine aq aa h5 (eQ aa ?_)
  refine ai (bd aa h5 aa ?_)
  refine bn (db aa (fun h8=>?_) (fun h8=>?_))
  ·refine bV (aS (ai (br aa aa ae ae ?_)))
   exact af 1 aa (⟨((K.length:Int) -((p+1))).toNat,ae,(p+1),G,ae,ae,L,aa,⟨aa,aa,aa,aa,aa,aa,aa,aa,aa,aa,trivial⟩,⟨aa,aa,trivial⟩⟩)
  refine aG (aj (af 3 aa (aj ?_)))
  obtain⟨Y,rfl,AZ,xI⟩:=Ty.az ig
  obtain⟨Z,rfl,xJ,xK⟩:=Ty.az iP
  obtain⟨ye,rfl,Xc,Xd⟩:=Ty.az gC
  obtain⟨yf,rfl,Xe,Xf⟩:=Ty.az kr
  refine ak 3 aa ?_
  refine ai (cr (rows:=G) (ys:=[[(dJ Y),fh,(dJ Z),(dJ ye),(dJ yf),(dJ U)]]) rfl rfl rfl (.bs (rows:=[[(dJ Y),fh,(dJ Z),(dJ ye),(dJ yf),(dJ U)]]) rfl) aD ae (fun h=>by rw[h];rfl) (fun h=>by rw[h];rfl) ?_)
  refine af 1 aa (aA (bj (cb (fun k VE B=>∃(A:Int)(J:List (List DC)),(0≤A∧A<(J.length:Int))∧((J.length:Int)≤p+1)∧(aH gf J)∧k=(A).toNat∧aT [(0,.d a0),(1,.agg [.d (dJ aB),.d (dJ bk)]),(2,.d a3),(3,.d (dJ bc)),(5,.vp 5 0),(8,dN),(9,.ac 90 J.length 6),(11,.vp 11 0),(13,dB by3_2),(14,.d (dJ A)),(15,.d a0),(16,.d (dJ (K.length:Int))),(17,.d (dJ p)),(18,dB (decide (p<(K.length:Int)))),(44,dB ((!by7_0)))] VE∧aT [(5,.one 46 16 [.d (dJ aB),.d (dJ bk)]),(11,.one 48 64 [.d (dJ Y),.d fh,.d (dJ Z),.d (dJ ye),.d (dJ yf),.d (dJ U)]),(12,.one 46 16 [.d iG,.d zJ]),(49,.arr 48 64 6 1 [[(dJ Y),fh,(dJ Z),(dJ ye),(dJ yf),(dJ U)]]),(90,.acc 48 64 6 J)] B) ?_ (k:=(((G.length:Int))).toNat) ⟨(G.length:Int),(G++[[(dJ Y),fh,(dJ Z),(dJ ye),(dJ yf),(dJ U)]]),ae,cn,(bS L (bX (ao ah (ao (au M ae O) (ao ah (ao ah (ao ah (ao ah bm)))))))),aa,⟨aa,aa,aa,aa,aa,aa,aa,aa,aa,aa,aa,aa,aa,aa,aa,trivial⟩,⟨aa,aa,aa,aa,aa,trivial⟩⟩)))
  rintro _ VE B⟨A,J,jj,pw,I,rfl,hV,hB⟩
  refine bz _ _ hV hB (aA (cN (aP 3 aa (fA (g:=yZ) aa (fun h9 g9=>?_) (fun h9 g9=>?_)))))
  ·refine bg aa h9 (bf aa ?_)
   refine bg aa h9 (bf aa ?_)
   refine bg aa h9 (eb aa aa ae ae ?_)
   obtain⟨j10,F1,Cm⟩:=cE (z:=(A-1)) (n:=J.length) ae ae
   obtain⟨mA,gL,gM⟩:=dX Cm I
   obtain⟨mh,oq,vE,x10_3,x10_4,x10_5,rfl,ko,o6,oh,Ol,hx10_4,hx10_5⟩:=fe gM
   refine bg rfl h9 (gk rfl (by rw[←F1];rfl) Cm ?_)
   refine bg aa h9 (sN aa ?_)
   refine cw aa h9 aa (n6 (rows:=J) aa aa gL aa ?_)
   refine bg aa h9 (bL aa ?_)
   refine cw aa h9 aa (bJ aa aa aa ?_)
   obtain⟨A3,rfl,Mo,Mp⟩:=Ty.az ko
   refine bg aa h9 (je aa aa ?_)
   refine aU (aW aa h9 aa ?_)
   refine cU (aN aa (fun ir fT=>?_) (fun ir fT=>?_))
   ·refine aG (bj (aj (ak 4 aa (ai (eb aa aa ae ae ?_)))))
    obtain⟨j12,F5,Gp⟩:=cE (z:=(A-1)) (n:=J.length) ae ae
    obtain⟨nW,nR,jy⟩:=dX Gp I
    obtain⟨rL,vJ,ZH,x12_3,x12_4,x12_5,rfl,qd,xT,IT,hx12_3,hx12_4,hx12_5⟩:=fe jy
    refine ai (gk rfl (by rw[←F5];rfl) Gp ?_)
    refine ai (vi_loadAA (rows:=J) aa aa nR (aX aa) (aX aa) ?_)
    obtain⟨j13,Q9,Cn⟩:=cE (z:=A) (n:=J.length) ae ae
    obtain⟨qQ,sk,qH⟩:=dX Cn I
    obtain⟨rK,yk,ZT,ZU,ZV,x13_5,rfl,sY,A4,XX,XY,XZ,hx13_5⟩:=fe qH
    refine ai (gk rfl (by rw[←Q9];rfl) Cn ?_)
    refine jd (mC aa aa aa aa aa aa aD aD sk (fun w14 hw14 hl14=>?_))
    have Gq:aH gf w14:=by rw[hw14];exact hZ I (ao qd (ao xT (ao IT (ao hx12_3 (ao hx12_4 (ao hx12_5 bm))))))
    rw[←hl14]
    refine bn (aS (ak 1 aa (ai (eb aa aa ae ae ?_))))
    exact af 1 aa (⟨(((A-1))).toNat,ae,(A-1),w14,ae,ae,Gq,aa,⟨aa,aa,aa,aa,aa,aa,aa,aa,aa,aa,aa,aa,aa,aa,aa,trivial⟩,⟨aa,aa,aa,aa,aa,trivial⟩⟩)
   refine bV (aS (ak 3 aa ?_))
   obtain⟨So,F2,zq⟩:=cE (z:=A) (n:=J.length) ae ae
   obtain⟨sw,tQ,sg⟩:=dX zq I
   obtain⟨Ps,Ju,x15_2,x15_3,x15_4,x15_5,rfl,DO,DP,hx15_2,hx15_3,hx15_4,hx15_5⟩:=fe sg
   refine ai (gk rfl (by rw[←F2];rfl) zq ?_)
   refine jd (mC aa aa aa aa aa aa aD aD tQ (fun CM hw16 abK=>?_))
   have zO:aH gf CM:=by rw[hw16];exact hZ I (ao ah (ao (au M ae O) (ao ah (ao ah (ao ah (ao ah bm))))))
   rw[←abK]
   refine bn (aS (ai (br aa aa ae ae ?_)))
   exact af 1 aa (⟨((K.length:Int) -((p+1))).toNat,ae,(p+1),CM,ae,ae,zO,aa,⟨aa,aa,aa,aa,aa,aa,aa,aa,aa,aa,trivial⟩,⟨aa,aa,trivial⟩⟩)
  refine bh aa h9 (bh aa h9 (bh aa h9 (bh aa h9 (bh aa h9 (ca aa h9 (bh aa h9 (ca aa h9 (bh aa h9 (aU (bd aa h9 aa ?_))))))))))
  refine cU (cH aa aa (bV (aS (ak 3 aa ?_))))
  obtain⟨SV,RG,KI⟩:=cE (z:=A) (n:=J.length) ae ae
  obtain⟨CN,wD,oL⟩:=dX KI I
  obtain⟨ZR,x17_1,x17_2,x17_3,x17_4,x17_5,rfl,I3,hx17_1,hx17_2,hx17_3,hx17_4,hx17_5⟩:=fe oL
  refine ai (gk rfl (by rw[←RG];rfl) KI ?_)
  refine jd (mC aa aa aa aa aa aa aD aD wD (fun w18 hw18 hl18=>?_))
  have Gr:aH gf w18:=by rw[hw18];exact hZ I (ao ah (ao (au M ae O) (ao ah (ao ah (ao ah (ao ah bm))))))
  rw[←hl18]
  refine bn (aS (ai (br aa aa ae ae ?_)))
  exact af 1 aa (⟨((K.length:Int) -((p+1))).toNat,ae,(p+1),w18,ae,ae,Gr,aa,⟨aa,aa,aa,aa,aa,aa,aa,aa,aa,aa,trivial⟩,⟨aa,aa,trivial⟩⟩)
 refine bV (aj (af 2 aa (fm 8 90 aa aa (fun _=>⟨aa,aa⟩) (ay ?_))))
 exact aE rfl rfl ⟨(.cS G),G,rfl,(.acc _),ae,L,ae,(fun h=>by rw[h];rfl)⟩
theorem ZW{T:bC}(F:FT T){a0 a1 a2 a3 a4 a5 a6:DC}{dP:List (List DC)}(dW:aR dP a0)(ed:dP.length≤1000000)(cW:aH gf dP)(da:tJ.ok a1)(dE:tJ.ok a2){e5:List (List DC)}(eC:aR e5 a3)(iS:e5.length≤200)(ef:aH ji e5)(dg:tJ.ok a4)(dm:(Ty.b).ok a5){iV:List (List DC)}(tO:aR iV a6)(abD:iV.length≤1000000000)(FY:aH fK iV):Sound T 159 [.d a0,.agg [.d a1,.d a2],.d a3,.d a4,.d a5,.d a6] fun r=>∃(y0:DC)(cQ:List (List DC))(y2:DC)(eJ:List (List DC)),r= .agg [.d y0,.d y2]∧aR cQ y0∧(cQ.length:Int)≤dP.length∧aH cl cQ∧aR eJ y2∧(eJ.length:Int)≤3*dP.length∧aH jv eJ:=by
 refine ch F.q159 aa ?_
 obtain⟨aB,rfl,eS,eT⟩:=Ty.az da
 obtain⟨bk,rfl,pA,pB⟩:=Ty.az dE
 obtain⟨bc,rfl,sh,si⟩:=Ty.az dg
 obtain⟨ba5,rfl⟩:=Ty.bQ dm
 refine aj (af 2 aa (aj (af 1 aa (aA (aj (ak 4 aa (ai (aY aa (aV aa) (affC F dW ae cW ah ah eC ae ef ah) (fun r1 _ dh=>?_)))))))))
 obtain⟨dV,Z,rfl,o7,rn,oi,vh,D3⟩:=dh
 refine ai (bu aa o7 ?_)
 refine af 1 aa (bj (xk 13 0 90 3 8 1 aa aa aa (xk 13 1 91 215 64 4 aa aa aa (cb (fun k VE B=>∃(A:Int)(I:List (List DC))(z:List (List DC)),(0≤A∧(A≤(Z.length:Int)∨A=0))∧((I.length:Int)≤A)∧(aH cl I)∧((z.length:Int)≤3*A)∧(aH jv z)∧k=((Z.length:Int) -A).toNat∧aT [(0,.d a0),(1,.agg [.d (dJ aB),.d (dJ bk)]),(2,.d a3),(3,.d (dJ bc)),(4,dB ba5),(5,.d a6),(7,.vp 7 0),(12,.vp 12 0),(13,.vp 13 0),(23,.d dV),(24,.d (dJ (Z.length:Int))),(25,.d (dJ A))] VE∧aT [(7,.one 46 16 [.d (dJ aB),.d (dJ bk)]),(12,.one 198 48 [dN,dN]),(13,.one 198 48 [.ac 90 I.length 1,.ac 91 z.length 4]),(90,.acc 3 8 1 I),(91,.acc 215 64 4 z)] B) ?_ (k:=((Z.length:Int) -0).toNat) ⟨0,[],[],ae,cn,bN,cn,bN,aa,⟨aa,aa,aa,aa,aa,aa,aa,aa,aa,aa,aa,aa,trivial⟩,⟨aa,aa,aa,aa,aa,trivial⟩⟩))))
 rintro _ VE B⟨A,I,z,c9,fr,J,Cl,K,rfl,hV,hB⟩
 refine bz _ _ hV hB (aj (af 1 aa (aA (aN aa (fun h2 g2=>?_) (fun h2 g2=>?_)))))
 ·refine aG (aA (bj (aj ?_)))
  obtain⟨r3,fG,gQ⟩:=bR A oi
  obtain⟨oD,M,wo,abL,abM,abN,rfl,kt,mM,qp,tg,JV,JW⟩:=fe gQ
  refine ai (bo aa aa o7 ae fG aa ?_)
  refine af 3 aa (aj ?_)
  obtain⟨p,rfl,Ny,Nz⟩:=Ty.az kt
  refine ak 5 aa ?_
  refine ai (cr (rows:=I) (ys:=[[(dJ p)]]) rfl rfl rfl (.bs (rows:=[[(dJ p)]]) rfl) aD ae (fun h=>by rw[h];rfl) (fun h=>by rw[h];rfl) ?_)
  refine af 2 aa (aj (af 4 aa (aj (ak 3 aa (ai (aY aa (aV aa) (Xx F qp tg ah ah) (fun r4 _ eo=>?_)))))))
  obtain⟨fk,zN,Cv,rfl,mN,ph,hy4_2⟩:=eo
  refine af 6 aa (aA (aj ?_))
  obtain⟨th,rfl,XN,XO⟩:=Ty.az qp
  obtain⟨L,rfl,NF,NG⟩:=Ty.az mN
  refine af 6 aa (aN aa (fun h5 g5=>?_) (fun h5 g5=>?_))
  ·have n5:aH cl [[(dJ p)]]:=(cY (ao ah bm) bN)
   refine ma 16 38 aa aa (fun _=>⟨aa,aa⟩) (aS ?_)
   obtain⟨ZX,O,X1,U⟩:=Ty.au mM
   refine ak 13 aa ?_
   refine ai (cr (rows:=z) (ys:=[[M,(dJ th),(dJ L),(.sl [[(dJ p)]])]]) rfl rfl rfl (.bs (rows:=[[M,(dJ th),(dJ L),(.sl [[(dJ p)]])]]) rfl) aD ae (fun h=>by rw[h];rfl) (fun h=>by rw[h];rfl) ?_)
   refine af 2 aa (aA (aj (af 1 aa (db aa (fun h7=>?_) (fun h7=>?_)))))
   ·refine fB (aP 6 aa (bP aa (aY aa (aV aa) (V7 F O ae U eC ae ef tO ae FY) (fun r8 _ lW=>?_))))
    obtain⟨qE,wy8_0,rfl,I6,hny8_0,I7⟩:=lW
    obtain⟨G,rfl,I1,I2⟩:=Ty.az ph
    refine aP 4 aa (bP aa (cr (rows:=(z++[[M,(dJ th),(dJ L),(.sl [[(dJ p)]])]])) (ys:=[[qE,(dJ L),(dJ G),(.sl [[(dJ p)]])]]) aa aa aa (.bs (rows:=[[qE,(dJ L),(dJ G),(.sl [[(dJ p)]])]]) aa) aD ae (fun h=>absurd h bx) (fun h=>absurd h bx) ?_))
    refine cP 2 aa (aj ?_)
    obtain⟨Y,rfl,Om,On⟩:=Ty.az tg
    refine af 6 aa (aN aa (fun h9 g9=>?_) (fun h9 g9=>?_))
    ·refine aS (ak 13 aa (ai (cr (rows:=((z++[[M,(dJ th),(dJ L),(.sl [[(dJ p)]])]])++[[qE,(dJ L),(dJ G),(.sl [[(dJ p)]])]])) (ys:=[[M,(dJ G),(dJ Y),(.sl [[(dJ p)]])]]) aa aa aa (.bs (rows:=[[M,(dJ G),(dJ Y),(.sl [[(dJ p)]])]]) aa) aD ae (fun h=>absurd h bx) (fun h=>absurd h bx) ?_)))
     refine af 2 aa (aS (ai (br aa aa ae ae ?_)))
     exact af 1 aa (⟨((Z.length:Int) -((A+1))).toNat,ae,(A+1),(I++[[(dJ p)]]),(((z++[[M,(dJ th),(dJ L),(.sl [[(dJ p)]])]])++[[qE,(dJ L),(dJ G),(.sl [[(dJ p)]])]])++[[M,(dJ G),(dJ Y),(.sl [[(dJ p)]])]]),ae,cn,(bS J (bX (ao ah bm))),cn,(bS (bS (bS K (bX (ao (au O ae U) (ao ah (ao ah (ao (au (.inl aa) ae n5) bm)))))) (bX (ao (au I6 ae I7) (ao ah (ao ah (ao (au (.inl aa) ae n5) bm)))))) (bX (ao (au O ae U) (ao ah (ao ah (ao (au (.inl aa) ae n5) bm)))))),aa,⟨aa,aa,aa,aa,aa,aa,aa,aa,aa,aa,aa,aa,trivial⟩,⟨aa,aa,aa,aa,aa,trivial⟩⟩)
    refine aG (aS (ai (br aa aa ae ae ?_)))
    exact af 1 aa (⟨((Z.length:Int) -((A+1))).toNat,ae,(A+1),(I++[[(dJ p)]]),((z++[[M,(dJ th),(dJ L),(.sl [[(dJ p)]])]])++[[qE,(dJ L),(dJ G),(.sl [[(dJ p)]])]]),ae,cn,(bS J (bX (ao ah bm))),cn,(bS (bS K (bX (ao (au O ae U) (ao ah (ao ah (ao (au (.inl aa) ae n5) bm)))))) (bX (ao (au I6 ae I7) (ao ah (ao ah (ao (au (.inl aa) ae n5) bm)))))),aa,⟨aa,aa,aa,aa,aa,aa,aa,aa,aa,aa,aa,aa,trivial⟩,⟨aa,aa,aa,aa,aa,trivial⟩⟩)
   refine aG (aj ?_)
   obtain⟨G,rfl,I1,I2⟩:=Ty.az ph
   obtain⟨Y,rfl,Om,On⟩:=Ty.az tg
   refine af 6 aa (aN aa (fun gx fV=>?_) (fun gx fV=>?_))
   ·refine aS (ak 13 aa (ai (cr (rows:=(z++[[M,(dJ th),(dJ L),(.sl [[(dJ p)]])]])) (ys:=[[M,(dJ G),(dJ Y),(.sl [[(dJ p)]])]]) aa aa aa (.bs (rows:=[[M,(dJ G),(dJ Y),(.sl [[(dJ p)]])]]) aa) aD ae (fun h=>absurd h bx) (fun h=>absurd h bx) ?_)))
    refine af 2 aa (aS (ai (br aa aa ae ae ?_)))
    exact af 1 aa (⟨((Z.length:Int) -((A+1))).toNat,ae,(A+1),(I++[[(dJ p)]]),((z++[[M,(dJ th),(dJ L),(.sl [[(dJ p)]])]])++[[M,(dJ G),(dJ Y),(.sl [[(dJ p)]])]]),ae,cn,(bS J (bX (ao ah bm))),cn,(bS (bS K (bX (ao (au O ae U) (ao ah (ao ah (ao (au (.inl aa) ae n5) bm)))))) (bX (ao (au O ae U) (ao ah (ao ah (ao (au (.inl aa) ae n5) bm)))))),aa,⟨aa,aa,aa,aa,aa,aa,aa,aa,aa,aa,aa,aa,trivial⟩,⟨aa,aa,aa,aa,aa,trivial⟩⟩)
   refine aG (aS (ai (br aa aa ae ae ?_)))
   exact af 1 aa (⟨((Z.length:Int) -((A+1))).toNat,ae,(A+1),(I++[[(dJ p)]]),(z++[[M,(dJ th),(dJ L),(.sl [[(dJ p)]])]]),ae,cn,(bS J (bX (ao ah bm))),cn,(bS K (bX (ao (au O ae U) (ao ah (ao ah (ao (au (.inl aa) ae n5) bm)))))),aa,⟨aa,aa,aa,aa,aa,aa,aa,aa,aa,aa,aa,aa,trivial⟩,⟨aa,aa,aa,aa,aa,trivial⟩⟩)
  refine aG (aA (aj (af 1 aa (db aa (fun ir=>?_) (fun ir=>?_)))))
  ·have zP:aH cl [[(dJ p)]]:=(cY (ao ah bm) bN)
   refine ma 16 38 aa aa (fun _=>⟨aa,aa⟩) (fB (aP 6 aa ?_))
   obtain⟨ZX,O,X1,U⟩:=Ty.au mM
   refine bP aa (aY aa (aV aa) (V7 F O ae U eC ae ef tO ae FY) (fun qQ _ oF=>?_))
   obtain⟨rM,wy13_0,rfl,Wb,hny13_0,Wc⟩:=oF
   obtain⟨G,rfl,I1,I2⟩:=Ty.az ph
   refine aP 4 aa ?_
   refine bP rfl (cr (rows:=z) (ys:=[[rM,(dJ L),(dJ G),(.sl [[(dJ p)]])]]) rfl rfl rfl (.bs (rows:=[[rM,(dJ L),(dJ G),(.sl [[(dJ p)]])]]) rfl) aD ae (fun h=>by rw[h];rfl) (fun h=>by rw[h];rfl) ?_)
   refine cP 2 aa (aj ?_)
   obtain⟨Y,rfl,Om,On⟩:=Ty.az tg
   refine af 6 aa (aN aa (fun fw kG=>?_) (fun fw kG=>?_))
   ·refine aS (ak 13 aa (ai (cr (rows:=(z++[[rM,(dJ L),(dJ G),(.sl [[(dJ p)]])]])) (ys:=[[M,(dJ G),(dJ Y),(.sl [[(dJ p)]])]]) aa aa aa (.bs (rows:=[[M,(dJ G),(dJ Y),(.sl [[(dJ p)]])]]) aa) aD ae (fun h=>absurd h bx) (fun h=>absurd h bx) ?_)))
    refine af 2 aa (aS (ai (br aa aa ae ae ?_)))
    exact af 1 aa (⟨((Z.length:Int) -((A+1))).toNat,ae,(A+1),(I++[[(dJ p)]]),((z++[[rM,(dJ L),(dJ G),(.sl [[(dJ p)]])]])++[[M,(dJ G),(dJ Y),(.sl [[(dJ p)]])]]),ae,cn,(bS J (bX (ao ah bm))),cn,(bS (bS K (bX (ao (au Wb ae Wc) (ao ah (ao ah (ao (au (.inl aa) ae zP) bm)))))) (bX (ao (au O ae U) (ao ah (ao ah (ao (au (.inl aa) ae zP) bm)))))),aa,⟨aa,aa,aa,aa,aa,aa,aa,aa,aa,aa,aa,aa,trivial⟩,⟨aa,aa,aa,aa,aa,trivial⟩⟩)
   refine aG (aS (ai (br aa aa ae ae ?_)))
   exact af 1 aa (⟨((Z.length:Int) -((A+1))).toNat,ae,(A+1),(I++[[(dJ p)]]),(z++[[rM,(dJ L),(dJ G),(.sl [[(dJ p)]])]]),ae,cn,(bS J (bX (ao ah bm))),cn,(bS K (bX (ao (au Wb ae Wc) (ao ah (ao ah (ao (au (.inl aa) ae zP) bm)))))),aa,⟨aa,aa,aa,aa,aa,aa,aa,aa,aa,aa,aa,aa,trivial⟩,⟨aa,aa,aa,aa,aa,trivial⟩⟩)
  refine aG (aj ?_)
  obtain⟨G,rfl,I1,I2⟩:=Ty.az ph
  obtain⟨Y,rfl,Om,On⟩:=Ty.az tg
  refine af 6 aa (aN aa (fun nj kI=>?_) (fun nj kI=>?_))
  ·have zO:aH cl [[(dJ p)]]:=(cY (ao ah bm) bN)
   refine ma 16 38 aa aa (fun _=>⟨aa,aa⟩) (aS ?_)
   obtain⟨ZX,O,X1,U⟩:=Ty.au mM
   refine ak 13 aa ?_
   refine ai (cr (rows:=z) (ys:=[[M,(dJ G),(dJ Y),(.sl [[(dJ p)]])]]) rfl rfl rfl (.bs (rows:=[[M,(dJ G),(dJ Y),(.sl [[(dJ p)]])]]) rfl) aD ae (fun h=>by rw[h];rfl) (fun h=>by rw[h];rfl) ?_)
   refine af 2 aa (aS (ai (br aa aa ae ae ?_)))
   exact af 1 aa (⟨((Z.length:Int) -((A+1))).toNat,ae,(A+1),(I++[[(dJ p)]]),(z++[[M,(dJ G),(dJ Y),(.sl [[(dJ p)]])]]),ae,cn,(bS J (bX (ao ah bm))),cn,(bS K (bX (ao (au O ae U) (ao ah (ao ah (ao (au (.inl aa) ae zO) bm)))))),aa,⟨aa,aa,aa,aa,aa,aa,aa,aa,aa,aa,aa,aa,trivial⟩,⟨aa,aa,aa,aa,aa,trivial⟩⟩)
  refine aG (aS (ai (br aa aa ae ae ?_)))
  exact af 1 aa (⟨((Z.length:Int) -((A+1))).toNat,ae,(A+1),(I++[[(dJ p)]]),z,ae,cn,(bS J (bX (ao ah bm))),ae,K,aa,⟨aa,aa,aa,aa,aa,aa,aa,aa,aa,aa,aa,aa,trivial⟩,⟨aa,aa,aa,aa,aa,trivial⟩⟩)
 exact bV (aj (ak 1 aa (fO 103 90 aa aa eA (fO 103 91 aa aa eA (af 1 aa (ay (aE aa aa ⟨(.cS I),I,(.cS z),z,aa,(.acc _),ae,J,(.acc _),ae,K⟩)))))))
theorem Wd{T:bC}(F:FT T){a0 a1 a2 a3 a4:DC}{p:List (List DC)}(U:aR p a0)(ed:p.length≤1000000)(Y:aH gf p)(da:tJ.ok a1)(dE:tJ.ok a2){J:List (List DC)}(Z:aR J a3)(iS:J.length≤200)(ef:aH ji J)(dg:tJ.ok a4):Sound T 122 [.d a0,.agg [.d a1,.d a2],.d a3,.d a4] fun r=>∃(y0:DC)(K:List (List DC))(y2:DC)(L:List (List DC)),r= .agg [.d y0,.d y2]∧aR K y0∧(K.length:Int)≤p.length∧aH cl K∧aR L y2∧(L.length:Int)≤3*p.length∧aH jv L:=by
 refine ch F.q122 aa ?_
 obtain⟨aB,rfl,eS,eT⟩:=Ty.az da
 obtain⟨bk,rfl,pA,pB⟩:=Ty.az dE
 obtain⟨bc,rfl,sh,si⟩:=Ty.az dg
 refine aj (af 2 aa (aj (ak 4 aa (ai (aY aa (aV aa) (ZW F U ae Y ah ah Z ae ef ah bQ (.inr ⟨aa,aa⟩) ae bN) (fun r1 _ dh=>?_))))))
 obtain⟨dV,M,wE,O,rfl,z,rn,A,G,I5,I⟩:=dh
 exact af 1 aa (ay (aE aa aa ⟨dV,M,wE,O,aa,z,ae,A,G,ae,I⟩))
theorem We{T:bC}(F:FT T){a0 a1 a2 a3 a4 a5:DC}{p:List (List DC)}(Y:aR p a0)(ed:p.length≤1000000)(Z:aH gf p)(da:tJ.ok a1)(dE:tJ.ok a2){J:List (List DC)}(eC:aR J a3)(iS:J.length≤200)(ef:aH ji J)(dg:tJ.ok a4){K:List (List DC)}(fq:aR K a5)(nN:K.length≤1000000000)(fi:aH fK K):Sound T 123 [.d a0,.agg [.d a1,.d a2],.d a3,.d a4,.d a5] fun r=>∃(y0:DC)(L:List (List DC))(y2:DC)(M:List (List DC)),r= .agg [.d y0,.d y2]∧aR L y0∧(L.length:Int)≤p.length∧aH cl L∧aR M y2∧(M.length:Int)≤3*p.length∧aH jv M:=by
 refine ch F.q123 aa ?_
 obtain⟨aB,rfl,eS,eT⟩:=Ty.az da
 obtain⟨bk,rfl,pA,pB⟩:=Ty.az dE
 obtain⟨bc,rfl,sh,si⟩:=Ty.az dg
 refine aj (af 2 aa (aj (ak 5 aa (ai (aY aa (aV aa) (ZW F Y ae Z ah ah eC ae ef ah bQ fq ae fi) (fun r1 _ dh=>?_))))))
 obtain⟨dV,O,wE,U,rfl,z,rn,A,G,I5,I⟩:=dh
 exact af 1 aa (ay (aE aa aa ⟨dV,O,wE,U,aa,z,ae,A,G,ae,I⟩))
theorem findF{T:bC}(F:FT T){M:DC}{z:List (List DC)}(G:aR z M)(ed:z.length≤1000000000)(K:aH gf z){aB:Int}(nd: -9223372036854775808≤aB)(mB:aB≤9223372036854775807):Sound T 160 [.d M,.d (dJ aB)] fun r=>∃(L:Int),r= .d (dJ L)∧((-1)≤L∧L≤(z.length:Int) -1∧((0≤L→sc aB z)∧(L<0→jD z.length aB z))):=by
 refine ch F.q160 aa (aj (af 1 aa (aA (aj (ak 1 aa (ai (bu aa G ?_)))))))
 refine af 1 aa (bj ?_)
 refine cb (fun k VE B=>∃(p:Int),(0≤p∧(p≤(z.length:Int)∨p=0))∧(jD p aB z)∧k=((z.length:Int) -p).toNat∧aT [(0,.d M),(1,.d (dJ aB)),(4,.d i0),(7,.d M),(8,.d (dJ (z.length:Int))),(9,.d (dJ p))] VE∧aT [] B) ?_ (k:=((z.length:Int) -0).toNat) ⟨0,ae,(by first|assumption|exact Pm|exact jD.Pn (by assumption) ae (by assumption) rfl ae|exact jD.Po (by assumption) ae (by assumption) rfl ae),rfl,⟨rfl,rfl,rfl,rfl,rfl,rfl,trivial⟩,trivial⟩
 rintro _ VE B⟨p,c9,fr,rfl,hV,hB⟩
 refine bz _ _ hV hB (aj (af 1 aa (aA (aN aa (fun h1 g1=>?_) (fun h1 g1=>?_)))))
 ·refine aG (aA (bj (aj (ak 1 aa ?_))))
  obtain⟨r2,dj,dA⟩:=bR p K
  obtain⟨fR,fh,gn,lu,oE,se,rfl,I,ij,iP,gC,kr,J⟩:=fe dA
  refine ai (bo aa aa G ae dj aa ?_)
  refine af 4 aa (aj ?_)
  obtain⟨qm,rfl,O,U⟩:=Ty.az I
  refine ak 5 aa (bZ (g:=rV) aa (fun A g3=>?_) (fun A g3=>?_))
  ·refine aq aa A (bL aa ?_)
   refine aq aa A (bL aa ?_)
   refine aq aa A (bJ aa aa aa ?_)
   obtain⟨Pr,rfl,Y,Z⟩:=Ty.az J
   refine aq aa A (en aa aa ?_)
   refine ai (aW aa A aa ?_)
   refine bn (aN aa (fun h4 g4=>?_) (fun h4 g4=>?_))
   ·refine aj (af 2 aa (ay ?_))
    exact aE rfl rfl ⟨p,rfl,⟨ae,ae,(by first|exact⟨fun _=>sc.mk (by assumption) rfl rfl ae ae,fun h=>absurd h ax⟩|exact⟨fun h=>absurd h aD,fun _=>jD.all (by assumption) ae⟩)⟩⟩
   refine aG (aS (ai (br aa aa ae ae ?_)))
   refine af 1 aa ?_
   exact⟨((z.length:Int) -((p+1))).toNat,ae,(p+1),ae,(by first|assumption|exact Pm|exact jD.Pn (by assumption) ae (by assumption) rfl ae|exact jD.Po (by assumption) ae (by assumption) rfl ae),rfl,⟨rfl,rfl,rfl,rfl,rfl,rfl,trivial⟩,trivial⟩
  refine an aa A (an aa A (an aa A (an aa A (ai (bd aa A aa ?_)))))
  refine bn (cH aa aa (aG (aS (ai (br aa aa ae ae ?_)))))
  refine af 1 aa ?_
  exact⟨((z.length:Int) -((p+1))).toNat,ae,(p+1),ae,(by first|assumption|exact Pm|exact jD.Pn (by assumption) ae (by assumption) rfl ae|exact jD.Po (by assumption) ae (by assumption) rfl ae),rfl,⟨rfl,rfl,rfl,rfl,rfl,rfl,trivial⟩,trivial⟩
 refine bV (aj (af 1 aa (ay ?_)))
 exact aE rfl rfl ⟨(-1),rfl,⟨ae,ae,(by first|exact⟨fun _=>sc.mk (by assumption) rfl rfl ae ae,fun h=>absurd h ax⟩|exact⟨fun h=>absurd h aD,fun _=>jD.all (by assumption) ae⟩)⟩⟩
theorem D4{T:bC}(F:FT T){a0 a1 a2 a3 a4:DC}{K:List (List DC)}(dW:aR K a0)(ed:K.length≤1000000)(cW:aH gf K){M:List (List DC)}(eI:aR M a1)(fS:M.length≤1000000)(du:aH cl M){cu:List (List DC)}(cO:aR cu a2)(et:cu.length≤3000000)(cK:aH jv cu)(dk:tJ.ok a3)(dg:tJ.ok a4):Sound T 124 [.d a0,.agg [.d a1,.d a2],.d a3,.d a4] fun r=>∃(y0:DC)(cQ:List (List DC))(y2:DC),r= .tuple [.d y0,.d y2]∧aR cQ y0∧(cQ.length:Int)≤(K.length:Int)+cu.length∧aH gf cQ∧tJ.ok y2:=by
 refine ch F.q124 aa ?_
 obtain⟨aO,rfl,lM,lN⟩:=Ty.az dk
 obtain⟨bc,rfl,sh,si⟩:=Ty.az dg
 refine aj (af 3 aa (aA (aj (ak 3 aa (bZ (g:=qz) aa (fun h1 g1=>?_) (fun h1 g1=>?_))))))
 ·refine an aa h1 (an aa h1 (ai (aW aa h1 aa ?_)))
  refine ak 1 aa (an aa aa (an aa aa (ai (aW aa aa aa ?_))))
  refine ak 1 aa (an aa aa (an aa aa (ai (aW aa aa aa ?_))))
  exact bn (cg aa aa (aj (af 2 aa (ay (aE aa aa ⟨.nil,[],(dJ 1),aa,(.inr ⟨aa,aa⟩),ae,bN,ah⟩)))))
 refine aq aa h1 (bf aa ?_)
 refine aq aa h1 (jr aa aa ?_)
 refine ai (bd aa h1 aa ?_)
 refine ak 1 aa (bZ (g:=vY) aa (fun h2 g2=>?_) (fun h2 g2=>?_))
 ·refine an aa h2 (an aa h2 (ai (aW aa h2 aa ?_)))
  refine ak 1 aa (an aa aa (an aa aa (ai (aW aa aa aa ?_))))
  exact bn (cg aa aa (aj (af 2 aa (ay (aE aa aa ⟨.nil,[],(dJ 1),aa,(.inr ⟨aa,aa⟩),ae,bN,ah⟩)))))
 refine aq aa h2 (bf aa ?_)
 refine aq aa h2 (eH aa aa ?_)
 refine ai (bd aa h2 aa ?_)
 refine ak 1 aa (bZ (g:=ox) aa (fun h3 g3=>?_) (fun h3 g3=>?_))
 ·refine an aa h3 (an aa h3 (ai (aW aa h3 aa ?_)))
  exact bn (cg aa aa (aj (af 2 aa (ay (aE aa aa ⟨.nil,[],(dJ 1),aa,(.inr ⟨aa,aa⟩),ae,bN,ah⟩)))))
 refine aq aa h3 (bf aa ?_)
 refine aq aa h3 (je aa aa ?_)
 refine ai (bd aa h3 aa ?_)
 refine bn (aN aa (fun h4 g4=>?_) (fun h4 g4=>?_))
 ·exact aj (af 2 aa (ay (aE aa aa ⟨.nil,[],(dJ 1),aa,(.inr ⟨aa,aa⟩),ae,bN,ah⟩)))
 refine aG (aA (aj (ak 1 aa (ai (bu aa dW ?_)))))
 refine af 1 aa (bj (cb (fun k VE B=>∃(p:Int),(0≤p∧(p≤(K.length:Int)∨p=0))∧k=((K.length:Int) -p).toNat∧aT [(0,.d a0),(1,.agg [.d a1,.d a2]),(2,.d (dJ aO)),(3,.d (dJ bc)),(5,.vp 5 0),(8,dN),(9,.d i0),(37,dB (decide (1099511627776<bc))),(38,.d a0),(39,.d (dJ (K.length:Int))),(40,.d (dJ p))] VE∧aT [(5,.one 198 48 [.d a1,.d a2])] B) ?_ (k:=((K.length:Int) -0).toNat) ⟨0,ae,aa,⟨aa,aa,aa,aa,aa,aa,aa,aa,aa,aa,aa,trivial⟩,⟨aa,trivial⟩⟩))
 rintro _ VE B⟨p,c9,rfl,hV,hB⟩
 refine bz _ _ hV hB (aj (af 1 aa (aA (aN aa (fun h5 g5=>?_) (fun h5 g5=>?_)))))
 ·refine aG (aA (bj (aj (ak 1 aa ?_))))
  obtain⟨r6,gO,gP⟩:=bR p cW
  obtain⟨tP,zk,Ci,x6_3,x6_4,x6_5,rfl,mg,yg,qn,hx6_3,hx6_4,hx6_5⟩:=fe gP
  refine ai (bo aa aa dW ae gO aa ?_)
  refine af 4 aa (aA (aj ?_))
  obtain⟨yo,rfl,IN,IP⟩:=Ty.az mg
  refine af 4 aa (aN aa (fun h7 g7=>?_) (fun h7 g7=>?_))
  ·exact aj (af 2 aa (ay (aE aa aa ⟨.nil,[],(dJ 1),aa,(.inr ⟨aa,aa⟩),ae,bN,ah⟩)))
  refine aG (aj (af 1 aa (bj (cb (fun k VE B=>∃(U:Int),(0≤U∧(U≤p∨U=0))∧k=((p:Int) -U).toNat∧aT [(0,.d a0),(1,.agg [.d a1,.d a2]),(2,.d (dJ aO)),(3,.d (dJ bc)),(5,.vp 5 0),(8,dN),(9,.d i0),(10,.d (dJ p)),(11,.vp 11 0),(12,.d (dJ U)),(37,dB (decide (1099511627776<bc))),(38,.d a0),(39,.d (dJ (K.length:Int))),(40,.d (dJ p)),(41,dB (decide (p<(K.length:Int)))),(48,dB (decide (bc≤yo)))] VE∧aT [(5,.one 198 48 [.d a1,.d a2]),(11,.one 48 64 [.d (dJ yo),.d zk,.d Ci,.d x6_3,.d x6_4,.d x6_5])] B) ?_ (k:=((p:Int) -0).toNat) ⟨0,ae,aa,⟨aa,aa,aa,aa,aa,aa,aa,aa,aa,aa,aa,aa,aa,aa,aa,aa,trivial⟩,⟨aa,aa,trivial⟩⟩))))
  rintro _ VE B⟨U,jj,rfl,hV,hB⟩
  refine bz _ _ hV hB (aA (aj (af 3 aa (aN aa (fun h8 g8=>?_) (fun h8 g8=>?_)))))
  ·refine aG (aA (bj (cN (aP 2 aa ?_))))
   obtain⟨r9,iI,lX⟩:=bR U cW
   obtain⟨tS,wt,zm,Ry,Rz,RA,rfl,nH,ou,qo,JR,JS,JT⟩:=fe lX
   refine aU (bo aa aa dW ae iI aa ?_)
   refine aP 1 aa (de aa aa (cF aa aa ?_))
   obtain⟨EH,rfl,Ng,Nh⟩:=Ty.az nH
   refine cP 3 aa (aN aa (fun gx fV=>?_) (fun gx fV=>?_))
   ·exact aj (af 2 aa (ay (aE aa aa ⟨.nil,[],(dJ 1),aa,(.inr ⟨aa,aa⟩),ae,bN,ah⟩)))
   refine aG (aS (ak 1 aa (ai (br aa aa ae ae ?_))))
   exact af 1 aa (⟨((p:Int) -((U+1))).toNat,ae,(U+1),ae,aa,⟨aa,aa,aa,aa,aa,aa,aa,aa,aa,aa,aa,aa,aa,aa,aa,aa,trivial⟩,⟨aa,aa,trivial⟩⟩)
  refine bV (aS (ai (br aa aa ae ae ?_)))
  exact af 1 aa (⟨((K.length:Int) -((p+1))).toNat,ae,(p+1),ae,aa,⟨aa,aa,aa,aa,aa,aa,aa,aa,aa,aa,aa,trivial⟩,⟨aa,trivial⟩⟩)
 refine bV (aA (aj (ak 2 aa (ai (bu aa eI ?_)))))
 refine af 1 aa (bj ?_)
 refine cb (fun k VE B=>∃(G:Int),(0≤G∧(G≤(M.length:Int)∨G=0))∧(sd G K M)∧k=((M.length:Int) -G).toNat∧aT [(0,.d a0),(1,.agg [.d a1,.d a2]),(2,.d (dJ aO)),(3,.d (dJ bc)),(5,.vp 5 0),(8,dN),(9,.d i0),(37,dB (decide (1099511627776<bc))),(38,.d a0),(39,.d (dJ (K.length:Int))),(40,.d (dJ p)),(41,dB (decide (p<(K.length:Int)))),(64,.d a1),(65,.d (dJ (M.length:Int))),(66,.d (dJ G))] VE∧aT [(5,.one 198 48 [.d a1,.d a2])] B) ?_ (k:=((M.length:Int) -0).toNat) ⟨0,ae,(by first|assumption|exact Xb|exact sd.step (by assumption) ae (by assumption) rfl (kv ae)),rfl,⟨rfl,rfl,rfl,rfl,rfl,rfl,rfl,rfl,rfl,rfl,rfl,rfl,rfl,rfl,rfl,trivial⟩,⟨rfl,trivial⟩⟩
 rintro _ VE B⟨G,wq,aa6,rfl,hV,hB⟩
 refine bz _ _ hV hB (aj (af 1 aa (aA (aN aa (fun ir fT=>?_) (fun ir fT=>?_)))))
 ·refine aG (aA (bj (aj (ak 1 aa ?_))))
  obtain⟨nW,nR,jy⟩:=bR G du
  obtain⟨rL,_,rfl,qd,jy⟩:=b0 jy
  obtain rfl:=dy jy
  refine ai (bo aa aa eI ae nR aa ?_)
  refine af 3 aa (aj (ak 2 aa ?_))
  obtain⟨Ob,rfl,hzx12_0,kzx12_0⟩:=Ty.az qd
  refine ai (aY aa (aV aa) (findF (aB:=Ob) F dW ae cW ae ae) (fun qQ _ oF=>?_))
  obtain⟨rM,rfl,⟨ly13_0,uy13_0,D2⟩⟩:=oF
  have kv:=D2.1
  refine ak 2 aa (bZ (g:=lp) aa (fun fw kG=>?_) (fun fw kG=>?_))
  ·refine an aa fw (an aa fw (an aa fw (an aa fw (an aa fw (an aa fw (ai (aW aa fw aa ?_)))))))
   exact bn (cg aa aa (aj (af 2 aa (ay (aE aa aa ⟨.nil,[],(dJ 11),aa,(.inr ⟨aa,aa⟩),ae,bN,ah⟩)))))
  refine aq aa fw (bL aa ?_)
  refine aq aa fw (bJ aa aa aa ?_)
  refine aq aa fw (bf aa ?_)
  obtain⟨So,F2,zq⟩:=cE (z:=G) (n:=M.length+1) ae ae
  refine aq rfl fw (fI (l:=0) (h:=So) rfl eI du rfl (vC ae) ⟨_,(by rw[←F2];rfl)⟩ rfl ae ae (fun d16 CM hd16 abK zt=>?_))
  refine aq aa fw (bf aa ?_)
  refine aq aa fw (aY aa (aV aa) (UD F hd16 ae zt ah) (fun CN _ zl=>?_))
  obtain⟨ZJ,rfl,Of⟩:=zl
  refine ai (bd aa fw aa ?_)
  refine bn ?_
  obtain⟨by17_0,rfl⟩:=Ty.bQ Of
  refine db aa (fun eO=>?_) (fun eO=>?_)
  ·exact aj (af 2 aa (ay (aE aa aa ⟨.nil,[],(dJ 11),aa,(.inr ⟨aa,aa⟩),ae,bN,ah⟩)))
  refine aG (aS (ai (br aa aa ae ae ?_)))
  refine af 1 aa ?_
  exact⟨((M.length:Int) -((G+1))).toNat,ae,(G+1),ae,(by first|assumption|exact Xb|exact sd.step (by assumption) ae (by assumption) rfl (kv ae)),rfl,⟨rfl,rfl,rfl,rfl,rfl,rfl,rfl,rfl,rfl,rfl,rfl,rfl,rfl,rfl,rfl,trivial⟩,⟨rfl,trivial⟩⟩
 refine bV (aA (aj (ak 2 aa (ai (bu aa eI ?_)))))
 refine af 1 aa (bj (cb (fun k VE B=>∃(L:Int),(0≤L∧(L≤(M.length:Int)∨L=0))∧k=((M.length:Int) -L).toNat∧aT [(0,.d a0),(1,.agg [.d a1,.d a2]),(2,.d (dJ aO)),(3,.d (dJ bc)),(5,.vp 5 0),(8,dN),(9,.d i0),(37,dB (decide (1099511627776<bc))),(38,.d a0),(39,.d (dJ (K.length:Int))),(40,.d (dJ p)),(41,dB (decide (p<(K.length:Int)))),(64,.d a1),(65,.d (dJ (M.length:Int))),(66,.d (dJ G)),(67,dB (decide (G<(M.length:Int)))),(85,.d a1),(86,.d (dJ (M.length:Int))),(87,.d (dJ L))] VE∧aT [(5,.one 198 48 [.d a1,.d a2])] B) ?_ (k:=((M.length:Int) -0).toNat) ⟨0,ae,aa,⟨aa,aa,aa,aa,aa,aa,aa,aa,aa,aa,aa,aa,aa,aa,aa,aa,aa,aa,aa,trivial⟩,⟨aa,trivial⟩⟩))
 rintro _ VE B⟨L,aby,rfl,hV,hB⟩
 refine bz _ _ hV hB (aj (af 1 aa (aA (aN aa (fun uA uC=>?_) (fun uA uC=>?_)))))
 ·refine aG (aA (bj (aj ?_)))
  obtain⟨CQ,wA,nQ⟩:=bR L du
  obtain⟨PF,_,rfl,DS,nQ⟩:=b0 nQ
  obtain rfl:=dy nQ
  refine ai (bo aa aa eI ae wA aa ?_)
  refine af 2 aa (aj (ak 4 aa ?_))
  obtain⟨Oo,rfl,hzx20_0,kzx20_0⟩:=Ty.az DS
  refine ai (aY aa (aV aa) (findF (aB:=Oo) F dW ae cW ae ae) (fun CR _ F8=>?_))
  obtain⟨JI,rfl,⟨ly21_0,uy21_0,NT⟩⟩:=F8
  have kb:=find_ge NT (sd.get (k:=G) lr ae wA rfl)
  obtain⟨CT,KF,Cr⟩:=bR JI cW
  obtain⟨JK,JL,x22_2,x22_3,x22_4,x22_5,rfl,N9,XJ,hx22_2,hx22_3,hx22_4,hx22_5⟩:=fe Cr
  refine ai (bo aa aa dW ae KF aa ?_)
  obtain⟨zx22_4,rfl,hzx22_4,kzx22_4⟩:=Ty.az hx22_4
  refine af 4 aa (aN aa (fun fU qU=>?_) (fun fU qU=>?_))
  ·exact aj (af 2 aa (ay (aE aa aa ⟨.nil,[],(dJ 10),aa,(.inr ⟨aa,aa⟩),ae,bN,ah⟩)))
  refine aG (aS (ai (br aa aa ae ae ?_)))
  exact af 1 aa (⟨((M.length:Int) -((L+1))).toNat,ae,(L+1),ae,aa,⟨aa,aa,aa,aa,aa,aa,aa,aa,aa,aa,aa,aa,aa,aa,aa,aa,aa,aa,aa,trivial⟩,⟨aa,trivial⟩⟩)
 refine bV (aA (aj (ak 2 aa (ai (bu aa cO ?_)))))
 refine af 1 aa (bj (cb (fun k VE B=>∃(I:Int),(0≤I∧(I≤(cu.length:Int)∨I=0))∧k=((cu.length:Int) -I).toNat∧aT [(0,.d a0),(1,.agg [.d a1,.d a2]),(2,.d (dJ aO)),(3,.d (dJ bc)),(5,.vp 5 0),(8,dN),(9,.d i0),(37,dB (decide (1099511627776<bc))),(38,.d a0),(39,.d (dJ (K.length:Int))),(40,.d (dJ p)),(41,dB (decide (p<(K.length:Int)))),(64,.d a1),(65,.d (dJ (M.length:Int))),(66,.d (dJ G)),(67,dB (decide (G<(M.length:Int)))),(85,.d a1),(86,.d (dJ (M.length:Int))),(87,.d (dJ L)),(88,dB (decide (L<(M.length:Int)))),(103,.d a2),(104,.d (dJ (cu.length:Int))),(105,.d (dJ I))] VE∧aT [(5,.one 198 48 [.d a1,.d a2])] B) ?_ (k:=((cu.length:Int) -0).toNat) ⟨0,ae,aa,⟨aa,aa,aa,aa,aa,aa,aa,aa,aa,aa,aa,aa,aa,aa,aa,aa,aa,aa,aa,aa,aa,aa,aa,trivial⟩,⟨aa,trivial⟩⟩))
 rintro _ VE B⟨I,abA,rfl,hV,hB⟩
 refine bz _ _ hV hB (aj (af 1 aa (aA (aN aa (fun gy Am=>?_) (fun gy Am=>?_)))))
 ·refine aG (aA (bj (aj ?_)))
  obtain⟨r25,Gd,Cu⟩:=bR I cK
  obtain⟨JM,JN,x25_2,x25_3,rfl,XK,N',hx25_2,hx25_3⟩:=vg Cu
  refine ai (bo aa aa cO ae Gd aa ?_)
  refine af 3 aa (aj (ak 2 aa (ai (aY aa (aV aa) (II F N' hx25_2) (fun GP _ tV=>?_)))))
  obtain⟨BG,rfl,sZ⟩:=tV
  obtain⟨XG,rfl⟩:=Ty.bQ sZ
  refine af 1 aa (db aa (fun nk=>?_) (fun nk=>?_))
  ·exact aj (af 2 aa (ay (aE aa aa ⟨.nil,[],(dJ 10),aa,(.inr ⟨aa,aa⟩),ae,bN,ah⟩)))
  refine aG (aS (ai (br aa aa ae ae ?_)))
  exact af 1 aa (⟨((cu.length:Int) -((I+1))).toNat,ae,(I+1),ae,aa,⟨aa,aa,aa,aa,aa,aa,aa,aa,aa,aa,aa,aa,aa,aa,aa,aa,aa,aa,aa,aa,aa,aa,aa,trivial⟩,⟨aa,trivial⟩⟩)
 refine bV (aj (af 1 aa (aA (aj (ak 1 aa (ai (bu aa dW ?_)))))))
 refine af 1 aa (bj (ki 19 90 48 64 6 aa aa (cb (fun k VE B=>∃(A:Int)(O:List (List DC)),(0≤A∧(A≤(K.length:Int)∨A=0))∧((O.length:Int)≤A)∧(aH gf O)∧k=((K.length:Int) -A).toNat∧aT [(0,.d a0),(1,.agg [.d a1,.d a2]),(2,.d (dJ aO)),(3,.d (dJ bc)),(5,.vp 5 0),(8,dN),(9,.d i0),(19,.ac 90 O.length 6),(37,dB (decide (1099511627776<bc))),(38,.d a0),(39,.d (dJ (K.length:Int))),(40,.d (dJ p)),(41,dB (decide (p<(K.length:Int)))),(64,.d a1),(65,.d (dJ (M.length:Int))),(66,.d (dJ G)),(67,dB (decide (G<(M.length:Int)))),(85,.d a1),(86,.d (dJ (M.length:Int))),(87,.d (dJ L)),(88,dB (decide (L<(M.length:Int)))),(103,.d a2),(104,.d (dJ (cu.length:Int))),(105,.d (dJ I)),(106,dB (decide (I<(cu.length:Int)))),(114,.d a0),(115,.d (dJ (K.length:Int))),(116,.d (dJ A))] VE∧aT [(5,.one 198 48 [.d a1,.d a2]),(90,.acc 48 64 6 O)] B) ?_ (k:=((K.length:Int) -0).toNat) ⟨0,[],ae,cn,bN,aa,⟨aa,aa,aa,aa,aa,aa,aa,aa,aa,aa,aa,aa,aa,aa,aa,aa,aa,aa,aa,aa,aa,aa,aa,aa,aa,aa,aa,aa,trivial⟩,⟨aa,aa,trivial⟩⟩)))
 rintro _ VE B⟨A,O,f5_0,f5_1,H9,rfl,hV,hB⟩
 refine bz _ _ hV hB (aj (af 1 aa (aA (aN aa (fun G7 G8=>?_) (fun G7 G8=>?_)))))
 ·refine aG (aA (bj (aj ?_)))
  obtain⟨G9,zQ,ud⟩:=bR A cW
  obtain⟨PZ,vM,x29_2,x29_3,x29_4,x29_5,rfl,vo,D5,I8,X2,X3,hx29_5⟩:=fe ud
  refine ai (bo aa aa dW ae zQ aa ?_)
  refine af 3 aa (aA (aj (ak 4 aa (ai (aY aa (aV aa) (UD F eI ae du vo) (fun wX _ oK=>?_))))))
  obtain⟨jT,rfl,mb⟩:=oK
  refine bn ?_
  obtain⟨XH,rfl⟩:=Ty.bQ mb
  refine db aa (fun gU=>?_) (fun gU=>?_)
  ·refine aA (aj ?_)
   obtain⟨Y,rfl,hzx29_4,kzx29_4⟩:=Ty.az X3
   refine af 5 aa (aN aa (fun h32 SW=>?_) (fun h32 SW=>?_))
   ·refine bV (aS (ai (br aa aa ae ae ?_)))
    exact af 1 aa (⟨((K.length:Int) -((A+1))).toNat,ae,(A+1),O,ae,ae,H9,aa,⟨aa,aa,aa,aa,aa,aa,aa,aa,aa,aa,aa,aa,aa,aa,aa,aa,aa,aa,aa,aa,aa,aa,aa,aa,aa,aa,aa,aa,trivial⟩,⟨aa,aa,trivial⟩⟩)
   refine aG (aS (af 4 aa (aS ?_)))
   obtain⟨Z,rfl,Wf,Wg⟩:=Ty.az vo
   obtain⟨X4,Dx,Wh,Dy⟩:=Ty.au D5
   obtain⟨xV,rfl,hzx29_2,kzx29_2⟩:=Ty.az I8
   obtain⟨xW,rfl,hzx29_3,kzx29_3⟩:=Ty.az X2
   refine ak 3 aa ?_
   refine ai (cr (rows:=O) (ys:=[[(dJ Z),vM,(dJ xV),(dJ xW),(dJ Y),(dJ aO)]]) rfl rfl rfl (.bs (rows:=[[(dJ Z),vM,(dJ xV),(dJ xW),(dJ Y),(dJ aO)]]) rfl) aD ae (fun h=>by rw[h];rfl) (fun h=>by rw[h];rfl) ?_)
   refine af 1 aa (aS (ai (br aa aa ae ae ?_)))
   exact af 1 aa (⟨((K.length:Int) -((A+1))).toNat,ae,(A+1),(O++[[(dJ Z),vM,(dJ xV),(dJ xW),(dJ Y),(dJ aO)]]),ae,cn,(bS H9 (bX (ao ah (ao (au Dx ae Dy) (ao ah (ao ah (ao ah (ao ah bm)))))))),aa,⟨aa,aa,aa,aa,aa,aa,aa,aa,aa,aa,aa,aa,aa,aa,aa,aa,aa,aa,aa,aa,aa,aa,aa,aa,aa,aa,aa,aa,trivial⟩,⟨aa,aa,trivial⟩⟩)
  refine aG (aS ?_)
  obtain⟨Z,rfl,Wf,Wg⟩:=Ty.az vo
  obtain⟨X4,Dx,Wh,Dy⟩:=Ty.au D5
  obtain⟨xV,rfl,hzx29_2,kzx29_2⟩:=Ty.az I8
  obtain⟨xW,rfl,hzx29_3,kzx29_3⟩:=Ty.az X2
  obtain⟨Y,rfl,hzx29_4,kzx29_4⟩:=Ty.az X3
  obtain⟨Oq,rfl,hzx29_5,kzx29_5⟩:=Ty.az hx29_5
  refine ak 3 aa ?_
  refine ai (cr (rows:=O) (ys:=[[(dJ Z),vM,(dJ xV),(dJ xW),(dJ Y),(dJ Oq)]]) rfl rfl rfl (.bs (rows:=[[(dJ Z),vM,(dJ xV),(dJ xW),(dJ Y),(dJ Oq)]]) rfl) aD ae (fun h=>by rw[h];rfl) (fun h=>by rw[h];rfl) ?_)
  refine af 1 aa (aS (ai (br aa aa ae ae ?_)))
  exact af 1 aa (⟨((K.length:Int) -((A+1))).toNat,ae,(A+1),(O++[[(dJ Z),vM,(dJ xV),(dJ xW),(dJ Y),(dJ Oq)]]),ae,cn,(bS H9 (bX (ao ah (ao (au Dx ae Dy) (ao ah (ao ah (ao ah (ao ah bm)))))))),aa,⟨aa,aa,aa,aa,aa,aa,aa,aa,aa,aa,aa,aa,aa,aa,aa,aa,aa,aa,aa,aa,aa,aa,aa,aa,aa,aa,aa,aa,trivial⟩,⟨aa,aa,trivial⟩⟩)
 refine bV (aA (aj (ak 2 aa (ai (bu aa cO ?_)))))
 refine af 1 aa (bj (cb (fun k VE B=>∃(J:Int)(tl:List (List DC)),(0≤J∧(J≤(cu.length:Int)∨J=0))∧((tl.length:Int)≤(K.length:Int)+J)∧(aH gf tl)∧k=((cu.length:Int) -J).toNat∧aT [(0,.d a0),(1,.agg [.d a1,.d a2]),(2,.d (dJ aO)),(3,.d (dJ bc)),(5,.vp 5 0),(8,dN),(9,.d i0),(19,.ac 90 tl.length 6),(37,dB (decide (1099511627776<bc))),(38,.d a0),(39,.d (dJ (K.length:Int))),(40,.d (dJ p)),(41,dB (decide (p<(K.length:Int)))),(64,.d a1),(65,.d (dJ (M.length:Int))),(66,.d (dJ G)),(67,dB (decide (G<(M.length:Int)))),(85,.d a1),(86,.d (dJ (M.length:Int))),(87,.d (dJ L)),(88,dB (decide (L<(M.length:Int)))),(103,.d a2),(104,.d (dJ (cu.length:Int))),(105,.d (dJ I)),(106,dB (decide (I<(cu.length:Int)))),(114,.d a0),(115,.d (dJ (K.length:Int))),(116,.d (dJ A)),(117,dB (decide (A<(K.length:Int)))),(139,.d a2),(140,.d (dJ (cu.length:Int))),(141,.d (dJ J))] VE∧aT [(5,.one 198 48 [.d a1,.d a2]),(90,.acc 48 64 6 tl)] B) ?_ (k:=((cu.length:Int) -0).toNat) ⟨0,O,ae,ae,H9,aa,⟨aa,aa,aa,aa,aa,aa,aa,aa,aa,aa,aa,aa,aa,aa,aa,aa,aa,aa,aa,aa,aa,aa,aa,aa,aa,aa,aa,aa,aa,aa,aa,aa,trivial⟩,⟨aa,aa,trivial⟩⟩))
 rintro _ VE B⟨J,tl,f6_0,f6_1,Wi,rfl,hV,hB⟩
 refine bz _ _ hV hB (aj (af 1 aa (aA (aN aa (fun q6 uJ=>?_) (fun q6 uJ=>?_)))))
 ·refine aG (aA (bj (aj (ak 1 aa ?_))))
  obtain⟨r34,hg34,hr34⟩:=bR J cK
  obtain⟨P0,x34_1,x34_2,x34_3,rfl,hx34_0,hx34_1,hx34_2,hx34_3⟩:=vg hr34
  refine ai (bo aa aa cO ae hg34 aa ?_)
  refine af 4 aa (aS (ak 3 aa (ai (br aa aa ae ae ?_))))
  obtain⟨wx34_0,hdx34_0,hnx34_0,hrx34_0⟩:=Ty.au hx34_0
  obtain⟨Ot,rfl,hzx34_1,kzx34_1⟩:=Ty.az hx34_1
  obtain⟨Ou,rfl,hzx34_2,kzx34_2⟩:=Ty.az hx34_2
  refine ak 8 aa ?_
  refine ai (cr (rows:=tl) (ys:=[[(dJ (bc+J)),P0,(dJ Ot),(dJ Ou),(dJ aO),(dJ 1099511627776)]]) rfl rfl rfl (.bs (rows:=[[(dJ (bc+J)),P0,(dJ Ot),(dJ Ou),(dJ aO),(dJ 1099511627776)]]) rfl) aD ae (fun h=>by rw[h];rfl) (fun h=>by rw[h];rfl) ?_)
  refine af 1 aa (aS (ai (br aa aa ae ae ?_)))
  exact af 1 aa (⟨((cu.length:Int) -((J+1))).toNat,ae,(J+1),(tl++[[(dJ (bc+J)),P0,(dJ Ot),(dJ Ou),(dJ aO),(dJ 1099511627776)]]),ae,cn,(bS Wi (bX (ao ah (ao (au hdx34_0 ae hrx34_0) (ao ah (ao ah (ao ah (ao ah bm)))))))),aa,⟨aa,aa,aa,aa,aa,aa,aa,aa,aa,aa,aa,aa,aa,aa,aa,aa,aa,aa,aa,aa,aa,aa,aa,aa,aa,aa,aa,aa,aa,aa,aa,aa,trivial⟩,⟨aa,aa,trivial⟩⟩)
 exact bV (aj (af 3 aa (fm 8 90 aa aa (fun _=>⟨aa,aa⟩) (ay (aE aa aa ⟨(.cS tl),tl,i0,aa,(.acc _),ae,Wi,ah⟩)))))
end Go.Ev.Rp
namespace Go.Ev.Rp
open Go Go.Ev.Pp
theorem runsC{T:bC}(F:FT T){a0:DC}{dP:List (List DC)}(dW:aR dP a0)(ed:dP.length≤1000000)(cW:aH pc dP):Sound T 217 [.d a0] fun r=>∃(y0:DC)(cQ:List (List DC)),r= .d y0∧aR cQ y0∧(cQ.length:Int)≤dP.length∧aH wm cQ∧0≤(cQ.length:Int)∧(cQ=[]→y0= .nil):=by
 refine ch F.q217 aa (aj (af 1 aa (aj (af 1 aa (aA (aj (ak 1 aa (ai (aY aa (aV aa) (sortC F dW ae cW) (fun r1 _ dh=>?_))))))))))
 obtain⟨dV,U,rfl,o7,rn,oi,vh,D3⟩:=dh
 refine ai (bu aa o7 ?_)
 refine af 1 aa (bj (ki 3 90 335 72 3 aa aa (ki 2 47 143 48 2 aa aa (vc_pin 47 aa (fun p2=>?_)))))
 refine cb (fun k VE B=>∃(G:Int)(p:List (List DC))(Y:Nat)(I:List (List DC)),(0≤G∧(G≤(U.length:Int)∨G=0))∧((p.length:Int)≤G)∧(aH wm p)∧((I.length:Int)≤G)∧(aH pc I)∧(p=[]∨(I≠[]∧sT p Y I.length))∧k=((U.length:Int) -G).toNat∧aT [(0,.d a0),(3,.ac 90 p.length 3),(8,.d dV),(9,.d (dJ (U.length:Int))),(10,.d (dJ G))] VE∧aT [(47,.ct Y (.acc 143 48 2 I)),(90,.acc 335 72 3 p)] B) ?_ (k:=((U.length:Int) -0).toNat) ⟨0,[],p2,[],ae,cn,bN,cn,bN,(by first|exact .inl rfl|exact .inr ⟨(by simp),sT.step (by assumption) (by assumption) (by assumption) (by first|omega|(simp;omega)) (by first|omega|(simp;omega))⟩),rfl,⟨rfl,rfl,rfl,rfl,rfl,trivial⟩,⟨rfl,rfl,trivial⟩⟩
 rintro _ VE B⟨G,p,Y,I,c9,fr,O,Cl,hrr47_0,QY,rfl,hV,hB⟩
 refine bz _ _ hV hB (aj (af 1 aa (aA (aN aa (fun h3 g3=>?_) (fun h3 g3=>?_)))))
 ·refine aG (aA (bj (aj ?_)))
  obtain⟨r4,eg,eZ⟩:=bR G oi
  obtain⟨A,Z,rfl,gB,jR⟩:=fc eZ
  refine ai (bo aa aa o7 ae eg aa ?_)
  refine af 3 aa (aj (ak 2 aa (ai (eb aa aa ae ae ?_))))
  refine af 1 aa (aA (cN (aP 3 aa (fA (g:=yQ) aa (fun h5 g5=>?_) (fun h5 g5=>?_)))))
  ·refine bh aa h5 (bh aa h5 (bh aa h5 (bh aa h5 (ca aa h5 (bh aa h5 (ca aa h5 (ca aa h5 (bh aa h5 (aU (aW aa h5 aa ?_))))))))))
   refine cU (cg aa aa (aj (Vw 47 ?_)))
   obtain⟨ZY,J,X5,K⟩:=Ty.au gB
   refine ak 5 aa (ai (cr (rows:=p) (ys:=[[A,.nil,.nil]]) aa aa aa (.bs (rows:=[[A,.nil,.nil]]) aa) aD ae dF dF ?_))
   refine af 1 aa (aS (ak 1 aa (ai (br aa aa ae ae ?_))))
   refine af 1 aa (cN (aP 4 aa ?_))
   obtain⟨j6,An,ej6⟩:∃j:Nat,(((p.length:Int) -1)+1)=(j:Int)∧j=p.length:=⟨_,ae,rfl⟩
   have gO:(p++[[A,.nil,.nil]])[j6]?=some [A,.nil,.nil]:=by rw[ej6];exact HH
   have sE:j6<(p++[[A,.nil,.nil]]).length:=by rw[ej6];simp
   refine aU (gk rfl (by rw[←An];rfl) sE ?_)
   refine aP 1 aa (bP aa (n6 (rows:=(p++[[A,.nil,.nil]])) aa aa gO aa ?_))
   obtain⟨Jw,L,IE,M⟩:=Ty.au jR
   refine aP 2 aa ?_
   skip
   refine bP aa (VI.fresh aa (iK (ys:=[[A,Z]]) 47 aa aa aa aa aa (.bs (rows:=[[A,Z]]) aa) aD ae ?_))
   obtain⟨j7,lD,ej7⟩:∃j:Nat,(((p.length:Int) -1)+1)=(j:Int)∧j=p.length:=⟨_,ae,rfl⟩
   have eY:(p++[[A,.nil,.nil]])[j7]?=some [A,.nil,.nil]:=by rw[ej7];exact HH
   have gu:j7<(p++[[A,.nil,.nil]]).length:=by rw[ej7];simp
   refine aU (gk rfl (by rw[←lD];rfl) gu ?_)
   refine DM 47 aa (fun p8=>?_)
   refine Ml 47 47 aa aa bx bx (aP 1 aa (oa aa (mC aa aa aa aa aa aa aD aD eY (fun w9 hw9 hl9=>?_))))
   have Ap:aH wm w9:=by rw[hw9];exact hZ (bS O (bX (ao (au J ae K) (ao jZ (ao bl bm))))) (ao (au J ae K) (ao jZ (ao bl bm)))
   rw[←hl9]
   refine cU (fB (aP 4 aa ?_))
   obtain⟨j10,F1,Cm⟩:=cE (z:=(((p.length:Int) -1)+1)) (n:=w9.length) ae ae
   obtain⟨mA,gL,gM⟩:=dX Cm Ap
   obtain⟨mh,oq,vE,rfl,ko,o6,oh⟩:=c4 gM
   refine aU (gk rfl (by rw[←F1];rfl) Cm ?_)
   refine aP 1 aa (bP aa (n6 (rows:=w9) aa aa gL aa ?_))
   refine aP 2 aa ?_
   obtain⟨wx10_2,Mv,hnx10_2,Mw⟩:=Ty.au oh
   refine bP aa (aY aa (aV aa) (vm F Mv ae Mw L ae M) (fun pN _ lO=>?_))
   obtain⟨pd,Xt,rfl,Dv,VU,nA,hmy11_0,hey11_0⟩:=lO
   obtain⟨j12,F5,Gp⟩:=cE (z:=(((p.length:Int) -1)+1)) (n:=w9.length) ae ae
   obtain⟨nW,nR,jy⟩:=dX Gp Ap
   obtain⟨rL,vJ,ZH,rfl,qd,xT,IT⟩:=c4 jy
   refine aU (gk rfl (by rw[←F5];rfl) Gp ?_)
   refine aP 1 aa (oa aa (mC aa aa aa aa aa aa aD aD nR (fun Lg hw13 hl13=>?_)))
   have zR:aH wm Lg:=by rw[hw13];exact hZ Ap (ao qd (ao jZ (ao (au Dv ae nA) bm)))
   rw[←hl13]
   refine cU (aS (ai (br aa aa ae ae ?_)))
   refine af 1 aa ?_
   exact⟨((U.length:Int) -((G+1))).toNat,ae,(G+1),Lg,p8,[[A,Z]],ae,ae,zR,cn,(bX (ao (au J ae K) (ao (au L ae M) bm))),(by first|exact .inl rfl|exact .inr ⟨(by simp),sT.step (by assumption) (by assumption) (by assumption) (by first|omega|(simp;omega)) (by first|omega|(simp;omega))⟩),rfl,⟨rfl,rfl,rfl,rfl,rfl,trivial⟩,⟨rfl,rfl,trivial⟩⟩
  refine bg aa h5 (bf aa ?_)
  refine bg aa h5 (bf aa ?_)
  obtain⟨SF,Ga,Co⟩:=cE (z:=((p.length:Int) -1)) (n:=p.length) ae ae
  obtain⟨sB,lv,lQ⟩:=dX Co O
  obtain⟨yl,ET,JG,rfl,o8,xU,A7⟩:=c4 lQ
  refine bg rfl h5 (gk rfl (by rw[←Ga];rfl) Co ?_)
  refine bg aa h5 (sN aa ?_)
  refine cw aa h5 aa (n6 (rows:=p) aa aa lv aa ?_)
  refine bg aa h5 (bL aa ?_)
  refine cw aa h5 aa (bJ aa aa aa ?_)
  refine cw aa h5 aa (aY aa (aV aa) (PC F o8 gB) (fun sw _ oM=>?_))
  obtain⟨vN,rfl,vq⟩:=oM
  obtain⟨I9,rfl,Wj,Wk⟩:=Ty.az vq
  refine bg aa h5 (eR aa aa ?_)
  refine aU (bd aa h5 aa ?_)
  refine cU (aN aa (fun eE jE=>?_) (fun eE jE=>?_))
  ·refine aj (Vw 47 ?_)
   obtain⟨ZY,J,X5,K⟩:=Ty.au gB
   refine ak 5 aa (ai (cr (rows:=p) (ys:=[[A,.nil,.nil]]) aa aa aa (.bs (rows:=[[A,.nil,.nil]]) aa) aD ae dF dF ?_))
   refine af 1 aa (aS (ak 1 aa (ai (br aa aa ae ae ?_))))
   refine af 1 aa (cN (aP 4 aa ?_))
   obtain⟨SV,RG,abO⟩:∃j:Nat,(((p.length:Int) -1)+1)=(j:Int)∧j=p.length:=⟨_,ae,rfl⟩
   have wD:(p++[[A,.nil,.nil]])[SV]?=some [A,.nil,.nil]:=by rw[abO];exact HH
   have KI:SV<(p++[[A,.nil,.nil]]).length:=by rw[abO];simp
   refine aU (gk rfl (by rw[←RG];rfl) KI ?_)
   refine aP 1 aa (bP aa (n6 (rows:=(p++[[A,.nil,.nil]])) aa aa wD aa ?_))
   obtain⟨Jw,L,IE,M⟩:=Ty.au jR
   refine aP 2 aa ?_
   skip
   refine bP aa (VI.fresh aa (iK (ys:=[[A,Z]]) 47 aa aa aa aa aa (.bs (rows:=[[A,Z]]) aa) aD ae ?_))
   obtain⟨Ai,zu,abP⟩:∃j:Nat,(((p.length:Int) -1)+1)=(j:Int)∧j=p.length:=⟨_,ae,rfl⟩
   have qI:(p++[[A,.nil,.nil]])[Ai]?=some [A,.nil,.nil]:=by rw[abP];exact HH
   have zw:Ai<(p++[[A,.nil,.nil]]).length:=by rw[abP];simp
   refine aU (gk rfl (by rw[←zu];rfl) zw ?_)
   refine DM 47 aa (fun p19=>?_)
   refine Ml 47 47 aa aa bx bx (aP 1 aa (oa aa (mC aa aa aa aa aa aa aD aD qI (fun lE Gg Cq=>?_))))
   have ub:aH wm lE:=by rw[Gg];exact hZ (bS O (bX (ao (au J ae K) (ao jZ (ao bl bm))))) (ao (au J ae K) (ao jZ (ao bl bm)))
   rw[←Cq]
   refine cU (fB (aP 4 aa ?_))
   obtain⟨Sp,F3,zy⟩:=cE (z:=(((p.length:Int) -1)+1)) (n:=lE.length) ae ae
   obtain⟨CR,wB,pE⟩:=dX zy ub
   obtain⟨BF,ER,x21_2,rfl,xQ,NJ,hx21_2⟩:=c4 pE
   refine aU (gk rfl (by rw[←F3];rfl) zy ?_)
   refine aP 1 aa (bP aa (n6 (rows:=lE) aa aa wB aa ?_))
   refine aP 2 aa ?_
   obtain⟨wx21_2,hdx21_2,hnx21_2,hrx21_2⟩:=Ty.au hx21_2
   refine bP aa (aY aa (aV aa) (vm F hdx21_2 ae hrx21_2 L ae M) (fun CT _ tY=>?_))
   obtain⟨JP,wy22_0,rfl,Mx,hny22_0,My,hmy22_0,hey22_0⟩:=tY
   obtain⟨j23,hj23,abQ⟩:=cE (z:=(((p.length:Int) -1)+1)) (n:=lE.length) ae ae
   obtain⟨CS,Rr,Gc⟩:=dX abQ ub
   obtain⟨x23_0,x23_1,x23_2,rfl,N7,hx23_1,hx23_2⟩:=c4 Gc
   refine aU (gk rfl (by rw[←hj23];rfl) abQ ?_)
   refine aP 1 aa (oa aa (mC aa aa aa aa aa aa aD aD Rr (fun w24 hw24 hl24=>?_)))
   have hb24:aH wm w24:=by rw[hw24];exact hZ ub (ao N7 (ao jZ (ao (au Mx ae My) bm)))
   rw[←hl24]
   refine cU (aS (ai (br aa aa ae ae ?_)))
   refine af 1 aa ?_
   exact⟨((U.length:Int) -((G+1))).toNat,ae,(G+1),w24,p19,[[A,Z]],ae,ae,hb24,cn,(bX (ao (au J ae K) (ao (au L ae M) bm))),(by first|exact .inl rfl|exact .inr ⟨(by simp),sT.step (by assumption) (by assumption) (by assumption) (by first|omega|(simp;omega)) (by first|omega|(simp;omega))⟩),rfl,⟨rfl,rfl,rfl,rfl,rfl,trivial⟩,⟨rfl,rfl,trivial⟩⟩
  refine aG (cN (aP 4 aa ?_))
  obtain⟨ZZ,v25,l25,abR⟩:=Or.resolve_left (by assumption:p=[]∨(I≠[]∧sT p Y I.length)) (fun h=>absurd (congrArg List.length h) (by simp only[nK];exact ae))
  have hk25:=aaY (nu O abR)
  obtain⟨Lc,Rt,ej25⟩:∃j:Nat,((p.length:Int) -1)=(j:Int)∧j=p.length-1:=⟨_,ax,rfl⟩
  have Gd:p[Lc]?=some [v25,.raw Y I.length 2,l25]:=by rw[ej25];exact abR
  have abl:Lc<p.length:=by omega
  refine aU (gk rfl (by rw[←Rt];rfl) abl ?_)
  refine aP 1 aa (bP aa (n6 (rows:=p) aa aa Gd aa ?_))
  obtain⟨ZY,J,X5,K⟩:=Ty.au gB
  obtain⟨Jw,L,IE,M⟩:=Ty.au jR
  refine aP 2 aa (vq_unrawA 44 47 aa aa (List.length_pos_iff.2 ZZ) ZZ (vq_unpin 47 aa (bP aa (cr (rows:=I) (ys:=[[A,Z]]) aa aa aa (.bs (rows:=[[A,Z]]) aa) aD ae dF dF ?_))))
  obtain⟨hrs26,v26,l26,abS⟩:=Or.resolve_left (by assumption:p=[]∨(I≠[]∧sT p Y I.length)) (fun h=>absurd (congrArg List.length h) (by simp only[nK];exact ae))
  have abT:=aaY (nu O abS)
  obtain⟨Lf,RF,ej26⟩:∃j:Nat,((p.length:Int) -1)=(j:Int)∧j=p.length-1:=⟨_,ax,rfl⟩
  have KJ:p[Lf]?=some [v26,.raw Y I.length 2,l26]:=by rw[ej26];exact abS
  have abJ:Lf<p.length:=by omega
  refine aU (gk rfl (by rw[←RF];rfl) abJ ?_)
  refine DM 47 aa (fun p27=>?_)
  refine Ml 47 47 aa aa bx bx (aP 1 aa (oa aa (mC aa aa aa aa aa aa aD aD KJ (fun sG hw28 abm=>?_))))
  have Gs:aH wm sG:=by rw[hw28];exact hZ O (ao abT.1 (ao jZ (ao abT.2.2 bm)))
  rw[←abm]
  refine cU (fB (aP 4 aa ?_))
  obtain⟨j29,hj29,abU⟩:=cE (z:=((sG.length:Int) -1)) (n:=sG.length) ae ae
  obtain⟨G9,zQ,ud⟩:=dX abU Gs
  obtain⟨PZ,vM,x29_2,rfl,vo,D5,I8⟩:=c4 ud
  refine aU (gk rfl (by rw[←hj29];rfl) abU ?_)
  refine aP 1 aa (bP aa (n6 (rows:=sG) aa aa zQ aa ?_))
  refine aP 2 aa ?_
  obtain⟨wx29_2,hdx29_2,hnx29_2,hrx29_2⟩:=Ty.au I8
  refine bP aa (aY aa (aV aa) (vm F hdx29_2 ae hrx29_2 L ae M) (fun wX _ oK=>?_))
  obtain⟨jT,wy30_0,rfl,Mz,hny30_0,MA,hmy30_0,hey30_0⟩:=oK
  obtain⟨j31,hj31,abV⟩:=cE (z:=((sG.length:Int) -1)) (n:=sG.length) ae ae
  obtain⟨La,hg31,hr31⟩:=dX abV Gs
  obtain⟨x31_0,x31_1,x31_2,rfl,hx31_0,hx31_1,hx31_2⟩:=c4 hr31
  refine aU (gk rfl (by rw[←hj31];rfl) abV ?_)
  refine aP 1 aa (oa aa (mC aa aa aa aa aa aa aD aD hg31 (fun w32 hw32 hl32=>?_)))
  have hb32:aH wm w32:=by rw[hw32];exact hZ Gs (ao hx31_0 (ao jZ (ao (au Mz ae MA) bm)))
  rw[←hl32]
  refine cU (aS (ai (br aa aa ae ae ?_)))
  refine af 1 aa ?_
  exact⟨((U.length:Int) -((G+1))).toNat,ae,(G+1),w32,p27,(I++[[A,Z]]),ae,ae,hb32,cn,(bS hrr47_0 (bX (ao (au J ae K) (ao (au L ae M) bm)))),(by first|exact .inl rfl|exact .inr ⟨(by simp),sT.step (by assumption) (by assumption) (by assumption) (by first|omega|(simp;omega)) (by first|omega|(simp;omega))⟩),rfl,⟨rfl,rfl,rfl,rfl,rfl,trivial⟩,⟨rfl,rfl,trivial⟩⟩
 refine bV (aj (af 2 aa (fm 2 90 aa aa (fun _=>⟨aa,aa⟩) (ay ?_))))
 exact aE rfl rfl ⟨(.cS p),p,rfl,(.acc _),ae,O,ae,(fun h=>by rw[h];rfl)⟩
theorem DistinctC{T:bC}(F:FT T){a0:DC}{M:List (List DC)}(dW:aR M a0)(ed:M.length≤1000000)(cW:aH pc M):Sound T 163 [.d a0] fun r=>∃(y0:DC)(J:List (List DC)),r= .d y0∧aR J y0∧(J.length:Int)≤M.length∧aH pc J∧0≤(J.length:Int)∧(J=[]→y0= .nil):=by
 refine ch F.q163 aa (aj (af 1 aa (aj (af 1 aa (aA (aj (ak 1 aa (ai (aY aa (aV aa) (runsC F dW ae cW) (fun r1 _ dh=>?_))))))))))
 obtain⟨dV,A,rfl,G,rn,O,vh,D3⟩:=dh
 refine ai (bu aa G ?_)
 refine af 1 aa (bj (ki 3 90 143 48 2 aa aa (cb (fun k VE B=>∃(p:Int)(z:List (List DC)),(0≤p∧(p≤(A.length:Int)∨p=0))∧((z.length:Int)≤p)∧(aH pc z)∧k=((A.length:Int) -p).toNat∧aT [(0,.d a0),(2,dN),(3,.ac 90 z.length 2),(7,.d dV),(8,.d (dJ (A.length:Int))),(9,.d (dJ p))] VE∧aT [(90,.acc 143 48 2 z)] B) ?_ (k:=((A.length:Int) -0).toNat) ⟨0,[],ae,cn,bN,aa,⟨aa,aa,aa,aa,aa,aa,trivial⟩,⟨aa,trivial⟩⟩)))
 rintro _ VE B⟨p,z,c9,fr,I,rfl,hV,hB⟩
 refine bz _ _ hV hB (aj (af 1 aa (aA (aN aa (fun h2 g2=>?_) (fun h2 g2=>?_)))))
 ·refine aG (aA (bj (aj ?_)))
  obtain⟨r3,fG,gQ⟩:=bR p O
  obtain⟨K,qC,L,rfl,kt,mM,qp⟩:=c4 gQ
  refine ai (bo aa aa G ae fG aa ?_)
  refine af 3 aa (aS ?_)
  obtain⟨P1,U,Ov,Y⟩:=Ty.au kt
  obtain⟨Za,Z,Xs,Nx⟩:=Ty.au qp
  refine ak 7 aa ?_
  refine ai (cr (rows:=z) (ys:=[[K,L]]) rfl rfl rfl (.bs (rows:=[[K,L]]) rfl) aD ae (fun h=>by rw[h];rfl) (fun h=>by rw[h];rfl) ?_)
  refine af 1 aa (aS (ai (br aa aa ae ae ?_)))
  exact af 1 aa (⟨((A.length:Int) -((p+1))).toNat,ae,(p+1),(z++[[K,L]]),ae,cn,(bS I (bX (ao (au U ae Y) (ao (au Z ae Nx) bm)))),aa,⟨aa,aa,aa,aa,aa,aa,trivial⟩,⟨aa,trivial⟩⟩)
 refine bV (aj (af 2 aa (fm 2 90 aa aa (fun _=>⟨aa,aa⟩) (ay ?_))))
 exact aE rfl rfl ⟨(.cS z),z,rfl,(.acc _),ae,I,ae,(fun h=>by rw[h];rfl)⟩
theorem MB{T:bC}(F:FT T){a0 a1:DC}{A:List (List DC)}(I:aR A a0)(ed:A.length≤1000000)(cW:aH jv A){dn:List (List DC)}(eI:aR dn a1)(fS:dn.length≤1000000000)(du:aH cl dn):Sound T 125 [.d a0,.d a1] fun r=>∃(y0:DC)(J:List (List DC)),r= .d y0∧aR J y0∧(J.length:Int)≤A.length∧aH pc J∧0≤(J.length:Int)∧(J=[]→y0= .nil):=by
 refine ch F.q125 aa (aj (af 1 aa (aj (af 1 aa (aA (aj (af 1 aa (bj (ki 5 90 143 48 2 aa aa ?_)))))))))
 refine cb (fun k VE B=>∃(p:Int)(z:List (List DC)),(0≤p∧(p≤(A.length:Int)∨p=0))∧((z.length:Int)≤p)∧(aH pc z)∧k=((A.length:Int) -p).toNat∧aT [(0,.d a0),(1,.d a1),(4,dN),(5,.ac 90 z.length 2),(6,.d (dJ p))] VE∧aT [(90,.acc 143 48 2 z)] B) ?_ (k:=((A.length:Int) -0).toNat) ⟨0,[],ae,cn,bN,aa,⟨aa,aa,aa,aa,aa,trivial⟩,⟨aa,trivial⟩⟩
 rintro _ VE B⟨p,z,c9,fr,G,rfl,hV,hB⟩
 refine bz _ _ hV hB (aA (aj (ak 2 aa (ai (bu aa I ?_)))))
 refine af 1 aa (aN aa (fun h1 g1=>?_) (fun h1 g1=>?_))
 ·refine aG (aA (bj (aj (ak 2 aa ?_))))
  obtain⟨r2,dj,dA⟩:=bR p cW
  obtain⟨fR,fh,gn,lu,rfl,ig,ij,iP,gC⟩:=vg dA
  refine ai (bo aa aa I ae dj aa ?_)
  refine ak 2 aa (ai (aY aa (aV aa) (sX F ij iP) (fun r3 _ fv=>?_)))
  obtain⟨iG,rfl,kx⟩:=fv
  refine bn ?_
  obtain⟨EV,rfl⟩:=Ty.bQ kx
  refine db aa (fun h4=>?_) (fun h4=>?_)
  ·refine aS (ak 3 aa (ai (bo aa aa I ae dj aa ?_)))
   refine ak 3 aa ?_
   obtain⟨wx2_0,L,hnx2_0,M⟩:=Ty.au ig
   refine ai (aY aa (aV aa) (ZI F L ae M eI ae du) (fun r5 _ dL=>?_))
   obtain⟨K,mO,rfl,O,vk,U,vl,ru⟩:=dL
   refine ak 2 aa ?_
   refine ai (cr (rows:=z) (ys:=[[K,.nil]]) rfl rfl rfl (.bs (rows:=[[K,.nil]]) rfl) aD ae (fun h=>by rw[h];rfl) (fun h=>by rw[h];rfl) ?_)
   refine af 1 aa (aS (ak 1 aa (ai (br aa aa ae ae ?_))))
   exact af 1 aa (⟨((A.length:Int) -((p+1))).toNat,ae,(p+1),(z++[[K,.nil]]),ae,cn,(bS G (bX (ao (au O ae U) (ao bl bm)))),aa,⟨aa,aa,aa,aa,aa,trivial⟩,⟨aa,trivial⟩⟩)
  refine aG (aS (ak 1 aa (ai (br aa aa ae ae ?_))))
  exact af 1 aa (⟨((A.length:Int) -((p+1))).toNat,ae,(p+1),z,ae,ae,G,aa,⟨aa,aa,aa,aa,aa,trivial⟩,⟨aa,trivial⟩⟩)
 refine bV (fm 5 90 aa aa (fun _=>⟨aa,aa⟩) (aj (ak 1 aa (ai (aY aa (aV aa) (DistinctC F (.acc _) ae G) (fun r6 _ iW=>?_))))))
 obtain⟨oH,JO,rfl,Y,Oc,Z,XQ,X6⟩:=iW
 exact af 1 aa (ay (aE aa aa ⟨oH,JO,aa,Y,ae,Z,ae,X6⟩))
end Go.Ev.Rp
