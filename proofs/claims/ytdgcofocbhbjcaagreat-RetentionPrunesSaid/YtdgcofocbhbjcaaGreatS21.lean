/- Part 21 of rules for walks through the code of a program, and of such walks; what each part proves is said by its theorems. -/
import Derived.Test.YtdgcofocbhbjcaaGreatS13
import Derived.Test.YtdgcofocbhbjcaaGreatS20
set_option linter.unusedVariables false
set_option linter.unusedSimpArgs false
noncomputable section
set_option maxRecDepth 100000
set_option maxHeartbeats 4000000
namespace Go.Ev.Rp
open Go Go.Ev.Pp
theorem IX{T:bC}(F:FT T){a0 Z a2 a3 a4:DC}(cV:(Ty.s 1000).ok a0){A:List (List DC)}(L:aR A Z)(fS:A.length≤100)(du:aH eB A)(dE:(Ty.l 200 cl).ok a2)(dk:(Ty.l 4 fu).ok a3)(dg:(Ty.l 4 ez).ok a4):Sound T 112 [.agg [.d a0,.d Z,.d a2,.d a3,.d a4]] fun r=>∃(y0:Int),r= .d (dJ y0)∧(0≤y0∧y0≤12∧(gz A.length y0 A∧p' y0 A)):=by
 refine ch F.aaW aa ?_
 obtain⟨M,rfl,kD⟩:=Ty.aJ cV
 obtain⟨cu,cO,et,cK⟩:=Ty.au dE
 obtain⟨e5,eC,iS,ef⟩:=Ty.au dk
 obtain⟨eU,cT,fo,dc⟩:=Ty.au dg
 refine aj (af 2 aa (aj (af 1 aa (aA (aj (af 1 aa (bj (cb (fun k VE B=>∃(G:Int)(p:Int),(0≤G∧G≤12)∧(0≤p∧(p≤(A.length:Int)∨p=0))∧(gz p G A)∧(p' G A)∧k=((A.length:Int) -p).toNat∧aT [(0,.agg [dS M,.d Z,.d a2,.d a3,.d a4]),(1,.vp 1 0),(2,.d i0),(3,.d (dJ G)),(4,.d (dJ p))] VE∧aT [(1,.one 40 112 [dS M,.d Z,.d a2,.d a3,.d a4])] B) ?_ (k:=((A.length:Int) -0).toNat) ⟨0,0,ae,ae,Br,Jt,aa,⟨aa,aa,aa,aa,aa,trivial⟩,⟨aa,trivial⟩⟩))))))))
 rintro _ VE B⟨G,p,c9,fr,wC,Cl,rfl,hV,hB⟩
 refine bz _ _ hV hB (aA (aj (ak 3 aa (ai (bu aa L ?_)))))
 refine af 1 aa (aN aa (fun h1 g1=>?_) (fun h1 g1=>?_))
 ·refine aG (aA (bj (aj (af 1 aa (bj ?_)))))
  obtain⟨r2,dj,dA⟩:=bR p du
  obtain⟨fR,fh,gn,rfl,ig,ij,U⟩:=c4 dA
  obtain⟨J,K,IF,O⟩:=Ty.au U
  refine cb (fun k VE B=>∃(I:Int)(z:Int),(0≤I∧I≤12)∧(0≤z∧(z≤(J.length:Int)∨z=0))∧(gz p I A)∧(p' I A)∧(js z I J)∧k=((J.length:Int) -z).toNat∧aT [(0,.agg [dS M,.d Z,.d a2,.d a3,.d a4]),(1,.vp 1 0),(2,.d i0),(3,.d (dJ I)),(4,.d (dJ p)),(5,.d (dJ z)),(10,dB (decide (p<(A.length:Int))))] VE∧aT [(1,.one 40 112 [dS M,.d Z,.d a2,.d a3,.d a4])] B) ?_ (k:=((J.length:Int) -0).toNat) ⟨G,0,ae,ae,Br,Jt,Br,aa,⟨aa,aa,aa,aa,aa,aa,aa,trivial⟩,⟨aa,trivial⟩⟩
  rintro _ VE B⟨I,z,jj,pw,f1_2,aa5,abj,rfl,hV,hB⟩
  refine bz _ _ hV hB (aA (aj (ak 4 aa (ai (bo aa aa L ae dj aa ?_)))))
  refine ak 2 aa (ai (bu aa K ?_))
  refine af 1 aa (aN aa (fun h3 g3=>?_) (fun h3 g3=>?_))
  ·refine aG (aA (bj (aS (ak 4 aa (ai (bo aa aa L ae dj aa ?_))))))
   refine ak 3 aa ?_
   obtain⟨r4,eg,eZ⟩:=bR z O
   obtain⟨jw,mr,oG,rfl,Y,jR,ot⟩:=c4 eZ
   refine ai (bo aa aa K ae eg aa ?_)
   obtain⟨EJ,rfl,rl,rm⟩:=Ty.az Y
   refine ak 2 aa (ai (sS aa aa (fun z5 hz5=>?_)))
   refine af 1 aa (aS (ak 1 aa (ai (br aa aa ae ae ?_))))
   exact af 1 aa (⟨((J.length:Int) -((z+1))).toNat,ae,z5,(z+1),ae,ae,Br,Jt,Br,aa,⟨aa,aa,aa,aa,aa,aa,aa,trivial⟩,⟨aa,trivial⟩⟩)
  refine bV (aS (ak 1 aa (ai (br aa aa ae ae ?_))))
  exact af 1 aa (⟨((A.length:Int) -((p+1))).toNat,ae,I,(p+1),ae,ae,Br,Jt,aa,⟨aa,aa,aa,aa,aa,trivial⟩,⟨aa,trivial⟩⟩)
 refine bV (aj (af 2 aa (ay ?_)))
 exact aE rfl rfl ⟨G,rfl,⟨ae,ae,⟨gz.all lr ae,by assumption⟩⟩⟩
theorem abB{T:bC}(F:FT T){a0 a1 a2 a3 a4 a5:DC}(cV:(Ty.s 1000).ok a0){z:List (List DC)}(G:aR z a1)(fS:z.length≤100)(du:aH eB z)(dE:(Ty.l 200 cl).ok a2)(dk:(Ty.l 4 fu).ok a3)(dg:(Ty.l 4 ez).ok a4)(dm:tJ.ok a5):Sound T 117 [.agg [.d a0,.d a1,.d a2,.d a3,.d a4],.d a5] fun r=>∃(y0:DC)(y1:DC)(y2:DC)(A:List (List DC))(y4:DC),r= .tuple [.agg [.d y0,.d y1,.d y2],.d y4]∧tJ.ok y0∧tJ.ok y1∧aR A y2∧(A.length:Int)≤13∧aH mo A∧0≤(A.length:Int)∧(A=[]∨∃(q:Nat)(r:List DC)(d:DC),z[q]?=some r∧r[2]?=some d∧aR A d)∧(Ty.b).ok y4:=by
 refine ch F.q117 aa ?_
 obtain⟨hY,rfl,kD⟩:=Ty.aJ cV
 obtain⟨cu,cO,et,cK⟩:=Ty.au dE
 obtain⟨e5,eC,iS,ef⟩:=Ty.au dk
 obtain⟨eU,cT,fo,dc⟩:=Ty.au dg
 obtain⟨bH,rfl,pC,pD⟩:=Ty.az dm
 refine aj (af 3 aa (aA (aj (af 1 aa (bj (cb (fun k VE B=>∃(p:Int),(0≤p∧(p≤(z.length:Int)∨p=0))∧k=((z.length:Int) -p).toNat∧aT [(0,.agg [dS hY,.d a1,.d a2,.d a3,.d a4]),(1,.d (dJ bH)),(2,.vp 2 0),(4,.vp 4 0),(5,dB false),(6,.d (dJ p))] VE∧aT [(2,.one 40 112 [dS hY,.d a1,.d a2,.d a3,.d a4]),(4,.one 135 40 [.d i0,.d i0,dN])] B) ?_ (k:=((z.length:Int) -0).toNat) ⟨0,ae,aa,⟨aa,aa,aa,aa,aa,aa,trivial⟩,⟨aa,aa,trivial⟩⟩))))))
 rintro _ VE B⟨p,c9,rfl,hV,hB⟩
 refine bz _ _ hV hB (aA (aj (ak 3 aa (ai (bu aa G ?_)))))
 refine af 1 aa (aN aa (fun h1 g1=>?_) (fun h1 g1=>?_))
 ·refine aG (aA (bj (aj (ak 3 aa ?_))))
  obtain⟨r2,dj,dA⟩:=bR p du
  obtain⟨fR,fh,gn,rfl,L,M,O⟩:=c4 dA
  refine ai (bo aa aa G ae dj aa ?_)
  refine af 4 aa (aj ?_)
  obtain⟨U,rfl,AZ,xI⟩:=Ty.az L
  refine ak 5 aa (bZ (g:=tw) aa (fun I g3=>?_) (fun I g3=>?_))
  ·refine aq aa I (bf aa ?_)
   refine aq aa I (bL aa ?_)
   refine aq aa I (bJ aa aa aa ?_)
   obtain⟨Y,rfl,xM,xN⟩:=Ty.az M
   refine aq aa I (eH aa aa ?_)
   refine ai (aW aa I aa ?_)
   refine bn (aN aa (fun h4 g4=>?_) (fun h4 g4=>?_))
   ·refine aj (ak 3 aa (ai (bo aa aa G ae dj aa ?_)))
    refine af 3 aa (ay ?_)
    obtain⟨Z,J,IF,K⟩:=Ty.au O
    exact aE rfl rfl ⟨(dJ U),(dJ Y),gn,Z,(.b true),rfl,ah,ah,J,ae,K,ae,(by first|exact .inl rfl|exact .inr ⟨_,_,_,(by assumption),rfl,(by assumption)⟩),bQ⟩
   refine aG (aS (ak 1 aa (ai (br aa aa ae ae ?_))))
   exact af 1 aa (⟨((z.length:Int) -((p+1))).toNat,ae,(p+1),ae,aa,⟨aa,aa,aa,aa,aa,aa,trivial⟩,⟨aa,aa,trivial⟩⟩)
  refine an aa I (an aa I (an aa I (an aa I (ai (bd aa I aa ?_)))))
  refine bn (cH aa aa (aG (aS (ak 1 aa (ai (br aa aa ae ae ?_))))))
  exact af 1 aa (⟨((z.length:Int) -((p+1))).toNat,ae,(p+1),ae,aa,⟨aa,aa,aa,aa,aa,aa,trivial⟩,⟨aa,aa,trivial⟩⟩)
 refine bV (aj (af 3 aa (ay ?_)))
 exact aE rfl rfl ⟨i0,i0,.nil,[],(.b false),rfl,ah,ah,(.inr ⟨rfl,rfl⟩),ae,bN,ae,(by first|exact .inl rfl|exact .inr ⟨_,_,_,(by assumption),rfl,(by assumption)⟩),bQ⟩
theorem A8{T:bC}(F:FT T){a0 a1 a2 a3 a4 a5:DC}(cV:(Ty.s 1000).ok a0){L:List (List DC)}(Y:aR L a1)(fS:L.length≤100)(Z:aH eB L)(dE:(Ty.l 200 cl).ok a2)(dk:(Ty.l 4 fu).ok a3)(dg:(Ty.l 4 ez).ok a4)(dm:tJ.ok a5):Sound T 108 [.agg [.d a0,.d a1,.d a2,.d a3,.d a4],.d a5] fun r=>∃(y0:DC)(M:List (List DC)),r= .d y0∧aR M y0∧(M.length:Int)≤12∧aH cl M∧0≤(M.length:Int)∧(gz L.length M.length L):=by
 refine ch F.q108 aa ?_
 obtain⟨hY,rfl,kD⟩:=Ty.aJ cV
 obtain⟨cu,cO,et,cK⟩:=Ty.au dE
 obtain⟨e5,eC,iS,ef⟩:=Ty.au dk
 obtain⟨eU,cT,fo,dc⟩:=Ty.au dg
 obtain⟨bH,rfl,pC,pD⟩:=Ty.az dm
 refine aj (af 2 aa (aj (ak 1 aa (ai (aY aa (aV aa) (IX F (aJ ax) Y ae Z (au cO ae cK) (au eC ae ef) (au cT ae dc)) (fun r1 _ dh=>?_))))))
 obtain⟨dV,rfl,⟨ly1_0,uy1_0,dY⟩⟩:=dh
 obtain⟨n2,hn2⟩:∃n:Nat,dV=n:=⟨(dV).toNat,(yb ae).symm⟩
 refine ai (Dc (n:=n2) 11 rfl rfl rfl rfl rfl (by rw[←hn2];rfl) (by rw[←hn2];rfl) ae ae (fun w2 SS Sj=>?_))
 have pI:aH cl w2:=by subst SS;exact Db (ao ah bm)
 refine af 1 aa (aj (ak 2 aa (ai (aY aa (aV aa) (abB F (aJ ax) Y ae Z (au cO ae cK) (au eC ae ef) (au cT ae dc) ah) (fun r3 _ fv=>?_)))))
 obtain⟨iG,zJ,abC,J,y3_4,rfl,kx,hy3_1,K,hny3_2,O,hmy3_2,U,hy3_4⟩:=fv
 refine af 6 aa (aA (aj (af 1 aa (bj (cb (fun k VE B=>∃(A:Int)(G:Nat)(p:List (List DC)),(0≤A∧(A≤(J.length:Int)∨A=0))∧(p.length=G)∧(G=w2.length)∧(aH cl p)∧k=((J.length:Int) -A).toNat∧aT [(0,.agg [dS hY,.d a1,.d a2,.d a3,.d a4]),(1,.d (dJ bH)),(2,.vp 2 0),(4,dN),(5,.bs 11 G 1),(6,.vp 6 0),(8,.d (dJ A))] VE∧aT [(2,.one 40 112 [dS hY,.d a1,.d a2,.d a3,.d a4]),(6,.one 135 40 [.d iG,.d zJ,.d abC]),(11,.arr 3 8 1 G p)] B) ?_ (k:=((J.length:Int) -0).toNat) ⟨0,(w2.length),w2,ae,gG,ae,pI,aa,⟨aa,aa,aa,aa,aa,aa,aa,trivial⟩,⟨aa,aa,aa,trivial⟩⟩)))))
 rintro _ VE B⟨A,G,p,c9,rfl,wC,I,rfl,hV,hB⟩
 refine bz _ _ hV hB (aA (aj (ak 3 aa (ai (bu aa K ?_)))))
 refine af 1 aa (aN aa (fun h4 g4=>?_) (fun h4 g4=>?_))
 ·refine aG (aA (bj (fB (aP 4 aa ?_))))
  obtain⟨r5,iq,jo⟩:=bR A O
  obtain⟨zn,FZ,Kw,rfl,nI,yn,yp⟩:=c4 jo
  refine aU (bo aa aa K ae iq aa ?_)
  refine aP 1 aa (de aa aa (cF aa aa ?_))
  obtain⟨EU,rfl,IK,IL⟩:=Ty.az nI
  refine aU (eb aa aa ae ae ?_)
  refine aP 3 aa (aU (bo aa aa K ae iq aa ?_))
  refine aP 1 aa (de aa aa (cF aa aa ?_))
  have kb:=js.get (gz.at dY.1 U) (o9 _) iq rfl
  obtain⟨j6,An,sE⟩:=cE (z:=(EU-1)) (n:=p.length) ae ae
  obtain⟨r6,gO,gP⟩:=dX sE I
  obtain⟨tP,_,rfl,mg,gP⟩:=b0 gP
  obtain rfl:=dy gP
  refine aU (e9 rfl (by rw[←An];rfl) sE ?_)
  refine oa aa (pU aa aa aa aa aa aa aD aD gO (fun w7 GX GY=>?_))
  have uG:aH cl w7:=by rw[GX];exact hZ I (ao yp bm)
  rw[←GY]
  refine cU (aS (ak 1 aa (ai (br aa aa ae ae ?_))))
  exact af 1 aa (⟨((J.length:Int) -((A+1))).toNat,ae,(A+1),(w7.length),w7,ae,gG,ae,uG,aa,⟨aa,aa,aa,aa,aa,aa,aa,trivial⟩,⟨aa,aa,aa,trivial⟩⟩)
 exact bV (aj (af 2 aa (ma 4 11 aa aa (fun _=>⟨aa,aa⟩) (ay (aE aa aa ⟨(.sl p),p,aa,(.inl aa),ae,I,ae,(gz.cast (And.left lr) ae)⟩)))))
end Go.Ev.Rp
namespace Go.Ev.Rp
open Go Go.Ev.Pp
theorem ColumnsC{T:bC}(F:FT T){a0 a1:DC}{dP:List (List DC)}(U:aR dP a0)(ed:dP.length≤1000000000)(cW:aH ji dP)(da:tJ.ok a1):Sound T 214 [.d a0,.d a1] fun r=>∃(y0:DC)(cQ:List (List DC)),r= .d y0∧aR cQ y0∧(cQ.length:Int)≤1000000000∧aH cl cQ∧0≤(cQ.length:Int)∧(cQ=[]→y0= .nil):=by
 refine ch F.q214 aa ?_
 obtain⟨aB,rfl,eS,eT⟩:=Ty.az da
 refine aj (af 1 aa (aA (aj (ak 3 aa (bZ (g:=po) aa (fun h1 g1=>?_) (fun h1 g1=>?_))))))
 ·refine an aa h1 (an aa h1 (an aa h1 (an aa h1 (ai (aW aa h1 aa ?_)))))
  exact bn (cg aa aa (aj (af 1 aa (ay (aE aa aa ⟨.nil,[],aa,(.inr ⟨aa,aa⟩),ae,bN,ae,(fun _=>aa)⟩)))))
 refine aq aa h1 (bf aa ?_)
 refine aq aa h1 (bf aa ?_)
 refine aq aa h1 (bu aa U ?_)
 refine aq aa h1 (jr aa aa ?_)
 refine ai (bd aa h1 aa ?_)
 refine bn (aN aa (fun h2 g2=>?_) (fun h2 g2=>?_))
 ·exact aj (af 1 aa (ay (aE aa aa ⟨.nil,[],aa,(.inr ⟨aa,aa⟩),ae,bN,ae,(fun _=>aa)⟩)))
 refine aG (aj (ak 1 aa (ai (br aa aa ae ae ?_))))
 obtain⟨n3,GW⟩:∃n:Nat,(aB+1)=n:=⟨((aB+1)).toNat,(yb ae).symm⟩
 refine ai (Dc (n:=n3) 19 rfl rfl rfl rfl rfl (by rw[←GW];rfl) (by rw[←GW];rfl) ae ae (fun w3 SA SB=>?_))
 have sC:aH [.b] w3:=by subst SA;exact Db (ao bQ bm)
 refine af 1 aa (aj (ak 2 aa ?_))
 obtain⟨j4,uy,pO⟩:=cE (z:=aB) (n:=w3.length) ae ae
 obtain⟨r4,eg,eZ⟩:=dX pO sC
 obtain⟨jw,_,rfl,gB,eZ⟩:=b0 eZ
 obtain rfl:=dy eZ
 refine ai (e9 rfl (by rw[←uy];rfl) pO ?_)
 refine jd (pU aa aa aa aa aa aa aD aD eg (fun w5 hw5 hl5=>?_))
 have uB:aH [.b] w5:=by rw[hw5];exact hZ sC (ao bQ bm)
 rw[←hl5]
 refine bn (aj (af 1 aa (aA (aj (af 2 aa (bj (cb (fun k VE B=>∃(G:Int)(ua:DC)(L:List (List DC))(E0:Nat)(p:List (List DC)),(-1≤G∧G≤aB)∧(aR L ua)∧((L.length:Int)≤aB-G)∧(aH cl L)∧(L=[]→ua= .nil)∧(p.length=E0)∧(E0=w5.length)∧(aH [.b] p)∧k=(G+1).toNat∧aT [(0,.d a0),(1,.d (dJ aB)),(4,dN),(5,.bs 19 E0 1),(6,.d ua),(7,.d (dJ G)),(16,dB (decide ((dP.length:Int)≤aB)))] VE∧aT [(19,.arr 4 1 1 E0 p)] B) ?_ (k:=(aB+1).toNat) ⟨aB,DC.nil,[],(w5.length),w5,ae,(.inr ⟨aa,aa⟩),ae,bN,(fun _=>aa),gG,ae,uB,aa,⟨aa,aa,aa,aa,aa,aa,aa,trivial⟩,⟨aa,trivial⟩⟩)))))))
 rintro _ VE B⟨G,ua,L,E0,p,c9,IY,wC,IZ,Oi,rfl,f0_6,I,rfl,hV,hB⟩
 refine bz _ _ hV hB (aA (aj (af 2 aa (aN aa (fun h6 g6=>?_) (fun h6 g6=>?_)))))
 ·refine aG (aA (bj (aA (aj (ak 2 aa ?_)))))
  obtain⟨j7,lD,gu⟩:=cE (z:=G) (n:=p.length) ae ae
  obtain⟨r7,eY,gv⟩:=dX gu I
  obtain⟨nP,_,rfl,ku,gv⟩:=b0 gv
  obtain rfl:=dy gv
  refine ai (e9 rfl (by rw[←lD];rfl) gu ?_)
  refine ai (nq (rows:=p) aa aa (bM _) (bM _) gu eY aa ?_)
  obtain⟨ZN,rfl⟩:=Ty.bQ ku
  refine af 1 aa (db aa (fun h8=>?_) (fun h8=>?_))
  ·refine bV (aS (ak 1 aa (ai (eb aa aa ae ae ?_))))
   exact af 1 aa (⟨(((G-1))+1).toNat,ae,(G-1),ua,L,(p.length),p,ae,IY,ae,IZ,Oi,gG,ae,I,aa,⟨aa,aa,aa,aa,aa,aa,aa,trivial⟩,⟨aa,trivial⟩⟩)
  refine aG (aj (ak 2 aa ?_))
  obtain⟨r9,iI,lX⟩:=bR G cW
  obtain⟨tS,wt,zm,Ry,Rz,RA,x9_6,rfl,nH,ou,qo,JR,JS,JT,hx9_6⟩:=M' lX
  refine ai (bo aa aa U ae iI aa ?_)
  refine ak 2 aa ?_
  obtain⟨EH,rfl,Ng,Nh⟩:=Ty.az nH
  refine ai (aY aa (aV aa) (JA (aQ:=EH) F ae ae) (fun mA _ oI=>?_))
  obtain⟨vF,rfl,xL⟩:=oI
  refine af 1 aa (kM (fun VE B=>∃(DZ:Nat)(A:List (List DC)),(A.length=DZ)∧(DZ=p.length)∧(aH [.b] A)∧aT [(0,.d a0),(1,.d (dJ aB)),(4,dN),(5,.bs 19 DZ 1),(6,.d ua),(7,.d (dJ G)),(8,.d (dJ vF)),(16,dB (decide ((dP.length:Int)≤aB))),(25,dB (decide (0≤G))),(32,dB ((!ZN)))] VE∧aT [(19,.arr 4 1 1 DZ A)] B) ?_ ?_)
  ·refine aj (ak 3 aa (bZ (g:=gE) aa (fun Y fT=>?_) (fun Y fT=>?_)))
   ·refine aq aa Y (bf aa ?_)
    refine aq aa Y (bf aa ?_)
    refine aq aa Y (bo aa aa U ae iI aa ?_)
    refine aq aa Y (eL aa ?_)
    refine aq aa Y (cF aa aa ?_)
    obtain⟨Bv,rfl,Ni,Nj⟩:=Ty.az ou
    refine aq aa Y (jr aa aa ?_)
    refine ai (aW aa Y aa ?_)
    refine ak 1 aa (bZ (g:=yX) aa (fun M gS=>?_) (fun M gS=>?_))
    ·refine aq aa M (bf aa ?_)
     refine aq aa M (bf aa ?_)
     refine aq aa M (bo aa aa U ae iI aa ?_)
     refine aq aa M (eL aa ?_)
     refine aq aa M (cF aa aa ?_)
     refine aq aa M (bf aa ?_)
     refine aq aa M (eH aa aa ?_)
     refine ai (aW aa M aa ?_)
     refine bn (aN aa (fun eD iv=>?_) (fun eD iv=>?_))
     ·refine aS (ak 3 aa (ai (bo aa aa U ae iI aa ?_)))
      refine ak 2 aa ?_
      obtain⟨SF,Ga,Co⟩:=cE (z:=Bv) (n:=p.length) ae ae
      obtain⟨sB,lv,lQ⟩:=dX Co I
      obtain⟨yl,_,rfl,o8,lQ⟩:=b0 lQ
      obtain rfl:=dy lQ
      refine ai (e9 rfl (by rw[←Ga];rfl) Co ?_)
      refine jd (pU aa aa aa aa aa aa aD aD lv (fun qZ hw15 abk=>?_))
      have zK:aH [.b] qZ:=by rw[hw15];exact hZ I (ao bQ bm)
      rw[←abk]
      exact bn (⟨(qZ.length),qZ,gG,ae,zK,⟨aa,aa,aa,aa,aa,aa,aa,aa,aa,aa,trivial⟩,⟨aa,trivial⟩⟩)
     exact aG (⟨(p.length),p,gG,ae,I,⟨aa,aa,aa,aa,aa,aa,aa,aa,aa,aa,trivial⟩,⟨aa,trivial⟩⟩)
    refine an aa M (an aa M (an aa M (an aa M (an aa M (an aa M (an aa M (ai (bd aa M aa ?_))))))))
    exact bn (cH aa aa (aG (⟨(p.length),p,gG,ae,I,⟨aa,aa,aa,aa,aa,aa,aa,aa,aa,aa,trivial⟩,⟨aa,trivial⟩⟩)))
   refine an aa Y (an aa Y (an aa Y (an aa Y (an aa Y (an aa Y (ai (bd aa Y aa ?_)))))))
   refine ak 1 aa (an aa aa (an aa aa (an aa aa (an aa aa (an aa aa (an aa aa (an aa aa (ai (bd aa aa aa ?_)))))))))
   exact bn (cH aa aa (aG (⟨(p.length),p,gG,ae,I,⟨aa,aa,aa,aa,aa,aa,aa,aa,aa,aa,trivial⟩,⟨aa,trivial⟩⟩)))
  rintro VE B⟨DZ,A,rfl,fj5_1,K,hV,hB⟩
  refine bz _ _ hV hB (kM (fun VE B=>∃(D0:Nat)(J:List (List DC)),(J.length=D0)∧(D0=A.length)∧(aH [.b] J)∧aT [(0,.d a0),(1,.d (dJ aB)),(4,dN),(5,.bs 19 D0 1),(6,.d ua),(7,.d (dJ G)),(8,.d (dJ vF)),(16,dB (decide ((dP.length:Int)≤aB))),(25,dB (decide (0≤G))),(32,dB ((!ZN)))] VE∧aT [(19,.arr 4 1 1 D0 J)] B) ?_ ?_)
  ·refine aj (ak 3 aa (bZ (g:=FA) aa (fun Z jE=>?_) (fun Z jE=>?_)))
   ·refine aq aa Z (bf aa ?_)
    refine aq aa Z (bf aa ?_)
    refine aq aa Z (bo aa aa U ae iI aa ?_)
    refine aq aa Z (eL aa ?_)
    refine aq aa Z (cF aa aa ?_)
    obtain⟨EI,rfl,Xl,Xm⟩:=Ty.az qo
    refine aq aa Z (jr aa aa ?_)
    refine ai (aW aa Z aa ?_)
    refine ak 1 aa (bZ (g:=lp) aa (fun O jF=>?_) (fun O jF=>?_))
    ·refine aq aa O (bf aa ?_)
     refine aq aa O (bf aa ?_)
     refine aq aa O (bo aa aa U ae iI aa ?_)
     refine aq aa O (eL aa ?_)
     refine aq aa O (cF aa aa ?_)
     refine aq aa O (bf aa ?_)
     refine aq aa O (eH aa aa ?_)
     refine ai (aW aa O aa ?_)
     refine bn (aN aa (fun eO ni=>?_) (fun eO ni=>?_))
     ·refine aS (ak 3 aa (ai (bo aa aa U ae iI aa ?_)))
      refine ak 2 aa ?_
      obtain⟨SG,Gb,Cp⟩:=cE (z:=EI) (n:=A.length) ae ae
      obtain⟨Al,zI,lR⟩:=dX Cp K
      obtain⟨BL,_,rfl,DX,lR⟩:=b0 lR
      obtain rfl:=dy lR
      refine ai (e9 rfl (by rw[←Gb];rfl) Cp ?_)
      refine jd (pU aa aa aa aa aa aa aD aD zI (fun lE Gg Cq=>?_))
      have ub:aH [.b] lE:=by rw[Gg];exact hZ K (ao bQ bm)
      rw[←Cq]
      exact bn (⟨(lE.length),lE,gG,ae,ub,⟨aa,aa,aa,aa,aa,aa,aa,aa,aa,aa,trivial⟩,⟨aa,trivial⟩⟩)
     exact aG (⟨(A.length),A,gG,ae,K,⟨aa,aa,aa,aa,aa,aa,aa,aa,aa,aa,trivial⟩,⟨aa,trivial⟩⟩)
    refine an aa O (an aa O (an aa O (an aa O (an aa O (an aa O (an aa O (ai (bd aa O aa ?_))))))))
    exact bn (cH aa aa (aG (⟨(A.length),A,gG,ae,K,⟨aa,aa,aa,aa,aa,aa,aa,aa,aa,aa,trivial⟩,⟨aa,trivial⟩⟩)))
   refine an aa Z (an aa Z (an aa Z (an aa Z (an aa Z (an aa Z (ai (bd aa Z aa ?_)))))))
   refine ak 1 aa (an aa aa (an aa aa (an aa aa (an aa aa (an aa aa (an aa aa (an aa aa (ai (bd aa aa aa ?_)))))))))
   exact bn (cH aa aa (aG (⟨(A.length),A,gG,ae,K,⟨aa,aa,aa,aa,aa,aa,aa,aa,aa,aa,trivial⟩,⟨aa,trivial⟩⟩)))
  rintro VE B⟨D0,J,rfl,fj6_1,Vb,hV,hB⟩
  refine bz _ _ hV hB (aj (ak 2 aa (ai (bo aa aa U ae iI aa ?_))))
  refine af 3 aa (aN aa (fun gw l7=>?_) (fun gw l7=>?_))
  ·refine aS (ak 3 aa (ai (bo aa aa U ae iI aa ?_)))
   obtain⟨zx9_3,rfl,hzx9_3,kzx9_3⟩:=Ty.az JR
   refine ak 3 aa ?_
   have hb22:aH cl [[(dJ zx9_3)]]:=(cY (ao ah bm) bN)
   refine eV 103 103 aa aa (fun _=>⟨aa,aa⟩) (ai (aY aa (aV aa) (vm F IY ae IZ (.inl aa) ae hb22) (fun CS _ tX=>?_)))
   obtain⟨BM,I0,rfl,xz,Mt,xA,V8,V9⟩:=tX
   refine af 1 aa (aS (ak 1 aa (ai (eb aa aa ae ae ?_))))
   exact af 1 aa (⟨(((G-1))+1).toNat,ae,(G-1),BM,I0,(J.length),J,ae,xz,ae,xA,V9,gG,ae,Vb,aa,⟨aa,aa,aa,aa,aa,aa,aa,trivial⟩,⟨aa,trivial⟩⟩)
  refine aG (aS (ak 1 aa (ai (eb aa aa ae ae ?_))))
  exact af 1 aa (⟨(((G-1))+1).toNat,ae,(G-1),ua,L,(J.length),J,ae,IY,ae,IZ,Oi,gG,ae,Vb,aa,⟨aa,aa,aa,aa,aa,aa,aa,trivial⟩,⟨aa,trivial⟩⟩)
 exact bV (aj (af 2 aa (ay (aE aa aa ⟨ua,L,aa,IY,ae,IZ,ae,Oi⟩))))
theorem XT{T:bC}(F:FT T){a0 a1 a2 a3 a4 a5 a6 a7:DC}(cV:(Ty.s 1000).ok a0){Z:List (List DC)}(eI:aR Z a1)(fS:Z.length≤100)(du:aH eB Z)(dE:(Ty.l 200 cl).ok a2)(dk:(Ty.l 4 fu).ok a3)(dg:(Ty.l 4 ez).ok a4)(dm:tJ.ok a5){iV:List (List DC)}(O:aR iV a6)(abD:iV.length≤1000000000)(U:aH ji iV)(nf:tJ.ok a7):Sound T 158 [.agg [.d a0,.d a1,.d a2,.d a3,.d a4],.d a5,.d a6,.d a7] fun r=>∃y0 y1,r= .tuple [.d y0,.d y1]∧tJ.ok y0∧tJ.ok y1:=by
 refine ch F.q158 aa ?_
 obtain⟨hY,rfl,kD⟩:=Ty.aJ cV
 obtain⟨cu,cO,et,cK⟩:=Ty.au dE
 obtain⟨e5,eC,iS,ef⟩:=Ty.au dk
 obtain⟨eU,cT,fo,dc⟩:=Ty.au dg
 obtain⟨bH,rfl,pC,pD⟩:=Ty.az dm
 obtain⟨bI,rfl,RB,RC⟩:=Ty.az nf
 refine aj (af 3 aa (aj (ak 2 aa (ai (aY aa (aV aa) (A8 F (aJ ax) eI ae du (au cO ae cK) (au eC ae ef) (au cT ae dc) ah) (fun r1 _ dh=>?_))))))
 obtain⟨dV,Pv,rfl,A,rn,L,vh,hfy1_0⟩:=dh
 refine af 1 aa (aj (ak 3 aa (ai (aY aa (aV aa) (CheckC F O ae U ah A ae L) (fun r2 _ iu=>?_)))))
 obtain⟨Y,Gh,rfl,qu,E3⟩:=iu
 refine af 5 aa (aA (aj ?_))
 obtain⟨K,rfl,hzy2_1,kzy2_1⟩:=Ty.az E3
 refine af 2 aa (aN aa (fun h3 g3=>?_) (fun h3 g3=>?_))
 ·exact aj (af 3 aa (ay (aE aa aa ⟨i0,(dJ K),aa,ah,ah⟩)))
 refine aG (aj (ak 2 aa (ai (aY aa (aV aa) (ColumnsC F O ae U ah) (fun r4 _ eo=>?_)))))
 obtain⟨fk,G,rfl,z,xO,M,A2,DW⟩:=eo
 refine af 1 aa (aA (aj (af 1 aa (bj (cb (fun k VE B=>∃(p:Int),(0≤p∧(p≤(G.length:Int)∨p=0))∧k=((G.length:Int) -p).toNat∧aT [(0,.agg [dS hY,.d a1,.d a2,.d a3,.d a4]),(1,.d (dJ bH)),(2,.d a6),(3,.d (dJ bI)),(4,.vp 4 0),(8,.d i0),(9,.d i0),(10,.d dV),(11,.d Y),(12,.d (dJ K)),(13,.d fk),(14,.d (dJ p)),(26,dB ((!decide (K=0))))] VE∧aT [(4,.one 40 112 [dS hY,.d a1,.d a2,.d a3,.d a4])] B) ?_ (k:=((G.length:Int) -0).toNat) ⟨0,ae,aa,⟨aa,aa,aa,aa,aa,aa,aa,aa,aa,aa,aa,aa,aa,trivial⟩,⟨aa,trivial⟩⟩)))))
 rintro _ VE B⟨p,c9,rfl,hV,hB⟩
 refine bz _ _ hV hB (aA (aj (ak 2 aa (ai (bu aa z ?_)))))
 refine af 1 aa (aN aa (fun h5 g5=>?_) (fun h5 g5=>?_))
 ·refine aG (aA (bj (aj (ak 2 aa ?_))))
  obtain⟨r6,gO,gP⟩:=bR p M
  obtain⟨tP,_,rfl,mg,gP⟩:=b0 gP
  obtain rfl:=dy gP
  refine ai (bo aa aa z ae gO aa ?_)
  obtain⟨yo,rfl,IN,IP⟩:=Ty.az mg
  refine ak 3 aa (bZ (g:=v3) aa (fun J g7=>?_) (fun J g7=>?_))
  ·refine an aa J (an aa J (an aa J (an aa J (an aa J (an aa J (an aa J (ai (aW aa J aa ?_))))))))
   refine ak 1 aa (an aa aa (an aa aa (an aa aa (an aa aa (an aa aa (an aa aa (an aa aa (an aa aa (ai (aW aa aa aa ?_))))))))))
   exact bn (cg aa aa (aj (af 2 aa (ay (aE aa aa ⟨i0,(dJ 8),aa,ah,ah⟩)))))
  refine aq aa J (bf aa ?_)
  refine aq aa J (bf aa ?_)
  refine aq aa J (bo aa aa z ae gO aa ?_)
  refine aq aa J (cF aa aa ?_)
  refine aq aa J (bf aa ?_)
  refine aq aa J (bu aa A ?_)
  refine aq aa J (jr aa aa ?_)
  refine ai (bd aa J aa ?_)
  refine ak 1 aa (bZ (g:=v7) aa (fun I g8=>?_) (fun I g8=>?_))
  ·refine an aa I (an aa I (an aa I (an aa I (an aa I (an aa I (an aa I (an aa I (ai (aW aa I aa ?_)))))))))
   exact bn (cg aa aa (aj (af 2 aa (ay (aE aa aa ⟨i0,(dJ 8),aa,ah,ah⟩)))))
  refine aq aa I (bf aa ?_)
  refine aq aa I (bf aa ?_)
  refine aq aa I (bf aa ?_)
  refine aq aa I (bo aa aa z ae gO aa ?_)
  refine aq aa I (cF aa aa ?_)
  obtain⟨r9,iI,lX⟩:=bR yo L
  obtain⟨tS,_,rfl,nH,lX⟩:=b0 lX
  obtain rfl:=dy lX
  refine aq aa I (bo aa aa A ae iI aa ?_)
  refine aq aa I (cF aa aa ?_)
  obtain⟨EH,rfl,Ng,Nh⟩:=Ty.az nH
  refine aq aa I (en aa aa ?_)
  refine ai (bd aa I aa ?_)
  refine bn (aN aa (fun gx fV=>?_) (fun gx fV=>?_))
  ·exact aj (af 2 aa (ay (aE aa aa ⟨i0,(dJ 8),aa,ah,ah⟩)))
  refine aG (aS (ak 1 aa (ai (br aa aa ae ae ?_))))
  exact af 1 aa (⟨((G.length:Int) -((p+1))).toNat,ae,(p+1),ae,aa,⟨aa,aa,aa,aa,aa,aa,aa,aa,aa,aa,aa,aa,aa,trivial⟩,⟨aa,trivial⟩⟩)
 exact bV (aj (af 3 aa (ay (aE aa aa ⟨Y,i0,aa,qu,ah⟩))))
theorem rowE{T:bC}(F:FT T){a0 a1 a2 a3 a4 a5 a6 a7 a8 a9 kL Z oW jJ oX jK ke kf kg sH wZ xb:DC}(cV:(Ty.s 1000).ok a0){dn:List (List DC)}(eI:aR dn a1)(fS:dn.length≤100)(du:aH eB dn)(dE:(Ty.l 200 cl).ok a2)(dk:(Ty.l 4 fu).ok a3)(dg:(Ty.l 4 ez).ok a4)(dm:tJ.ok a5)(iX:tJ.ok a6)(nf:(Ty.s 1000).ok a7)(ng:(Ty.l 1000000000 ee).ok a8)(lY:tJ.ok a9)(pz:tJ.ok kL)(qD:(Ty.l 100 ji).ok Z)(uc:tJ.ok oW)(wv:(Ty.l 10 fK).ok jJ)(zL:(Ty.s 1000).ok oX)(zM:(Ty.l 100 eB).ok jK)(Gi:(Ty.l 200 cl).ok ke)(Gj:(Ty.l 4 fu).ok kf)(Gk:(Ty.l 4 ez).ok kg)(Gl:tJ.ok sH)(Gm:(Ty.s 1000).ok wZ)(Gn:tJ.ok xb):Sound T 120 [.agg [.d a0,.d a1,.d a2,.d a3,.d a4],.d a5,.agg [.d a6,.d a7,.d a8,.d a9,.d kL,.d Z,.d oW,.d jJ,.d oX,.d jK,.d ke,.d kf,.d kg,.d sH,.d wZ,.d xb]] fun r=>∃y0,r= .d y0∧tJ.ok y0:=by
 refine ch F.q120 aa ?_
 obtain⟨hY,rfl,kD⟩:=Ty.aJ cV
 obtain⟨cu,cO,et,cK⟩:=Ty.au dE
 obtain⟨e5,eC,iS,ef⟩:=Ty.au dk
 obtain⟨eU,cT,fo,dc⟩:=Ty.au dg
 obtain⟨bH,rfl,pC,pD⟩:=Ty.az dm
 obtain⟨bA,rfl,Cj,Ck⟩:=Ty.az iX
 obtain⟨pQ,rfl,abE⟩:=Ty.aJ nf
 obtain⟨uw,iT,zo,lL⟩:=Ty.au ng
 obtain⟨hU,rfl,Ku,Kv⟩:=Ty.az lY
 obtain⟨gg,rfl,PR,PT⟩:=Ty.az pz
 obtain⟨abF,Bu,Pt,EE⟩:=Ty.au qD
 obtain⟨J,rfl,hza12,kza12⟩:=Ty.az uc
 obtain⟨K,E4,hna13,JU⟩:=Ty.au wv
 obtain⟨L,rfl,hsa14⟩:=Ty.aJ zL
 obtain⟨wa15,PU,hna15,PV⟩:=Ty.au zM
 obtain⟨abG,E5,ZO,E6⟩:=Ty.au Gi
 obtain⟨abH,E7,ZP,E8⟩:=Ty.au Gj
 obtain⟨abI,E9,ZQ,Fa⟩:=Ty.au Gk
 obtain⟨M,rfl,hza19,kza19⟩:=Ty.az Gl
 obtain⟨O,rfl,hsa20⟩:=Ty.aJ Gm
 obtain⟨U,rfl,hza21,kza21⟩:=Ty.az Gn
 refine aj (af 3 aa (aA (aj (ak 2 aa (ai (aY aa (aV aa) (II F ah ah) (fun r1 _ dh=>?_)))))))
 obtain⟨dV,rfl,dY⟩:=dh
 obtain⟨EY,rfl⟩:=Ty.bQ dY
 refine af 1 aa (db aa (fun h2=>?_) (fun h2=>?_))
 ·exact aj (af 1 aa (ay (aE aa aa ⟨(dJ 10),aa,ah⟩)))
 refine aG (kM (fun VE B=>aT [(0,.agg [dS hY,.d a1,.d a2,.d a3,.d a4]),(1,.d (dJ bH)),(2,.agg [.d (dJ bA),dS pQ,.d a8,.d (dJ hU),.d (dJ gg),.d Z,.d (dJ J),.d jJ,dS L,.d jK,.d ke,.d kf,.d kg,.d (dJ M),dS O,.d (dJ U)]),(3,.vp 3 0),(5,.vp 5 0),(6,.d i0),(18,dB ((!EY)))] VE∧aT [(3,.one 40 112 [dS hY,.d a1,.d a2,.d a3,.d a4]),(5,.one 107 264 [.d (dJ bA),dS pQ,.d a8,.d (dJ hU),.d (dJ gg),.d Z,.d (dJ J),.d jJ,dS L,.d jK,.d ke,.d kf,.d kg,.d (dJ M),dS O,.d (dJ U)])] B) ?_ ?_)
 ·refine aj (af 3 aa (aN aa (fun h3 g3=>?_) (fun h3 g3=>?_)))
  ·refine aj (ak 6 aa (ai (aY aa (aV aa) (XT F (aJ ax) eI ae du (au cO ae cK) (au eC ae ef) (au cT ae dc) ah Bu ae EE ah) (fun r4 _ eo=>?_))))
   obtain⟨fk,zN,rfl,mN,ph⟩:=eo
   refine af 5 aa (aA (aj ?_))
   obtain⟨zy4_1,rfl,I1,I2⟩:=Ty.az ph
   refine af 2 aa (aN aa (fun h5 g5=>?_) (fun h5 g5=>?_))
   ·exact aj (af 2 aa (ay (aE aa aa ⟨(dJ zy4_1),aa,ah⟩)))
   refine aG (aj ?_)
   obtain⟨zy4_0,rfl,NF,NG⟩:=Ty.az mN
   refine ak 3 aa (bZ (g:=yV) aa (fun h6 g6=>?_) (fun h6 g6=>?_))
   ·refine aq aa h6 (bf aa ?_)
    refine aq aa h6 (eR aa aa ?_)
    refine ai (aW aa h6 aa ?_)
    refine bn (aN aa (fun h7 g7=>?_) (fun h7 g7=>?_))
    ·exact aj (af 1 aa (ay (aE aa aa ⟨(dJ 7),aa,ah⟩)))
    exact aG (⟨⟨aa,aa,aa,aa,aa,aa,aa,trivial⟩,⟨aa,aa,trivial⟩⟩)
   refine an aa h6 (an aa h6 (ai (bd aa h6 aa ?_)))
   exact bn (cH aa aa (aG (⟨⟨aa,aa,aa,aa,aa,aa,aa,trivial⟩,⟨aa,aa,trivial⟩⟩)))
  exact aG (⟨⟨aa,aa,aa,aa,aa,aa,aa,trivial⟩,⟨aa,aa,trivial⟩⟩)
 rintro VE B⟨hV,hB⟩
 refine bz _ _ hV hB (aA (aj (af 3 aa (aN aa (fun h8 g8=>?_) (fun h8 g8=>?_)))))
 ·exact aj (af 1 aa (ay (aE aa aa ⟨i0,aa,ah⟩)))
 refine aG (aj (ak 2 aa (ai (aY aa (aV aa) (A8 F (aJ ax) eI ae du (au cO ae cK) (au eC ae ef) (au cT ae dc) ah) (fun r9 _ oU=>?_)))))
 obtain⟨jk,wy9_0,rfl,Y,hny9_0,hry9_0,hmy9_0,hfy9_0⟩:=oU
 refine af 1 aa (aA (aj (af 1 aa (bj (cb (fun k VE B=>∃(p:Int),(0≤p∧(p≤(K.length:Int)∨p=0))∧k=((K.length:Int) -p).toNat∧aT [(0,.agg [dS hY,.d a1,.d a2,.d a3,.d a4]),(1,.d (dJ bH)),(2,.agg [.d (dJ bA),dS pQ,.d a8,.d (dJ hU),.d (dJ gg),.d Z,.d (dJ J),.d jJ,dS L,.d jK,.d ke,.d kf,.d kg,.d (dJ M),dS O,.d (dJ U)]),(3,.vp 3 0),(5,.vp 5 0),(6,.d i0),(9,.d jk),(10,.d (dJ p)),(18,dB ((!EY))),(43,dB ((!decide (bA=3))))] VE∧aT [(3,.one 40 112 [dS hY,.d a1,.d a2,.d a3,.d a4]),(5,.one 107 264 [.d (dJ bA),dS pQ,.d a8,.d (dJ hU),.d (dJ gg),.d Z,.d (dJ J),.d jJ,dS L,.d jK,.d ke,.d kf,.d kg,.d (dJ M),dS O,.d (dJ U)])] B) ?_ (k:=((K.length:Int) -0).toNat) ⟨0,ae,aa,⟨aa,aa,aa,aa,aa,aa,aa,aa,aa,aa,trivial⟩,⟨aa,aa,trivial⟩⟩)))))
 rintro _ VE B⟨p,c9,rfl,hV,hB⟩
 refine bz _ _ hV hB (aA (aj (ak 3 aa (ai (bu aa E4 ?_)))))
 refine af 1 aa (aN aa (fun gx fV=>?_) (fun gx fV=>?_))
 ·refine aG (aA (bj (aj (ak 3 aa ?_))))
  obtain⟨pN,zB,zD⟩:=bR p JU
  obtain⟨PG,ES,rfl,xS,DY⟩:=fc zD
  refine ai (bo aa aa E4 ae zB aa ?_)
  refine af 3 aa (aA (aj ?_))
  obtain⟨XU,rfl,hzx11_0,kzx11_0⟩:=Ty.az xS
  refine ak 4 aa (bZ (g:=Fx) aa (fun I gS=>?_) (fun I gS=>?_))
  ·refine an aa I (an aa I (an aa I (an aa I (an aa I (ai (aW aa I aa ?_))))))
   refine ak 1 aa (an aa aa (an aa aa (an aa aa (an aa aa (an aa aa (an aa aa (ai (aW aa aa aa ?_))))))))
   exact bn (cg aa aa (aj (af 1 aa (ay (aE aa aa ⟨(dJ 8),aa,ah⟩)))))
  refine aq aa I (bL aa ?_)
  refine aq aa I (bJ aa aa aa ?_)
  refine aq aa I (bf aa ?_)
  refine aq aa I (bu aa Y ?_)
  refine aq aa I (jr aa aa ?_)
  refine ai (bd aa I aa ?_)
  refine ak 1 aa (bZ (g:=Qw) aa (fun G iv=>?_) (fun G iv=>?_))
  ·refine an aa G (an aa G (an aa G (an aa G (an aa G (an aa G (ai (aW aa G aa ?_)))))))
   exact bn (cg aa aa (aj (af 1 aa (ay (aE aa aa ⟨(dJ 8),aa,ah⟩)))))
  refine aq aa G (bf aa ?_)
  refine aq aa G (bL aa ?_)
  refine aq aa G (bJ aa aa aa ?_)
  obtain⟨sB,lv,lQ⟩:=bR XU hry9_0
  obtain⟨yl,_,rfl,o8,lQ⟩:=b0 lQ
  obtain rfl:=dy lQ
  refine aq aa G (bo aa aa Y ae lv aa ?_)
  refine aq aa G (cF aa aa ?_)
  obtain⟨IM,rfl,VZ,V0⟩:=Ty.az o8
  refine aq aa G (en aa aa ?_)
  refine ai (bd aa G aa ?_)
  refine bn (aN aa (fun nj kI=>?_) (fun nj kI=>?_))
  ·exact aj (af 1 aa (ay (aE aa aa ⟨(dJ 8),aa,ah⟩)))
  refine aG (aA (aj (af 1 aa (bj (cb (fun k VE B=>∃(z:Int),(0≤z∧(z≤p∨z=0))∧k=((p:Int) -z).toNat∧aT [(0,.agg [dS hY,.d a1,.d a2,.d a3,.d a4]),(1,.d (dJ bH)),(2,.agg [.d (dJ bA),dS pQ,.d a8,.d (dJ hU),.d (dJ gg),.d Z,.d (dJ J),.d jJ,dS L,.d jK,.d ke,.d kf,.d kg,.d (dJ M),dS O,.d (dJ U)]),(3,.vp 3 0),(5,.vp 5 0),(6,.d i0),(9,.d jk),(10,.d (dJ p)),(11,.vp 11 0),(12,.d (dJ z)),(18,dB ((!EY))),(43,dB ((!decide (bA=3)))),(51,dB (decide (p<(K.length:Int)))),(76,dB (decide (IM=0)))] VE∧aT [(3,.one 40 112 [dS hY,.d a1,.d a2,.d a3,.d a4]),(5,.one 107 264 [.d (dJ bA),dS pQ,.d a8,.d (dJ hU),.d (dJ gg),.d Z,.d (dJ J),.d jJ,dS L,.d jK,.d ke,.d kf,.d kg,.d (dJ M),dS O,.d (dJ U)]),(11,.one 183 16 [.d (dJ XU),.d ES])] B) ?_ (k:=((p:Int) -0).toNat) ⟨0,ae,aa,⟨aa,aa,aa,aa,aa,aa,aa,aa,aa,aa,aa,aa,aa,aa,trivial⟩,⟨aa,aa,aa,trivial⟩⟩)))))
  rintro _ VE B⟨z,jj,rfl,hV,hB⟩
  refine bz _ _ hV hB (aA (aj (af 3 aa (aN aa (fun eE jE=>?_) (fun eE jE=>?_)))))
  ·refine aG (aA (bj (cN (aP 3 aa ?_))))
   obtain⟨CN,wD,oL⟩:=bR z JU
   obtain⟨ZR,x17_1,rfl,I3,hx17_1⟩:=fc oL
   refine aU (bo aa aa E4 ae wD aa ?_)
   refine aP 1 aa (de aa aa (cF aa aa ?_))
   obtain⟨XV,rfl,hzx17_0,kzx17_0⟩:=Ty.az I3
   refine cP 3 aa (aN aa (fun eO ni=>?_) (fun eO ni=>?_))
   ·exact aj (af 1 aa (ay (aE aa aa ⟨(dJ 9),aa,ah⟩)))
   refine aG (aS (ak 1 aa (ai (br aa aa ae ae ?_))))
   exact af 1 aa (⟨((p:Int) -((z+1))).toNat,ae,(z+1),ae,aa,⟨aa,aa,aa,aa,aa,aa,aa,aa,aa,aa,aa,aa,aa,aa,trivial⟩,⟨aa,aa,aa,trivial⟩⟩)
  refine bV (aj (ak 6 aa (ai (aY aa (aV aa) (XT F (aJ ax) eI ae du (au cO ae cK) (au eC ae ef) (au cT ae dc) ah Bu ae EE DY) (fun Al _ zE=>?_)))))
  obtain⟨JH,Zs,rfl,DT,NR⟩:=zE
  refine af 5 aa (aA (aj ?_))
  obtain⟨zy19_1,rfl,hzy19_1,kzy19_1⟩:=Ty.az NR
  refine af 2 aa (aN aa (fun lZ uD=>?_) (fun lZ uD=>?_))
  ·exact aj (af 2 aa (ay (aE aa aa ⟨(dJ zy19_1),aa,ah⟩)))
  refine aG (aj ?_)
  obtain⟨zy19_0,rfl,hzy19_0,kzy19_0⟩:=Ty.az DT
  refine ak 3 aa (bZ (g:=OZ) aa (fun A l7=>?_) (fun A l7=>?_))
  ·refine aq aa A (bf aa ?_)
   refine aq aa A (bf aa ?_)
   refine aq aa A (bL aa ?_)
   refine aq aa A (bJ aa aa aa ?_)
   refine aq aa A (bo aa aa Y ae lv aa ?_)
   refine aq aa A (cF aa aa ?_)
   refine aq aa A (eR aa aa ?_)
   refine ai (aW aa A aa ?_)
   refine bn (aN aa (fun oQ oR=>?_) (fun oQ oR=>?_))
   ·exact aj (af 1 aa (ay (aE aa aa ⟨(dJ 7),aa,ah⟩)))
   refine aG (aS (ak 1 aa (ai (br aa aa ae ae ?_))))
   exact af 1 aa (⟨((K.length:Int) -((p+1))).toNat,ae,(p+1),ae,aa,⟨aa,aa,aa,aa,aa,aa,aa,aa,aa,aa,trivial⟩,⟨aa,aa,trivial⟩⟩)
  refine an aa A (an aa A (an aa A (an aa A (an aa A (an aa A (an aa A (ai (bd aa A aa ?_))))))))
  refine bn (cH aa aa (aG (aS (ak 1 aa (ai (br aa aa ae ae ?_))))))
  exact af 1 aa (⟨((K.length:Int) -((p+1))).toNat,ae,(p+1),ae,aa,⟨aa,aa,aa,aa,aa,aa,aa,aa,aa,aa,trivial⟩,⟨aa,aa,trivial⟩⟩)
 exact bV (aj (af 1 aa (ay (aE aa aa ⟨i0,aa,ah⟩))))
end Go.Ev.Rp
namespace Go.Ev.Rp
open Go Go.Ev.Pp
theorem ExpandC{T:bC}(F:FT T){a0 a1 a2 a3:DC}(cV:tJ.ok a0)(da:tJ.ok a1){L:List (List DC)}(M:aR L a2)(et:L.length≤13)(cK:aH mo L){e5:List (List DC)}(U:aR e5 a3)(iS:e5.length≤1000000000)(ef:aH ee e5){bc:Int}(pL: -9223372036854775808≤bc)(pM:bc≤9223372036854775807):Sound T 118 [.agg [.d a0,.d a1,.d a2],.d a3,.d (dJ bc)] fun r=>∃(y0:DC)(cQ:List (List DC))(y2:DC),r= .tuple [.d y0,.d y2]∧aR cQ y0∧(cQ.length:Int)≤12∧aH ee cQ∧tJ.ok y2:=by
 refine ch F.q118 aa ?_
 obtain⟨aQ,rfl,iF,hJ⟩:=Ty.az cV
 obtain⟨aB,rfl,eS,eT⟩:=Ty.az da
 refine aj (af 3 aa (aA (aj (ak 1 aa (ai (bu aa U ?_))))))
 refine ak 2 aa (ai (bu aa M ?_))
 refine ak 2 aa (bZ (g:=tu) aa (fun h1 g1=>?_) (fun h1 g1=>?_))
 ·refine an aa h1 (an aa h1 (ai (aW aa h1 aa ?_)))
  exact bn (cg aa aa (aj (af 2 aa (ay (aE aa aa ⟨.nil,[],(dJ 1),aa,(.inr ⟨aa,aa⟩),ae,bN,ah⟩)))))
 refine aq aa h1 (bf aa ?_)
 refine aq aa h1 (je aa aa ?_)
 refine ai (bd aa h1 aa ?_)
 refine bn (aN aa (fun h2 g2=>?_) (fun h2 g2=>?_))
 ·exact aj (af 2 aa (ay (aE aa aa ⟨.nil,[],(dJ 1),aa,(.inr ⟨aa,aa⟩),ae,bN,ah⟩)))
 refine aG (aA (aj (af 1 aa (bj ?_))))
 refine cb (fun k VE B=>∃(I:Int),(0≤I∧(I≤(L.length:Int)∨I=0))∧(js I bc L)∧k=((L.length:Int) -I).toNat∧aT [(0,.agg [.d (dJ aQ),.d (dJ aB),.d a2]),(1,.d a3),(2,.d (dJ bc)),(3,.vp 3 0),(6,dN),(7,.d i0),(8,.d (dJ I)),(20,dB (decide (12<bc)))] VE∧aT [(3,.one 135 40 [.d (dJ aQ),.d (dJ aB),.d a2])] B) ?_ (k:=((L.length:Int) -0).toNat) ⟨0,ae,(by first|assumption|exact L2|exact js.step (by assumption) ae (by assumption) rfl ae ae),rfl,⟨rfl,rfl,rfl,rfl,rfl,rfl,rfl,rfl,trivial⟩,⟨rfl,trivial⟩⟩
 rintro _ VE B⟨I,c9,fr,rfl,hV,hB⟩
 refine bz _ _ hV hB (aA (aj (ak 3 aa (ai (bu aa M ?_)))))
 refine af 1 aa (aN aa (fun h3 g3=>?_) (fun h3 g3=>?_))
 ·refine aG (aA (bj (aj (ak 3 aa ?_))))
  obtain⟨r4,eg,eZ⟩:=bR I cK
  obtain⟨jw,mr,oG,rfl,gB,jR,ot⟩:=c4 eZ
  refine ai (bo aa aa M ae eg aa ?_)
  obtain⟨EJ,rfl,rl,rm⟩:=Ty.az gB
  refine ak 4 aa (bZ (g:=yU) aa (fun Y g5=>?_) (fun Y g5=>?_))
  ·refine an aa Y (an aa Y (an aa Y (an aa Y (an aa Y (an aa Y (an aa Y (an aa Y (ai (aW aa Y aa ?_)))))))))
   exact bn (cg aa aa (aj (af 2 aa (ay (aE aa aa ⟨.nil,[],(dJ 1),aa,(.inr ⟨aa,aa⟩),ae,bN,ah⟩)))))
  refine aq aa Y (bL aa ?_)
  refine aq aa Y (bJ aa aa aa ?_)
  refine aq aa Y (bf aa ?_)
  refine aq aa Y (bo aa aa M ae eg aa ?_)
  refine aq aa Y (eL aa ?_)
  refine aq aa Y (cF aa aa ?_)
  refine aq aa Y (bf aa ?_)
  refine aq aa Y (je aa aa ?_)
  refine ai (bd aa Y aa ?_)
  refine bn (aN aa (fun h6 g6=>?_) (fun h6 g6=>?_))
  ·exact aj (af 2 aa (ay (aE aa aa ⟨.nil,[],(dJ 1),aa,(.inr ⟨aa,aa⟩),ae,bN,ah⟩)))
  refine aG (aS (ak 1 aa (ai (br aa aa ae ae ?_))))
  refine af 1 aa ?_
  exact⟨((L.length:Int) -((I+1))).toNat,ae,(I+1),ae,(by first|assumption|exact L2|exact js.step (by assumption) ae (by assumption) rfl ae ae),rfl,⟨rfl,rfl,rfl,rfl,rfl,rfl,rfl,rfl,trivial⟩,⟨rfl,trivial⟩⟩
 refine bV (aj (ak 1 aa (ai (sS aa aa (fun z7 hz7=>?_)))))
 obtain⟨n8,hn8⟩:∃n:Nat,z7=n:=⟨(z7).toNat,(yb ae).symm⟩
 refine ai (Dc (n:=n8) 47 rfl rfl rfl rfl rfl (by rw[←hn8];rfl) (by rw[←hn8];rfl) ae ae (fun w8 nh qS=>?_))
 have oP:aH ee w8:=by subst nh;exact Db (ao ah (ao ah (ao (aJ (s:=[]) aD) bm)))
 refine af 1 aa (aA (aj (af 1 aa (bj (cb (fun k VE B=>∃(p:Int)(O:Nat)(J:List (List DC)),(0≤p∧(p≤(L.length:Int)∨p=0))∧(J.length=O)∧(O=w8.length)∧(aH ee J)∧k=((L.length:Int) -p).toNat∧aT [(0,.agg [.d (dJ aQ),.d (dJ aB),.d a2]),(1,.d a3),(2,.d (dJ bc)),(3,.vp 3 0),(6,dN),(7,.d i0),(8,.d (dJ I)),(9,.bs 47 O 3),(10,.d (dJ p)),(20,dB (decide (12<bc))),(25,dB (decide (I<(L.length:Int))))] VE∧aT [(3,.one 135 40 [.d (dJ aQ),.d (dJ aB),.d a2]),(47,.arr 95 32 3 O J)] B) ?_ (k:=((L.length:Int) -0).toNat) ⟨0,(w8.length),w8,ae,gG,ae,oP,aa,⟨aa,aa,aa,aa,aa,aa,aa,aa,aa,aa,aa,trivial⟩,⟨aa,aa,trivial⟩⟩)))))
 rintro _ VE B⟨p,O,J,jj,rfl,f1_2,K,rfl,hV,hB⟩
 refine bz _ _ hV hB (aA (aj (ak 3 aa (ai (bu aa M ?_)))))
 refine af 1 aa (aN aa (fun h9 g9=>?_) (fun h9 g9=>?_))
 ·refine aG (aA (bj (aA (cN (aP 2 aa ?_)))))
  obtain⟨mA,gL,gM⟩:=bR p ef
  obtain⟨mh,oq,vE,rfl,ko,Z,oh⟩:=c4 gM
  refine aU (bo aa aa U ae gL aa ?_)
  refine de aa aa (eF aa (aX aa) (aX aa) ?_)
  refine bP aa (aY aa (aV aa) (Xz F ko Z oh) (fun pN _ lO=>?_))
  obtain⟨pd,rfl,D1⟩:=lO
  obtain⟨by11_0,rfl⟩:=Ty.bQ D1
  refine aP 2 aa (C7 (g:=Fw) aa (fun G=>?_) (fun G=>?_))
  ·refine bh aa G (bh aa G (bh aa G (bh aa G (ca aa G (bh aa G (bh aa G (dD aa (dD aa (dD aa ?_)))))))))
   refine dD aa (iA aa (dD aa (iA aa (dD aa (dD aa (dD aa (iA aa (dD aa (bh aa G ?_)))))))))
   refine aU (aW aa G aa ?_)
   exact cU (cg aa aa (aj (af 2 aa (ay (aE aa aa ⟨.nil,[],(dJ 7),aa,(.inr ⟨aa,aa⟩),ae,bN,ah⟩)))))
  refine bg aa G (bf aa ?_)
  refine bg aa G (bf aa ?_)
  refine bg aa G (bo aa aa U ae gL aa ?_)
  refine bg aa G (eL aa ?_)
  refine cw aa G aa (cF aa aa ?_)
  obtain⟨A3,rfl,Mo,Mp⟩:=Ty.az ko
  refine bg aa G (eR aa aa ?_)
  refine bg aa G (bf aa ?_)
  refine fA (g:=FB) aa (fun A iv=>?_) (fun A iv=>?_)
  ·refine bg aa A (bf aa ?_)
   refine bg aa A (bf aa ?_)
   refine bg aa A (bo aa aa U ae gL aa ?_)
   refine bg aa A (eL aa ?_)
   refine cw aa A aa (cF aa aa ?_)
   refine bg aa A (bL aa ?_)
   refine cw aa A aa (bJ aa aa aa ?_)
   refine bg aa A (bf aa ?_)
   obtain⟨sB,lv,lQ⟩:=bR p cK
   obtain⟨yl,ET,JG,rfl,o8,xU,A7⟩:=c4 lQ
   refine bg aa A (bo aa aa M ae lv aa ?_)
   refine bg aa A (eL aa ?_)
   refine cw aa A aa (cF aa aa ?_)
   obtain⟨zx14_2,rfl,hzx14_2,kzx14_2⟩:=Ty.az A7
   refine bg aa A (eR aa aa ?_)
   refine bg aa G (aW aa A aa ?_)
   refine aU (bd aa G aa ?_)
   refine cU (aN aa (fun nj kI=>?_) (fun nj kI=>?_))
   ·exact aj (af 2 aa (ay (aE aa aa ⟨.nil,[],(dJ 7),aa,(.inr ⟨aa,aa⟩),ae,bN,ah⟩)))
   refine aG (fB (aP 4 aa (aU (bo aa aa M ae lv aa ?_))))
   refine aP 1 aa (de aa aa (cF aa aa ?_))
   obtain⟨IM,rfl,VZ,V0⟩:=Ty.az o8
   refine aU (eb aa aa ae ae ?_)
   refine aP 2 aa (aU (bo aa aa U ae gL aa ?_))
   refine de aa aa (eF aa (aX aa) (aX aa) ?_)
   have kb:=js.get (n:=bc) lr ae lv rfl
   obtain⟨GN,zs,wz⟩:=cE (z:=(IM-1)) (n:=J.length) ae ae
   obtain⟨CL,tR,zt⟩:=dX wz K
   obtain⟨EO,EP,x16_2,rfl,IJ,NH,hx16_2⟩:=c4 zt
   refine aU (e9 rfl (by rw[←zs];rfl) wz ?_)
   refine oa aa (pU aa aa aa aa aa aa aD aD tR (fun sF hw17 Rq=>?_))
   have RD:aH ee sF:=by rw[hw17];exact hZ K (ao ah (ao Z (ao oh bm)))
   rw[←Rq]
   refine cU (aS (ak 1 aa (ai (br aa aa ae ae ?_))))
   exact af 1 aa (⟨((L.length:Int) -((p+1))).toNat,ae,(p+1),(sF.length),sF,ae,gG,ae,RD,aa,⟨aa,aa,aa,aa,aa,aa,aa,aa,aa,aa,aa,trivial⟩,⟨aa,aa,trivial⟩⟩)
  refine bh aa A (bh aa A (bh aa A (bh aa A (ca aa A (bh aa A (ca aa A (bh aa A (bh aa A (bh aa A ?_)))))))))
  refine ca aa A (bh aa A (bg aa G (bd aa A aa ?_)))
  refine aU (bd aa G aa ?_)
  refine cU (cH aa aa (aG (fB (aP 4 aa ?_))))
  obtain⟨CP,qI,zx⟩:=bR p cK
  obtain⟨PE,BE,ZS,rfl,A5,A6,I4⟩:=c4 zx
  refine aU (bo aa aa M ae qI aa ?_)
  refine aP 1 aa (de aa aa (cF aa aa ?_))
  obtain⟨zx18_0,rfl,V',Wa⟩:=Ty.az A5
  refine aU (eb aa aa ae ae ?_)
  refine aP 2 aa (aU (bo aa aa U ae gL aa ?_))
  refine de aa aa (eF aa (aX aa) (aX aa) ?_)
  have kb:=js.get (n:=bc) lr ae qI rfl
  obtain⟨SG,Gb,Cp⟩:=cE (z:=(zx18_0-1)) (n:=J.length) ae ae
  obtain⟨Al,zI,lR⟩:=dX Cp K
  obtain⟨BL,JJ,x19_2,rfl,DX,XI,hx19_2⟩:=c4 lR
  refine aU (e9 rfl (by rw[←Gb];rfl) Cp ?_)
  refine oa aa (pU aa aa aa aa aa aa aD aD zI (fun lE Gg Cq=>?_))
  have ub:aH ee lE:=by rw[Gg];exact hZ K (ao ah (ao Z (ao oh bm)))
  rw[←Cq]
  refine cU (aS (ak 1 aa (ai (br aa aa ae ae ?_))))
  exact af 1 aa (⟨((L.length:Int) -((p+1))).toNat,ae,(p+1),(lE.length),lE,ae,gG,ae,ub,aa,⟨aa,aa,aa,aa,aa,aa,aa,aa,aa,aa,aa,trivial⟩,⟨aa,aa,trivial⟩⟩)
 exact bV (aj (af 3 aa (ma 6 47 aa aa (fun _=>⟨aa,aa⟩) (ay (aE aa aa ⟨(.sl J),J,i0,aa,(.inl aa),ae,K,ah⟩)))))
theorem Mu{T:bC}(F:FT T){nv:Nat}{a0 a1 a2 a3 a4 a5 a6:DC}(cV:(Ty.s 1000).ok a0){p:List (List DC)}(hma1:1≤p.length)(G:aR p a1)(fS:p.length≤nv)(A:aH eB p)(dE:(Ty.l 200 cl).ok a2)(dk:(Ty.l 4 fu).ok a3)(dg:(Ty.l 4 ez).ok a4){Z:List (List DC)}(I:aR Z a5)(nN:Z.length≤13)(J:aH mo Z)(iX:tJ.ok a6)(my:nv≤99):Sound T 113 [.agg [.d a0,.d a1,.d a2,.d a3,.d a4],.d a5,.d a6] fun r=>∃(y0:DC)(y1:DC)(kH:List (List DC))(y3:DC)(y4:DC)(y5:DC),r= .agg [.d y0,.d y1,.d y3,.d y4,.d y5]∧(Ty.s 1000).ok y0∧aR kH y1∧(kH.length:Int)≤nv+1∧aH eB kH∧(Ty.l 200 cl).ok y3∧(Ty.l 4 fu).ok y4∧(Ty.l 4 ez).ok y5:=by
 refine ch F.q113 aa ?_
 obtain⟨hY,rfl,kD⟩:=Ty.aJ cV
 obtain⟨cu,K,et,L⟩:=Ty.au dE
 obtain⟨e5,M,iS,O⟩:=Ty.au dk
 obtain⟨eU,U,fo,Y⟩:=Ty.au dg
 obtain⟨bA,rfl,Cj,Ck⟩:=Ty.az iX
 refine aj (af 2 aa (aj (ak 2 aa (ai (bu aa G ?_)))))
 refine af 1 aa (aj (ak 2 aa (ai (iK (ys:=p) 14 aa aa aa aa aa (.sD G (el A aa)) aD ae ?_))))
 refine af 1 aa (aA (aj (ak 2 aa (ai (eb aa aa ae ae ?_)))))
 obtain⟨j1,SU,G6⟩:=cE (z:=((p.length:Int) -1)) (n:=((p).length)) ae ae
 obtain⟨r1,pJ,Ah⟩:=dX G6 A
 obtain⟨Q7,Kz,KA,rfl,BD,EK,EL⟩:=c4 Ah
 refine ai (gk rfl (by rw[←SU];rfl) G6 ?_)
 refine ak 2 aa (ai (n6 (rows:=p) aa aa pJ aa ?_))
 obtain⟨zx1_0,rfl,XC,XD⟩:=Ty.az BD
 refine af 2 aa (aN aa (fun h2 g2=>?_) (fun h2 g2=>?_))
 ·refine aS (ak 2 aa (ai (eb aa aa ae ae ?_)))
  refine ak 1 aa ?_
  obtain⟨j3,hj3,Ld⟩:=cE (z:=((p.length:Int) -1)) (n:=((p).length)) ae ae
  obtain⟨r3,fG,gQ⟩:=dX Ld A
  obtain⟨oD,qC,wo,rfl,kt,mM,qp⟩:=c4 gQ
  refine ai (gk rfl (by rw[←hj3];rfl) Ld ?_)
  refine ak 1 aa (jd (mC aa aa aa aa aa aa aD aD fG (fun w4 Sy hl4=>?_)))
  have Sz:aH eB w4:=by rw[Sy];exact hZ A (ao kt (ao mM (ao (au I ae J) bm)))
  rw[←hl4]
  exact bn (aj (ak 2 aa (fO 44 14 aa aa (fun _=>⟨aa,aa⟩) (af 1 aa (aj (af 2 aa (ay (aE aa aa ⟨(al hY),(.cS w4),w4,a2,a3,a4,aa,(aJ ax),(.acc _),ae,Sz,(au K ae L),(au M ae O),(au U ae Y)⟩))))))))
 refine aj (ak 2 aa (ai (eb aa aa ae ae ?_)))
 refine ak 1 aa ?_
 obtain⟨j5,Ao,wY⟩:=cE (z:=((p.length:Int) -1)) (n:=((p).length)) ae ae
 obtain⟨r5,iq,jo⟩:=dX wY A
 obtain⟨zn,FZ,Kw,rfl,nI,yn,yp⟩:=c4 jo
 refine ai (gk rfl (by rw[←Ao];rfl) wY ?_)
 refine ak 2 aa (jd (mC aa aa aa aa aa aa aD aD iq (fun w6 hw6 hl6=>?_)))
 have n5:aH eB w6:=by rw[hw6];exact hZ A (ao nI (ao ah (ao yp bm)))
 rw[←hl6]
 refine bn (aS (ak 6 aa (ai (cr (rows:=w6) (ys:=[[(dJ bA),(dJ 1099511627776),a5]]) aa aa aa (.bs (rows:=[[(dJ bA),(dJ 1099511627776),a5]]) aa) aD ae dF dF ?_))))
 exact af 1 aa (aj (ak 2 aa (fO 44 14 aa aa (fun _=>⟨aa,aa⟩) (af 1 aa (aj (af 2 aa (ay (aE aa aa ⟨(al hY),(.cS (w6++[[(dJ bA),(dJ 1099511627776),a5]])),(w6++[[(dJ bA),(dJ 1099511627776),a5]]),a2,a3,a4,aa,(aJ ax),(.acc _),hH,(bS n5 (bX (ao ah (ao ah (ao (au I ae J) bm))))),(au K ae L),(au M ae O),(au U ae Y)⟩))))))))
theorem AddColC{T:bC}(F:FT T){nv:Nat}{a0 a1 a2 a3 a4 a5 a6 a7 a8:DC}(cV:(Ty.s 1000).ok a0){dn:List (List DC)}(z:aR dn a1)(fS:dn.length≤nv)(A:aH eB dn)(dE:(Ty.l 200 cl).ok a2)(dk:(Ty.l 4 fu).ok a3)(dg:(Ty.l 4 ez).ok a4)(dm:tJ.ok a5)(iX:(Ty.s 1000).ok a6)(nf:tJ.ok a7)(ng:tJ.ok a8)(my:nv≤99):Sound T 77 [.agg [.d a0,.d a1,.d a2,.d a3,.d a4],.agg [.d a5,.d a6,.d a7],.d a8] fun r=>∃(y0:DC)(y1:DC)(kH:List (List DC))(y3:DC)(y4:DC)(y5:DC)(y6:DC),r= .tuple [.agg [.d y0,.d y1,.d y3,.d y4,.d y5],.d y6]∧(Ty.s 1000).ok y0∧aR kH y1∧(kH.length:Int)≤nv+1∧aH eB kH∧(Ty.l 200 cl).ok y3∧(Ty.l 4 fu).ok y4∧(Ty.l 4 ez).ok y5∧tJ.ok y6:=by
 refine ch F.q77 aa ?_
 obtain⟨hY,rfl,kD⟩:=Ty.aJ cV
 obtain⟨cu,G,et,I⟩:=Ty.au dE
 obtain⟨e5,J,iS,K⟩:=Ty.au dk
 obtain⟨eU,L,fo,M⟩:=Ty.au dg
 obtain⟨bH,rfl,pC,pD⟩:=Ty.az dm
 obtain⟨nZ,rfl,Q6⟩:=Ty.aJ iX
 obtain⟨bI,rfl,RB,RC⟩:=Ty.az nf
 obtain⟨gr,rfl,aa3,aa4⟩:=Ty.az ng
 refine aj (af 4 aa (aj (ak 2 aa (ai (aY aa (aV aa) (ZM F (aJ ax) z ae A (au G ae I) (au J ae K) (au L ae M) ah) (fun r1 _ dh=>?_))))))
 obtain⟨dV,KG,wE,U,RE,rfl,dY,Fb,O,I5,p,vL⟩:=dh
 refine af 6 aa (aA (bj (aj (af 3 aa (db aa (fun h2=>?_) (fun h2=>?_))))))
 ·exact aj (af 3 aa (ay (aE aa aa ⟨(al []),.nil,[],.nil,.nil,.nil,(dJ 1),aa,(aJ (s:=[]) aD),(.inr ⟨aa,aa⟩),ae,bN,bl,bl,bl,ah⟩)))
 have k2:=vL (by simpa using h2)
 refine aj (ak 2 aa (ai (aY aa (aV aa) (Od F (aJ ax)) (fun r3 _ fv=>?_))))
 obtain⟨iG,rfl,kx⟩:=fv
 obtain⟨EV,rfl⟩:=Ty.bQ kx
 refine af 2 aa (db aa (fun h4=>?_) (fun h4=>?_))
 ·exact aj (af 3 aa (ay (aE aa aa ⟨(al []),.nil,[],.nil,.nil,.nil,(dJ 8),aa,(aJ (s:=[]) aD),(.inr ⟨aa,aa⟩),ae,bN,bl,bl,bl,ah⟩)))
 refine aj (ak 4 aa (bZ (g:=vY) aa (fun h5 g5=>?_) (fun h5 g5=>?_)))
 ·refine an aa h5 (an aa h5 (an aa h5 (ai (aW aa h5 aa ?_))))
  exact af 1 aa (cg aa aa (aj (af 3 aa (ay (aE aa aa ⟨(al []),.nil,[],.nil,.nil,.nil,(dJ 7),aa,(aJ (s:=[]) aD),(.inr ⟨aa,aa⟩),ae,bN,bl,bl,bl,ah⟩)))))
 refine aq aa h5 (bL aa ?_)
 refine aq aa h5 (bJ aa aa aa ?_)
 refine aq aa h5 (je aa aa ?_)
 refine ai (bd aa h5 aa ?_)
 refine af 1 aa (aN aa (fun h6 g6=>?_) (fun h6 g6=>?_))
 ·exact aj (af 3 aa (ay (aE aa aa ⟨(al []),.nil,[],.nil,.nil,.nil,(dJ 7),aa,(aJ (s:=[]) aD),(.inr ⟨aa,aa⟩),ae,bN,bl,bl,bl,ah⟩)))
 refine aj (ak 3 aa (ai (aY aa (aV aa) (NC F dY Fb O ae p (aJ ax)) (fun r7 _ nc=>?_))))
 obtain⟨wu,rfl,rJ⟩:=nc
 refine af 2 aa (aN aa (fun h8 g8=>?_) (fun h8 g8=>?_))
 ·exact aj (af 3 aa (ay (aE aa aa ⟨(al []),.nil,[],.nil,.nil,.nil,(dJ 9),aa,(aJ (s:=[]) aD),(.inr ⟨aa,aa⟩),ae,bN,bl,bl,bl,ah⟩)))
 refine aj (ak 1 aa (ai (aY aa (aV aa) (IX F (aJ ax) z ae A (au G ae I) (au J ae K) (au L ae M)) (fun r9 _ oU=>?_))))
 obtain⟨jk,rfl,⟨ly9_0,uy9_0,kX⟩⟩:=oU
 refine af 2 aa (aN aa (fun gx fV=>?_) (fun gx fV=>?_))
 ·exact aj (af 3 aa (ay (aE aa aa ⟨(al []),.nil,[],.nil,.nil,.nil,(dJ 12),aa,(aJ (s:=[]) aD),(.inr ⟨aa,aa⟩),ae,bN,bl,bl,bl,ah⟩)))
 refine aG (aj (ak 1 aa (ai (aY aa (aV aa) (IX F (aJ ax) z ae A (au G ae I) (au J ae K) (au L ae M)) (fun pN _ lO=>?_)))))
 obtain⟨Y,rfl,⟨ly11_0,uy11_0,D1⟩⟩:=lO
 have kw:=p'.le D1.2 kX.1 ae
 refine ai (br aa aa ae ae ?_)
 refine af 2 aa (cN (aP 3 aa (bP aa (VI.fresh aa (iK (ys:=U) 55 aa aa aa aa aa (.sD O (el p aa)) aD ae ?_)))))
 refine aP 2 aa ?_
 refine bP rfl (cr (rows:=U) (ys:=[[(dJ (Y+1)),(al nZ),(dJ bI)]]) rfl rfl rfl (.bs (rows:=[[(dJ (Y+1)),(al nZ),(dJ bI)]]) rfl) aD ae (fun h=>by rw[h];rfl) (fun h=>by rw[h];rfl) ?_)
 refine aP 1 aa (Mk 58 55 aa aa (fun _=>⟨aa,aa⟩) (bP aa (aY aa (aV aa) (Mu (nv:=nv) F (aJ ax) ae z ae A (au G ae I) (au J ae K) (au L ae M) (.acc _) Bs (bS p (bX (ao ah (ao (aJ ax) (ao ah bm))))) ah ae) (fun nW _ mV=>?_))))
 obtain⟨tf,PW,wy12_1,y12_3,PX,PY,rfl,vn,Z,hny12_1,hry12_1,hy12_3,Oj,Ok⟩:=mV
 exact cP 2 aa (ay (aE aa aa ⟨tf,PW,wy12_1,y12_3,PX,PY,i0,aa,vn,Z,ae,hry12_1,hy12_3,Oj,Ok,ah⟩))
theorem DropColC{T:bC}(F:FT T){nv:Nat}{a0 a1 a2 a3 a4 a5 a6:DC}(cV:(Ty.s 1000).ok a0){dn:List (List DC)}(I:aR dn a1)(fS:dn.length≤nv)(J:aH eB dn)(dE:(Ty.l 200 cl).ok a2)(dk:(Ty.l 4 fu).ok a3)(dg:(Ty.l 4 ez).ok a4)(dm:tJ.ok a5)(iX:tJ.ok a6)(my:nv≤99):Sound T 78 [.agg [.d a0,.d a1,.d a2,.d a3,.d a4],.d a5,.d a6] fun r=>∃(y0:DC)(y1:DC)(kH:List (List DC))(y3:DC)(y4:DC)(y5:DC)(y6:DC),r= .tuple [.agg [.d y0,.d y1,.d y3,.d y4,.d y5],.d y6]∧(Ty.s 1000).ok y0∧aR kH y1∧(kH.length:Int)≤nv+1∧aH eB kH∧(Ty.l 200 cl).ok y3∧(Ty.l 4 fu).ok y4∧(Ty.l 4 ez).ok y5∧tJ.ok y6:=by
 refine ch F.q78 aa ?_
 obtain⟨hY,rfl,kD⟩:=Ty.aJ cV
 obtain⟨cu,L,et,M⟩:=Ty.au dE
 obtain⟨e5,O,iS,U⟩:=Ty.au dk
 obtain⟨eU,Y,fo,Z⟩:=Ty.au dg
 obtain⟨bH,rfl,pC,pD⟩:=Ty.az dm
 obtain⟨bA,rfl,Cj,Ck⟩:=Ty.az iX
 refine aj (af 3 aa (aj (ak 2 aa (ai (aY aa (aV aa) (ZM F (aJ ax) I ae J (au L ae M) (au O ae U) (au Y ae Z) ah) (fun r1 _ dh=>?_))))))
 obtain⟨dV,KG,wE,G,RE,rfl,dY,Fb,p,I5,A,vL⟩:=dh
 refine af 6 aa (aA (aj (af 2 aa (db aa (fun h2=>?_) (fun h2=>?_)))))
 ·exact aj (af 3 aa (ay (aE aa aa ⟨(al []),.nil,[],.nil,.nil,.nil,(dJ 1),aa,(aJ (s:=[]) aD),(.inr ⟨aa,aa⟩),ae,bN,bl,bl,bl,ah⟩)))
 have k2:=vL (by simpa using h2)
 refine aG (aj (ak 2 aa (ai (aY aa (aV aa) (Ky F dY Fb p ae A ah) (fun r3 _ fv=>?_)))))
 obtain⟨iG,rfl,kx⟩:=fv
 refine af 1 aa (aA (aj (af 2 aa (aN aa (fun h4 g4=>?_) (fun h4 g4=>?_)))))
 ·exact aj (af 3 aa (ay (aE aa aa ⟨(al []),.nil,[],.nil,.nil,.nil,(dJ 11),aa,(aJ (s:=[]) aD),(.inr ⟨aa,aa⟩),ae,bN,bl,bl,bl,ah⟩)))
 refine aG (aj (ak 2 aa (ai (bu aa I ?_))))
 refine af 1 aa (aj ?_)
 obtain⟨zy1_0,rfl,XW,ND⟩:=Ty.az dY
 refine ak 6 aa (bZ (g:=ll) aa (fun h5 g5=>?_) (fun h5 g5=>?_))
 ·refine aq aa h5 (bf aa ?_)
  refine aq aa h5 (eH aa aa ?_)
  refine aq aa h5 (bf aa ?_)
  refine bZ (g:=tA) aa (fun K g6=>?_) (fun K g6=>?_)
  ·refine an aa K (an aa K (an aa K (an aa K (an aa K (an aa K (an aa K (an aa K (an aa K (aq aa h5 (aW aa K aa ?_))))))))))
   refine ai (aW aa h5 aa ?_)
   refine af 1 aa (aA (aj (ak 2 aa (ai (bu aa p ?_)))))
   refine ak 2 aa (bZ (g:=tC) aa (fun h7 g7=>?_) (fun h7 g7=>?_))
   ·refine an aa h7 (an aa h7 (an aa h7 (ai (aW aa h7 aa ?_))))
    refine ak 1 aa (an aa aa (ai (aW aa aa aa ?_)))
    exact bn (cg aa aa (aj (af 3 aa (ay (aE aa aa ⟨(al []),.nil,[],.nil,.nil,.nil,(dJ 18),aa,(aJ (s:=[]) aD),(.inr ⟨aa,aa⟩),ae,bN,bl,bl,bl,ah⟩)))))
   refine aq aa h7 (iw aa aa (aX aa) (aX aa) ?_)
   refine aq aa h7 (bf aa ?_)
   refine aq aa h7 (aY aa (aV aa) (PO F (aJ ax) (au I ae J) (au L ae M) (au O ae U) (au Y ae Z) ah) (fun r8 _ lW=>?_))
   obtain⟨qE,rfl,tc⟩:=lW
   refine ai (bd aa h7 aa ?_)
   obtain⟨by8_0,rfl⟩:=Ty.bQ tc
   refine ak 1 aa (e6 (g:=v8) aa (fun h9=>?_) (fun h9=>?_))
   ·refine an aa h9 (ai (aW aa h9 aa ?_))
    exact bn (cg aa aa (aj (af 3 aa (ay (aE aa aa ⟨(al []),.nil,[],.nil,.nil,.nil,(dJ 18),aa,(aJ (s:=[]) aD),(.inr ⟨aa,aa⟩),ae,bN,bl,bl,bl,ah⟩)))))
   refine aq aa h9 (bf aa ?_)
   refine ai (bd aa h9 aa ?_)
   exact bn (cg aa aa (aj (af 3 aa (ay (aE aa aa ⟨(al []),.nil,[],.nil,.nil,.nil,(dJ 18),aa,(aJ (s:=[]) aD),(.inr ⟨aa,aa⟩),ae,bN,bl,bl,bl,ah⟩)))))
  refine aq aa K (bL aa ?_)
  refine aq aa K (bJ aa aa aa ?_)
  refine aq aa K (bf aa ?_)
  refine aq aa K (eb aa aa ae ae ?_)
  obtain⟨mA,gL,gM⟩:=bR ((dn.length:Int) -2) J
  obtain⟨mh,oq,vE,rfl,ko,o6,oh⟩:=c4 gM
  refine aq aa K (bo aa aa I ae gL aa ?_)
  refine aq aa K (eF aa (aX aa) (aX aa) ?_)
  refine aq aa K (bf aa ?_)
  obtain⟨wx10_2,Mv,hnx10_2,Mw⟩:=Ty.au oh
  refine aq aa K (aY aa (aV aa) (Ky F ko o6 Mv ae Mw ah) (fun pN _ lO=>?_))
  obtain⟨pd,rfl,D1⟩:=lO
  refine aq aa K (eH aa aa ?_)
  refine aq aa h5 (bd aa K aa ?_)
  refine ai (aW aa h5 aa ?_)
  refine af 1 aa (aA (aj (ak 2 aa (ai (bu aa p ?_)))))
  refine ak 2 aa (bZ (g:=tC) aa (fun eM gS=>?_) (fun eM gS=>?_))
  ·refine an aa eM (an aa eM (an aa eM (ai (aW aa eM aa ?_))))
   refine ak 1 aa (an aa aa (ai (aW aa aa aa ?_)))
   exact bn (cg aa aa (aj (af 3 aa (ay (aE aa aa ⟨(al []),.nil,[],.nil,.nil,.nil,(dJ 18),aa,(aJ (s:=[]) aD),(.inr ⟨aa,aa⟩),ae,bN,bl,bl,bl,ah⟩)))))
  refine aq aa eM (iw aa aa (aX aa) (aX aa) ?_)
  refine aq aa eM (bf aa ?_)
  refine aq aa eM (aY aa (aV aa) (PO F (aJ ax) (au I ae J) (au L ae M) (au O ae U) (au Y ae Z) ah) (fun qQ _ oF=>?_))
  obtain⟨rM,rfl,D2⟩:=oF
  refine ai (bd aa eM aa ?_)
  obtain⟨by13_0,rfl⟩:=Ty.bQ D2
  refine ak 1 aa (e6 (g:=v8) aa (fun fw=>?_) (fun fw=>?_))
  ·refine an aa fw (ai (aW aa fw aa ?_))
   exact bn (cg aa aa (aj (af 3 aa (ay (aE aa aa ⟨(al []),.nil,[],.nil,.nil,.nil,(dJ 18),aa,(aJ (s:=[]) aD),(.inr ⟨aa,aa⟩),ae,bN,bl,bl,bl,ah⟩)))))
  refine aq aa fw (bf aa ?_)
  refine ai (bd aa fw aa ?_)
  refine bn (aN aa (fun nj kI=>?_) (fun nj kI=>?_))
  ·exact aj (af 3 aa (ay (aE aa aa ⟨(al []),.nil,[],.nil,.nil,.nil,(dJ 18),aa,(aJ (s:=[]) aD),(.inr ⟨aa,aa⟩),ae,bN,bl,bl,bl,ah⟩)))
  refine aG (cN (aP 4 aa ?_))
  obtain⟨GN,zs,wz⟩:=cE (z:=iG) (n:=G.length+1) ae ae
  refine aU (fI (l:=0) (h:=GN) rfl p A rfl (vC ae) ⟨_,(by rw[←zs];rfl)⟩ rfl ae ae (fun d17 sF Ro Rq oL=>?_))
  refine bP aa (VI.fresh aa (iK (ys:=sF) 69 aa aa aa aa aa (.sD Ro (el oL aa)) aD ae ?_))
  refine aP 3 aa (aU (br aa aa ae ae ?_))
  obtain⟨Ai,zu,zw⟩:=cE (z:=(iG+1)) (n:=G.length+1) ae ae
  refine aU (fI (l:=Ai) (h:=G.length) rfl p A rfl (vC ae) rfl ⟨_,(by rw[←zu];rfl)⟩ ae ae (fun d19 GZ Rn hl19 lR=>?_))
  refine bP aa (cr (rows:=sF) (ys:=GZ) aa aa aa (.sD Rn (el lR aa)) aD ae dF dF ?_)
  refine aP 1 aa (Mk 75 69 aa aa (fun _=>⟨aa,aa⟩) (bP aa (aY aa (aV aa) (Mu (nv:=nv) F (aJ ax) ae I ae J (au L ae M) (au O ae U) (au Y ae Z) (.acc _) Bs (bS oL lR) ah ae) (fun CQ _ F7=>?_))))
  obtain⟨ym,PH,wy20_1,y20_3,y20_4,y20_5,rfl,NS,hdy20_1,hny20_1,hry20_1,hy20_3,hy20_4,hy20_5⟩:=F7
  exact cP 2 aa (ay (aE aa aa ⟨ym,PH,wy20_1,y20_3,y20_4,y20_5,i0,aa,NS,hdy20_1,ae,hry20_1,hy20_3,hy20_4,hy20_5,ah⟩))
 refine an aa h5 (an aa h5 (an aa h5 (bG aa (bG aa (bG aa (bG aa (bG aa (bG aa (bG aa ?_)))))))))
 refine bG aa (bG aa (an aa h5 (ai (bd aa h5 aa ?_))))
 refine af 1 aa (aA (aj (ak 2 aa (ai (bu aa p ?_)))))
 refine ak 2 aa (bZ (g:=tC) aa (fun gw l7=>?_) (fun gw l7=>?_))
 ·refine an aa gw (an aa gw (an aa gw (ai (aW aa gw aa ?_))))
  refine ak 1 aa (an aa aa (ai (aW aa aa aa ?_)))
  exact bn (cg aa aa (aj (af 3 aa (ay (aE aa aa ⟨(al []),.nil,[],.nil,.nil,.nil,(dJ 18),aa,(aJ (s:=[]) aD),(.inr ⟨aa,aa⟩),ae,bN,bl,bl,bl,ah⟩)))))
 refine aq aa gw (iw aa aa (aX aa) (aX aa) ?_)
 refine aq aa gw (bf aa ?_)
 refine aq aa gw (aY aa (aV aa) (PO F (aJ ax) (au I ae J) (au L ae M) (au O ae U) (au Y ae Z) ah) (fun CT _ tY=>?_))
 obtain⟨JP,rfl,IU⟩:=tY
 refine ai (bd aa gw aa ?_)
 obtain⟨by22_0,rfl⟩:=Ty.bQ IU
 refine ak 1 aa (e6 (g:=v8) aa (fun fU=>?_) (fun fU=>?_))
 ·refine an aa fU (ai (aW aa fU aa ?_))
  exact bn (cg aa aa (aj (af 3 aa (ay (aE aa aa ⟨(al []),.nil,[],.nil,.nil,.nil,(dJ 18),aa,(aJ (s:=[]) aD),(.inr ⟨aa,aa⟩),ae,bN,bl,bl,bl,ah⟩)))))
 refine aq aa fU (bf aa ?_)
 refine ai (bd aa fU aa ?_)
 refine bn (cH aa aa (aG (cN (aP 4 aa ?_))))
 obtain⟨j24,hj24,kj24⟩:=cE (z:=iG) (n:=G.length+1) ae ae
 refine aU (fI (l:=0) (h:=j24) rfl p A rfl (vC ae) ⟨_,(by rw[←hj24];rfl)⟩ rfl ae ae (fun d25 w25 hd25 hl25 Cu=>?_))
 refine bP aa (VI.fresh aa (iK (ys:=w25) 69 aa aa aa aa aa (.sD hd25 (el Cu aa)) aD ae ?_))
 refine aP 3 aa (aU (br aa aa ae ae ?_))
 obtain⟨Lf,RF,abJ⟩:=cE (z:=(iG+1)) (n:=G.length+1) ae ae
 refine aU (fI (l:=Lf) (h:=G.length) rfl p A rfl (vC ae) rfl ⟨_,(by rw[←RF];rfl)⟩ ae ae (fun d27 w27 hd27 hl27 KH=>?_))
 refine bP aa (cr (rows:=w25) (ys:=w27) aa aa aa (.sD hd27 (el KH aa)) aD ae dF dF ?_)
 refine aP 1 aa (Mk 75 69 aa aa (fun _=>⟨aa,aa⟩) (bP aa (aY aa (aV aa) (Mu (nv:=nv) F (aJ ax) ae I ae J (au L ae M) (au O ae U) (au Y ae Z) (.acc _) Bs (bS Cu KH) ah ae) (fun GQ _ tW=>?_))))
 obtain⟨BH,PM,wy28_1,y28_3,y28_4,y28_5,rfl,xR,hdy28_1,hny28_1,hry28_1,hy28_3,hy28_4,hy28_5⟩:=tW
 exact cP 2 aa (ay (aE aa aa ⟨BH,PM,wy28_1,y28_3,y28_4,y28_5,i0,aa,xR,hdy28_1,ae,hry28_1,hy28_3,hy28_4,hy28_5,ah⟩))
end Go.Ev.Rp
