/- Part 25 of rules for walks through the code of a program, and of such walks; what each part proves is said by its theorems. -/
import Derived.Test.YtdgcofocbhbjcaaGreatS24
set_option linter.unusedVariables false
set_option linter.unusedSimpArgs false
noncomputable section
set_option maxRecDepth 100000
set_option maxHeartbeats 4000000
namespace Go.Ev.Rp
open Go Go.Ev.Pp
theorem Z2{n m:Nat}{row:List Ty}{d:DC}(h:(Ty.l n row).ok d)(k:n≤m):(Ty.l m row).ok d:=by
 obtain⟨w,a,b,c⟩:=Ty.au h
 exact au a (fY b k) c
def uL:Nat→Nat
 |0=>4096
 |n+1=>4*uL n+1
theorem mvI_s{z:Int}(h:0≤z):uL (z+1).toNat=4*uL z.toNat+1:=by rw[show(z+1).toNat=z.toNat+1 by omega];rfl
theorem mvI_lt{z:Int}(h0:0≤z)(h:z<2):uL z.toNat≤24000:=by
 rcases(by omega:z=0∨z=1) with rfl|rfl<;>decide
theorem mvI_le{z:Int}(h0:0≤z)(h:z≤2):uL z.toNat≤100000:=by
 rcases(by omega:z=0∨z=1∨z=2) with rfl|rfl|rfl<;>decide
theorem mvI_0:uL (0:Int).toNat=4096:=rfl
theorem TY{R:List Ty}{w:List (List DC)}:aH R (w.take (0:Int).toNat):=fun r h=>by simp at h
theorem TZ{R:List Ty}{w:List (List DC)}{z:Int}{r:List DC}(h:aH R (w.take z.toNat))(h0:0≤z)(p:w[z.toNat]?=some r)(A:fF R r):aH R (w.take (z+1).toNat):=by
 rw[show(z+1).toNat=z.toNat+1 by omega,qh,p]
 exact bS h (bX A)
theorem okRs_takeA{R:List Ty}{w:List (List DC)}{z:Int}(h:aH R (w.take z.toNat))(p:(w.length:Int)≤z):aH R w:=by rwa [rN ax] at h
theorem StepN{T:bC}(F:FT T){nv mv:Nat}{a0 a1 a2 a3 a4 a5 a6 a7 a8 a9 kL pT oW jJ oX jK ke kf kg sH wZ xb:DC}(cV:tJ.ok a0)(da:tJ.ok a1){cu:List (List DC)}(zT:0≤cu.length)(Z:cu=[]→a2= .nil)(A:aR cu a2)(et:cu.length≤16)(O:aH (fJ nv mv) cu)(dk:tJ.ok a3)(dg:(Ty.l 50 fy).ok a4)(dm:(Ty.l 0 iR).ok a5)(iX:tJ.ok a6)(nf:(Ty.s 1000).ok a7)(ng:(Ty.l 1000000000 ee).ok a8)(lY:tJ.ok a9)(pz:tJ.ok kL)(qD:(Ty.l 100 ji).ok pT)(uc:tJ.ok oW)(wv:(Ty.l 10 fK).ok jJ)(zL:(Ty.s 1000).ok oX)(zM:(Ty.l 100 eB).ok jK)(Gi:(Ty.l 200 cl).ok ke)(Gj:(Ty.l 4 fu).ok kf)(Gk:(Ty.l 4 ez).ok kg)(Gl:tJ.ok sH)(Gm:(Ty.s 1000).ok wZ)(Gn:tJ.ok xb)(my:nv≤99)(qR:mv≤24000)(SX:1≤nv):Sound T 45 [.agg [.d a0,.d a1,.d a2,.d a3,.d a4,.d a5],.agg [.d a6,.d a7,.d a8,.d a9,.d kL,.d pT,.d oW,.d jJ,.d oX,.d jK,.d ke,.d kf,.d kg,.d sH,.d wZ,.d xb]] fun r=>∃(y0:DC)(y1:DC)(y2:DC)(eJ:List (List DC))(y4:DC)(y5:DC)(y6:DC)(y7:DC),r= .tuple [.agg [.d y0,.d y1,.d y2,.d y4,.d y5,.d y6],.d y7]∧tJ.ok y0∧tJ.ok y1∧aR eJ y2∧(eJ.length:Int)≤16∧aH (fJ (nv+1) (4*mv+1)) eJ∧0≤(eJ.length:Int)∧(eJ=[]→y2= .nil)∧tJ.ok y4∧(Ty.l 50 fy).ok y5∧(Ty.l 0 iR).ok y6∧tJ.ok y7:=by
 refine ch F.q45 aa ?_
 obtain⟨aQ,rfl,iF,hJ⟩:=Ty.az cV
 obtain⟨aB,rfl,eS,eT⟩:=Ty.az da
 obtain⟨aO,rfl,lM,lN⟩:=Ty.az dk
 obtain⟨eU,cT,fo,dc⟩:=Ty.au dg
 obtain⟨wT,fq,nN,fi⟩:=Ty.au dm
 obtain⟨bA,rfl,Cj,Ck⟩:=Ty.az iX
 obtain⟨pQ,rfl,abE⟩:=Ty.aJ nf
 obtain⟨uw,iT,zo,lL⟩:=Ty.au ng
 obtain⟨hU,rfl,Ku,Kv⟩:=Ty.az lY
 obtain⟨gg,rfl,PR,PT⟩:=Ty.az pz
 obtain⟨abF,Bu,Pt,EE⟩:=Ty.au qD
 obtain⟨KL,rfl,hza12,kza12⟩:=Ty.az uc
 obtain⟨wa13,E4,hna13,JU⟩:=Ty.au wv
 obtain⟨KM,rfl,hsa14⟩:=Ty.aJ zL
 obtain⟨wa15,PU,hna15,PV⟩:=Ty.au zM
 obtain⟨abG,E5,ZO,E6⟩:=Ty.au Gi
 obtain⟨abH,E7,ZP,E8⟩:=Ty.au Gj
 obtain⟨abI,E9,ZQ,Fa⟩:=Ty.au Gk
 obtain⟨KN,rfl,hza19,kza19⟩:=Ty.az Gl
 obtain⟨KO,rfl,hsa20⟩:=Ty.aJ Gm
 obtain⟨KP,rfl,hza21,kza21⟩:=Ty.az Gn
 refine aj (af 4 aa (aA (aj (ak 4 aa (bZ (g:=rT) aa (fun h1 g1=>?_) (fun h1 g1=>?_))))))
 ·refine an aa h1 (an aa h1 (an aa h1 (ai (aW aa h1 aa ?_))))
  exact bn (cg aa aa (aj (af 3 aa (ay (aE aa aa ⟨i0,i0,.nil,[],i0,.nil,.nil,(dJ 1),aa,ah,ah,(.inr ⟨aa,aa⟩),ae,bN,ae,(fun _=>aa),ah,bl,bl,ah⟩)))))
 refine aq aa h1 (bL aa ?_)
 refine aq aa h1 (bJ aa aa aa ?_)
 refine aq aa h1 (je aa aa ?_)
 refine ai (bd aa h1 aa ?_)
 refine bn (aN aa (fun h2 g2=>?_) (fun h2 g2=>?_))
 ·exact aj (af 3 aa (ay (aE aa aa ⟨i0,i0,.nil,[],i0,.nil,.nil,(dJ 1),aa,ah,ah,(.inr ⟨aa,aa⟩),ae,bN,ae,(fun _=>aa),ah,bl,bl,ah⟩)))
 refine aG (aA (aj (af 3 aa (aN aa (fun h3 g3=>?_) (fun h3 g3=>?_)))))
 ·refine aj (ak 3 aa (ai (aY aa (aV aa) (createN (nv:=nv) (mv:=mv) F ah ah ae Z A ae O ah (au cT ae dc) (au fq ae fi) (aJ ax) PU ae PV (au E5 ae E6) (au E7 ae E8) (au E9 ae Fa) ae ae ae) (fun r4 _ eo=>?_))))
  obtain⟨fk,zN,Cv,Fg,Gt,Gu,Gv,RN,rfl,mN,ph,D8,Yj,D9,Yk,D',Fh,Fi,Fj,Fk⟩:=eo
  exact af 4 aa (ay (aE aa aa ⟨fk,zN,Cv,Fg,Gt,Gu,Gv,RN,aa,mN,ph,D8,ae,(pV D9 ae ae),ae,D',Fh,Fi,Fj,Fk⟩))
 refine aG (aj (ak 3 aa (ai (aY aa (aV aa) (JY (nv:=nv) (mv:=mv) F ah ah ae Z A ae O ah (au cT ae dc) (au fq ae fi) (aJ ax) ae ae) (fun r5 _ dL=>?_)))))
 obtain⟨J,rfl,jS⟩:=dL
 refine af 1 aa (aA (aj (af 2 aa (aN aa (fun h6 g6=>?_) (fun h6 g6=>?_)))))
 ·exact aj (af 3 aa (ay (aE aa aa ⟨i0,i0,.nil,[],i0,.nil,.nil,(dJ 8),aa,ah,ah,(.inr ⟨aa,aa⟩),ae,bN,ae,(fun _=>aa),ah,bl,bl,ah⟩)))
 refine aG (aj (ak 3 aa ?_))
 obtain⟨r7,eY,gv⟩:=bR J O
 obtain⟨nP,qF,wx,aa7,aa8,Kx,rfl,ku,mj,nJ,Jy,Jz,BA⟩:=fe gv
 refine ai (bo aa aa A ae eY aa ?_)
 refine af 3 aa (aj (af 1 aa (aA (aj (af 2 aa (bj (aj (af 2 aa (aN aa (fun h8 g8=>?_) (fun h8 g8=>?_))))))))))
 ·refine aS (ak 6 aa (ai (pZ aa aa (fun z9 hz9=>?_))))
  obtain⟨wx7_1,OE,hnx7_1,OF⟩:=Ty.au mj
  refine ai (aY aa (aV aa) (AddColC (nv:=nv) F ku OE ae OF nJ Jy Jz ah (aJ ax) ah ah ae) (fun mA _ oI=>?_))
  obtain⟨vF,By,Yd,J0,J1,J2,y10_6,rfl,xL,Ia,Wp,Ib,OG,OH,OI,hy10_6⟩:=oI
  refine af 6 aa (aA (aj ?_))
  obtain⟨zy10_6,rfl,hzy10_6,kzy10_6⟩:=Ty.az hy10_6
  refine af 2 aa (aN aa (fun ir fT=>?_) (fun ir fT=>?_))
  ·exact aj (af 4 aa (ay (aE aa aa ⟨i0,i0,.nil,[],i0,.nil,.nil,(dJ zy10_6),aa,ah,ah,(.inr ⟨aa,aa⟩),ae,bN,ae,(fun _=>aa),ah,bl,bl,ah⟩)))
  refine aG (aj (ak 3 aa ?_))
  obtain⟨P6,K,OJ,L⟩:=Ty.au BA
  refine ai (aY aa (aV aa) (vP (bA:=J) (nv:=nv) (mv:=mv) (pR:=nv+1) (pS:=4*mv+1) F ah ah ae Z A ae O ah (au cT ae dc) (au fq ae fi) ae ae xL (au Ia ae Ib) OG OH OI (au K ae L) ae ae) (fun nW _ mV=>?_))
  obtain⟨tf,PW,y12_2,wy12_2,PX,PY,y12_6,rfl,vn,hy12_1,hdy12_2,hny12_2,hry12_2,hmy12_2,hey12_2,Oj,Ok,hy12_6⟩:=mV
  exact af 2 aa (ay (aE aa aa ⟨tf,PW,y12_2,wy12_2,PX,PY,y12_6,i0,aa,vn,hy12_1,hdy12_2,ae,hry12_2,ae,hey12_2,Oj,Ok,hy12_6,ah⟩))
 refine aj (af 2 aa (aN aa (fun eD iv=>?_) (fun eD iv=>?_)))
 ·refine aj (ak 7 aa (ai (pZ aa aa (fun z14 KK=>?_))))
  obtain⟨wx7_1,OE,hnx7_1,OF⟩:=Ty.au mj
  refine ai (aY aa (aV aa) (DropColC (nv:=nv) F ku OE ae OF nJ Jy Jz ah ah ae) (fun sw _ oM=>?_))
  obtain⟨vN,P7,wy15_1,Z3,Z4,Z5,y15_6,rfl,vq,Wz,hny15_1,WA,Yl,Ym,Yn,hy15_6⟩:=oM
  refine af 6 aa (aj (af 1 aa (bj ?_)))
  obtain⟨zy15_6,rfl,hzy15_6,kzy15_6⟩:=Ty.az hy15_6
  refine cb (fun k VE B=>∃(U:Int)(G:Int),(-9223372036854775808≤U∧U≤9223372036854775807)∧(0≤G∧(G≤(cu.length:Int)∨G=0))∧k=((cu.length:Int) -G).toNat∧aT [(0,.agg [.d (dJ aQ),.d (dJ aB),.d a2,.d (dJ aO),.d a4,.d a5]),(1,.agg [.d (dJ bA),dS pQ,.d a8,.d (dJ hU),.d (dJ gg),.d pT,.d (dJ KL),.d jJ,dS KM,.d jK,.d ke,.d kf,.d kg,.d (dJ KN),dS KO,.d (dJ KP)]),(2,.vp 2 0),(3,.vp 3 0),(4,.vp 4 0),(5,.d i0),(6,.d (dJ J)),(7,.vp 7 0),(8,.d (dJ U)),(9,.d (dJ G)),(19,dB (decide (6<bA))),(23,dB (decide (bA=4))),(35,dB (decide (J<0))),(43,.d (dJ bA)),(50,dB (decide (bA=5))),(64,dB (decide (bA=6)))] VE∧aT [(2,.one 29 96 [.d (dJ aQ),.d (dJ aB),.d a2,.d (dJ aO),.d a4,.d a5]),(3,.one 107 264 [.d (dJ bA),dS pQ,.d a8,.d (dJ hU),.d (dJ gg),.d pT,.d (dJ KL),.d jJ,dS KM,.d jK,.d ke,.d kf,.d kg,.d (dJ KN),dS KO,.d (dJ KP)]),(4,.one 29 96 [.d i0,.d i0,dN,.d i0,dN,dN]),(7,.one 43 136 [.d vN,.d P7,.d Z3,.d Z4,.d Z5,.d Kx])] B) ?_ (k:=((cu.length:Int) -0).toNat) ⟨zy15_6,0,ae,ae,aa,⟨aa,aa,aa,aa,aa,aa,aa,aa,aa,aa,aa,aa,aa,aa,aa,aa,trivial⟩,⟨aa,aa,aa,aa,trivial⟩⟩
  rintro _ VE B⟨U,G,c9,fr,rfl,hV,hB⟩
  refine bz _ _ hV hB (aA (aj (ak 3 aa (ai (bu aa A ?_)))))
  refine ak 2 aa (bZ (g:=QC) aa (fun eE jE=>?_) (fun eE jE=>?_))
  ·refine aq aa eE (bf aa ?_)
   refine aq aa eE (en aa aa ?_)
   refine ai (aW aa eE aa ?_)
   refine bn (aN aa (fun gR jF=>?_) (fun gR jF=>?_))
   ·refine aG (aA (bj (aj (af 1 aa (bj ?_)))))
    obtain⟨CP,qI,zx⟩:=bR G O
    obtain⟨PE,BE,ZS,x18_3,x18_4,x18_5,rfl,A5,A6,I4,I',Oy,Yg⟩:=fe zx
    obtain⟨z,WB,hnx18_3,hrx18_3⟩:=Ty.au I'
    refine cb (fun k VE B=>∃(Y:Int)(p:Int),(-9223372036854775808≤Y∧Y≤9223372036854775807)∧(0≤p∧(p≤(z.length:Int)∨p=0))∧k=((z.length:Int) -p).toNat∧aT [(0,.agg [.d (dJ aQ),.d (dJ aB),.d a2,.d (dJ aO),.d a4,.d a5]),(1,.agg [.d (dJ bA),dS pQ,.d a8,.d (dJ hU),.d (dJ gg),.d pT,.d (dJ KL),.d jJ,dS KM,.d jK,.d ke,.d kf,.d kg,.d (dJ KN),dS KO,.d (dJ KP)]),(2,.vp 2 0),(3,.vp 3 0),(4,.vp 4 0),(5,.d i0),(6,.d (dJ J)),(7,.vp 7 0),(8,.d (dJ Y)),(9,.d (dJ G)),(10,.d (dJ p)),(19,dB (decide (6<bA))),(23,dB (decide (bA=4))),(35,dB (decide (J<0))),(43,.d (dJ bA)),(50,dB (decide (bA=5))),(64,dB (decide (bA=6))),(87,dB (decide (U=0)))] VE∧aT [(2,.one 29 96 [.d (dJ aQ),.d (dJ aB),.d a2,.d (dJ aO),.d a4,.d a5]),(3,.one 107 264 [.d (dJ bA),dS pQ,.d a8,.d (dJ hU),.d (dJ gg),.d pT,.d (dJ KL),.d jJ,dS KM,.d jK,.d ke,.d kf,.d kg,.d (dJ KN),dS KO,.d (dJ KP)]),(4,.one 29 96 [.d i0,.d i0,dN,.d i0,dN,dN]),(7,.one 43 136 [.d vN,.d P7,.d Z3,.d Z4,.d Z5,.d Kx])] B) ?_ (k:=((z.length:Int) -0).toNat) ⟨U,0,ae,ae,aa,⟨aa,aa,aa,aa,aa,aa,aa,aa,aa,aa,aa,aa,aa,aa,aa,aa,aa,aa,trivial⟩,⟨aa,aa,aa,aa,trivial⟩⟩
    rintro _ VE B⟨Y,p,jj,pw,rfl,hV,hB⟩
    refine bz _ _ hV hB (aA (aj (ak 4 aa (ai (bo aa aa A ae qI aa ?_)))))
    refine ak 3 aa (ai (bu aa WB ?_))
    refine af 1 aa (aN aa (fun uA uC=>?_) (fun uA uC=>?_))
    ·refine aG (aA (bj (aj (ak 3 aa (ai (bo aa aa A ae qI aa ?_))))))
     refine ak 4 aa ?_
     obtain⟨CQ,wA,nQ⟩:=bR p hrx18_3
     obtain⟨PF,Zn,x20_2,rfl,DS,NI,hx20_2⟩:=c4 nQ
     refine ai (bo aa aa WB ae wA aa ?_)
     refine af 3 aa (aj (ak 4 aa (bZ (g:=O2) aa (fun M l7=>?_) (fun M l7=>?_))))
     ·refine aq aa M (bL aa ?_)
      refine aq aa M (bJ aa aa aa ?_)
      refine aq aa M (bL aa ?_)
      refine aq aa M (bJ aa aa aa ?_)
      obtain⟨sx20_1,rfl,hsx20_1⟩:=Ty.aJ NI
      refine aq aa M (uW aa aa ?_)
      refine ai (aW aa M aa ?_)
      refine ak 1 aa (bZ (g:=O4) aa (fun I qU=>?_) (fun I qU=>?_))
      ·refine aq aa I (bL aa ?_)
       refine aq aa I (bJ aa aa aa ?_)
       refine aq aa I (bL aa ?_)
       refine aq aa I (bL aa ?_)
       refine aq aa I (bJ aa aa aa ?_)
       obtain rfl:=Ty.gm hx20_2
       refine aq aa I (aY aa (aV aa) (BB F (.inl aa) ae o5 ah) (fun GO _ zU=>?_))
       obtain⟨JZ,rfl,hy24_0⟩:=zU
       refine ai (aW aa I aa ?_)
       refine bn ?_
       obtain⟨by24_0,rfl⟩:=Ty.bQ hy24_0
       refine db aa (fun iJ=>?_) (fun iJ=>?_)
       ·refine aS (af 1 aa (aS (ak 1 aa (ai (br aa aa ae ae ?_)))))
        exact af 1 aa (⟨((z.length:Int) -((p+1))).toNat,ae,18,(p+1),ae,ae,aa,⟨aa,aa,aa,aa,aa,aa,aa,aa,aa,aa,aa,aa,aa,aa,aa,aa,aa,aa,trivial⟩,⟨aa,aa,aa,aa,trivial⟩⟩)
       refine aG (aS (ak 1 aa (ai (br aa aa ae ae ?_))))
       exact af 1 aa (⟨((z.length:Int) -((p+1))).toNat,ae,Y,(p+1),ae,ae,aa,⟨aa,aa,aa,aa,aa,aa,aa,aa,aa,aa,aa,aa,aa,aa,aa,aa,aa,aa,trivial⟩,⟨aa,aa,aa,aa,trivial⟩⟩)
      refine an aa I (an aa I (an aa I (an aa I (an aa I (an aa I (ai (bd aa I aa ?_)))))))
      refine bn (cH aa aa (aG (aS (ak 1 aa (ai (br aa aa ae ae ?_))))))
      exact af 1 aa (⟨((z.length:Int) -((p+1))).toNat,ae,Y,(p+1),ae,ae,aa,⟨aa,aa,aa,aa,aa,aa,aa,aa,aa,aa,aa,aa,aa,aa,aa,aa,aa,aa,trivial⟩,⟨aa,aa,aa,aa,trivial⟩⟩)
     refine an aa M (an aa M (an aa M (an aa M (an aa M (ai (bd aa M aa ?_))))))
     refine ak 1 aa (an aa aa (an aa aa (an aa aa (an aa aa (an aa aa (an aa aa (ai (bd aa aa aa ?_))))))))
     refine bn (cH aa aa (aG (aS (ak 1 aa (ai (br aa aa ae ae ?_))))))
     exact af 1 aa (⟨((z.length:Int) -((p+1))).toNat,ae,Y,(p+1),ae,ae,aa,⟨aa,aa,aa,aa,aa,aa,aa,aa,aa,aa,aa,aa,aa,aa,aa,aa,aa,aa,trivial⟩,⟨aa,aa,aa,aa,trivial⟩⟩)
    refine bV (aS (ak 1 aa (ai (br aa aa ae ae ?_))))
    exact af 1 aa (⟨((cu.length:Int) -((G+1))).toNat,ae,Y,(G+1),ae,ae,aa,⟨aa,aa,aa,aa,aa,aa,aa,aa,aa,aa,aa,aa,aa,aa,aa,aa,trivial⟩,⟨aa,aa,aa,aa,trivial⟩⟩)
   refine bV (aA (aj (af 2 aa (aN aa (fun S0 S1=>?_) (fun S0 S1=>?_)))))
   ·exact aj (af 4 aa (ay (aE aa aa ⟨i0,i0,.nil,[],i0,.nil,.nil,(dJ U),aa,ah,ah,(.inr ⟨aa,aa⟩),ae,bN,ae,(fun _=>aa),ah,bl,bl,ah⟩)))
   refine aG (aj (ak 3 aa ?_))
   obtain⟨P6,K,OJ,L⟩:=Ty.au BA
   refine ai (aY aa (aV aa) (vP (bA:=J) (nv:=nv) (mv:=mv) (pR:=nv+1) (pS:=4*mv+1) F ah ah ae Z A ae O ah (au cT ae dc) (au fq ae fi) ae ae vq (au Wz ae WA) Yl Ym Yn (au K ae L) ae ae) (fun r27 _ Rf=>?_))
   obtain⟨PJ,PK,PL,wy27_2,y27_4,y27_5,y27_6,rfl,NV,NW,hdy27_2,hny27_2,hry27_2,hmy27_2,hey27_2,hy27_4,hy27_5,hy27_6⟩:=Rf
   exact af 2 aa (ay (aE aa aa ⟨PJ,PK,PL,wy27_2,y27_4,y27_5,y27_6,i0,aa,NV,NW,hdy27_2,ae,hry27_2,ae,hey27_2,hy27_4,hy27_5,hy27_6,ah⟩))
  refine an aa eE (an aa eE (ai (bd aa eE aa ?_)))
  refine bn (cH aa aa (bV (aA (aj (af 2 aa (aN aa (fun G7 G8=>?_) (fun G7 G8=>?_)))))))
  ·exact aj (af 4 aa (ay (aE aa aa ⟨i0,i0,.nil,[],i0,.nil,.nil,(dJ U),aa,ah,ah,(.inr ⟨aa,aa⟩),ae,bN,ae,(fun _=>aa),ah,bl,bl,ah⟩)))
  refine aG (aj (ak 3 aa ?_))
  obtain⟨P6,K,OJ,L⟩:=Ty.au BA
  refine ai (aY aa (aV aa) (vP (bA:=J) (nv:=nv) (mv:=mv) (pR:=nv+1) (pS:=4*mv+1) F ah ah ae Z A ae O ah (au cT ae dc) (au fq ae fi) ae ae vq (au Wz ae WA) Yl Ym Yn (au K ae L) ae ae) (fun G9 _ RL=>?_))
  obtain⟨Z0,y29_1,Z1,wy29_2,y29_4,y29_5,y29_6,rfl,hy29_0,hy29_1,hdy29_2,hny29_2,hry29_2,hmy29_2,hey29_2,hy29_4,hy29_5,hy29_6⟩:=RL
  exact af 2 aa (ay (aE aa aa ⟨Z0,y29_1,Z1,wy29_2,y29_4,y29_5,y29_6,i0,aa,hy29_0,hy29_1,hdy29_2,ae,hry29_2,ae,hey29_2,hy29_4,hy29_5,hy29_6,ah⟩))
 refine aj (ak 3 aa (ai (aY aa (aV aa) (modifyN (bA:=J) (nv:=nv) (mv:=mv) F ah ah ae Z A ae O ah (au cT ae dc) (au fq ae fi) ae ae ah (aJ ax) (au iT ae lL) ah ah (au Bu ae EE) ah (au E4 ae JU) (aJ ax) (au PU ae PV) (au E5 ae E6) (au E7 ae E8) (au E9 ae Fa) ah (aJ ax) ah ae ae) (fun wX _ oK=>?_))))
 obtain⟨jT,mP,y30_2,wy30_2,y30_4,y30_5,y30_6,y30_7,rfl,mb,rz,hdy30_2,hny30_2,hry30_2,hmy30_2,hey30_2,hy30_4,hy30_5,hy30_6,hy30_7⟩:=oK
 exact af 4 aa (ay (aE aa aa ⟨jT,mP,y30_2,wy30_2,y30_4,y30_5,y30_6,y30_7,aa,mb,rz,hdy30_2,ae,(pV hry30_2 ae ae),ae,hey30_2,hy30_4,hy30_5,hy30_6,hy30_7⟩))
theorem CheckN{T:bC}(F:FT T){nv mv:Nat}{a0 a1 a2 a3 a4 a5:DC}(cV:tJ.ok a0)(da:tJ.ok a1){z:List (List DC)}(zT:0≤z.length)(j0:z=[]→a2= .nil)(K:aR z a2)(et:z.length≤16)(cK:aH (fJ nv mv) z)(dk:tJ.ok a3)(dg:(Ty.l 50 fy).ok a4)(dm:(Ty.l 0 iR).ok a5)(my:nv≤99)(qR:mv≤100000):Sound T 46 [.agg [.d a0,.d a1,.d a2,.d a3,.d a4,.d a5]] fun r=>∃y0,r= .d y0∧tJ.ok y0:=by
 refine ch F.q46 aa ?_
 obtain⟨aQ,rfl,iF,hJ⟩:=Ty.az cV
 obtain⟨aB,rfl,eS,eT⟩:=Ty.az da
 obtain⟨aO,rfl,lM,lN⟩:=Ty.az dk
 obtain⟨eU,cT,fo,dc⟩:=Ty.au dg
 obtain⟨wT,fq,nN,fi⟩:=Ty.au dm
 refine aj (af 2 aa (aA (aj (af 1 aa (bj (cb (fun k VE B=>∃(p:Int),(0≤p∧(p≤(z.length:Int)∨p=0))∧k=((z.length:Int) -p).toNat∧aT [(0,.agg [.d (dJ aQ),.d (dJ aB),.d a2,.d (dJ aO),.d a4,.d a5]),(1,.vp 1 0),(2,.d i0),(3,.d (dJ p))] VE∧aT [(1,.one 29 96 [.d (dJ aQ),.d (dJ aB),.d a2,.d (dJ aO),.d a4,.d a5])] B) ?_ (k:=((z.length:Int) -0).toNat) ⟨0,ae,aa,⟨aa,aa,aa,aa,trivial⟩,⟨aa,trivial⟩⟩))))))
 rintro _ VE B⟨p,c9,rfl,hV,hB⟩
 refine bz _ _ hV hB (aA (aj (ak 3 aa (ai (bu aa K ?_)))))
 refine af 1 aa (aN aa (fun h1 g1=>?_) (fun h1 g1=>?_))
 ·refine aG (aA (bj (aj (ak 3 aa ?_))))
  obtain⟨r2,dj,dA⟩:=bR p cK
  obtain⟨fR,fh,gn,lu,oE,se,rfl,ig,ij,iP,gC,kr,ov⟩:=fe dA
  refine ai (bo aa aa K ae dj aa ?_)
  refine af 3 aa (cN ?_)
  obtain⟨wx2_2,Z,IF,IG⟩:=Ty.au iP
  refine aP 3 aa (aU (bu aa Z ?_))
  refine aP 2 aa (fA (g:=vZ) aa (fun Y g3=>?_) (fun Y g3=>?_))
  ·refine cw aa Y aa (iw aa aa (aX aa) (aX aa) ?_)
   obtain⟨ED,Nt,DN,Nu⟩:=Ty.au ij
   obtain⟨yt,hdx2_5,Nr,Ns⟩:=Ty.au ov
   refine cw aa Y aa (aY aa (aV aa) (EZ F ig (au Nt ae Nu) (au Z ae IG) gC kr hdx2_5 ae Ns) (fun r4 _ eo=>?_))
   obtain⟨fk,rI,rfl,A1,xO,oj,A2,DW⟩:=eo
   refine bg aa Y (bL aa ?_)
   refine bg aa Y (bL aa ?_)
   refine cw aa Y aa (bJ aa aa aa ?_)
   refine cw aa Y aa (aY aa (aV aa) (AG F Z ae IG) (fun r5 _ dL=>?_))
   obtain⟨il,mO,rfl,ry,vk,qe,vl,ru⟩:=dL
   refine cw aa Y aa (aY aa (aV aa) (Wo F A1 ae oj ry ae qe) (fun r6 _ iW=>?_))
   obtain⟨oH,JO,rfl,hdy6_0,Oc,Ow⟩:=iW
   refine bg aa Y (bu aa hdy6_0 ?_)
   refine bg aa Y (je aa aa ?_)
   refine aU (aW aa Y aa ?_)
   refine cU (aN aa (fun h7 g7=>?_) (fun h7 g7=>?_))
   ·exact aj (af 1 aa (ay (aE aa aa ⟨(dJ 15),aa,ah⟩)))
   refine aG (aS (ak 1 aa (ai (br aa aa ae ae ?_))))
   exact af 1 aa (⟨((z.length:Int) -((p+1))).toNat,ae,(p+1),ae,aa,⟨aa,aa,aa,aa,trivial⟩,⟨aa,trivial⟩⟩)
  refine ca aa Y (ca aa Y (bh aa Y (bh aa Y (ca aa Y (ca aa Y (ca aa Y (bh aa Y (bh aa Y (aU (bd aa Y aa ?_))))))))))
  refine cU (cH aa aa (aG (aS (ak 1 aa (ai (br aa aa ae ae ?_))))))
  exact af 1 aa (⟨((z.length:Int) -((p+1))).toNat,ae,(p+1),ae,aa,⟨aa,aa,aa,aa,trivial⟩,⟨aa,trivial⟩⟩)
 refine bV (aA (aj (af 1 aa (bj (cb (fun k VE B=>∃(A:Int),(0≤A∧(A≤(z.length:Int)∨A=0))∧k=((z.length:Int) -A).toNat∧aT [(0,.agg [.d (dJ aQ),.d (dJ aB),.d a2,.d (dJ aO),.d a4,.d a5]),(1,.vp 1 0),(2,.d i0),(3,.d (dJ p)),(5,.d (dJ A)),(19,dB (decide (p<(z.length:Int))))] VE∧aT [(1,.one 29 96 [.d (dJ aQ),.d (dJ aB),.d a2,.d (dJ aO),.d a4,.d a5])] B) ?_ (k:=((z.length:Int) -0).toNat) ⟨0,ae,aa,⟨aa,aa,aa,aa,aa,aa,trivial⟩,⟨aa,trivial⟩⟩)))))
 rintro _ VE B⟨A,jj,rfl,hV,hB⟩
 refine bz _ _ hV hB (aA (aj (ak 3 aa (ai (bu aa K ?_)))))
 refine af 1 aa (aN aa (fun h8 g8=>?_) (fun h8 g8=>?_))
 ·refine aG (aA (bj (aj (ak 3 aa ?_))))
  obtain⟨r9,iI,lX⟩:=bR A cK
  obtain⟨tS,wt,zm,Ry,Rz,RA,rfl,nH,ou,qo,JR,JS,JT⟩:=fe lX
  refine ai (bo aa aa K ae iI aa ?_)
  refine af 3 aa (aj (af 1 aa (bj ?_)))
  obtain⟨O,L,hnx9_3,OK⟩:=Ty.au JR
  refine cb (fun k VE B=>∃(J:Int),(0≤J∧(J≤(O.length:Int)∨J=0))∧k=((O.length:Int) -J).toNat∧aT [(0,.agg [.d (dJ aQ),.d (dJ aB),.d a2,.d (dJ aO),.d a4,.d a5]),(1,.vp 1 0),(2,.d i0),(3,.d (dJ p)),(5,.d (dJ A)),(6,.vp 6 0),(7,.d (dJ J)),(19,dB (decide (p<(z.length:Int)))),(47,dB (decide (A<(z.length:Int))))] VE∧aT [(1,.one 29 96 [.d (dJ aQ),.d (dJ aB),.d a2,.d (dJ aO),.d a4,.d a5]),(6,.one 43 136 [.d tS,.d wt,.d zm,.d Ry,.d Rz,.d RA])] B) ?_ (k:=((O.length:Int) -0).toNat) ⟨0,ae,aa,⟨aa,aa,aa,aa,aa,aa,aa,aa,aa,trivial⟩,⟨aa,aa,trivial⟩⟩
  rintro _ VE B⟨J,wq,rfl,hV,hB⟩
  refine bz _ _ hV hB (aA (aj (ak 4 aa (ai (bu aa L ?_)))))
  refine af 1 aa (aN aa (fun gx fV=>?_) (fun gx fV=>?_))
  ·refine aG (aA (bj (aj (ak 4 aa ?_))))
   obtain⟨pN,zB,zD⟩:=bR J OK
   obtain⟨PG,ES,x11_2,rfl,xS,DY,IW⟩:=c4 zD
   refine ai (bo aa aa L ae zB aa ?_)
   refine af 3 aa (aj (af 1 aa (aA (aj (ak 3 aa (ai (aY aa (aV aa) (JY (nv:=nv) (mv:=mv) F ah ah ae j0 K ae cK ah (au cT ae dc) (au fq ae fi) DY ae ae) (fun nW _ mV=>?_))))))))
   obtain⟨tf,rfl,vn⟩:=mV
   refine af 1 aa (aj (af 2 aa (aN aa (fun eD iv=>?_) (fun eD iv=>?_))))
   ·refine aS (ak 3 aa ?_)
    obtain⟨sB,lv,lQ⟩:=bR tf cK
    obtain⟨yl,ET,JG,x14_3,x14_4,x14_5,rfl,o8,xU,A7,hx14_3,hx14_4,hx14_5⟩:=fe lQ
    refine ai (bo aa aa K ae lv aa ?_)
    refine ak 1 aa ?_
    obtain⟨wx14_1,hdx14_1,hnx14_1,hrx14_1⟩:=Ty.au xU
    obtain⟨wx14_5,hdx14_5,hnx14_5,hrx14_5⟩:=Ty.au hx14_5
    refine ai (aY aa (aV aa) (EZ F o8 (au hdx14_1 ae hrx14_1) A7 hx14_3 hx14_4 hdx14_5 ae hrx14_5) (fun sw _ oM=>?_))
    obtain⟨vN,wy15_0,rfl,Ie,hny15_0,MK,hmy15_0,hey15_0⟩:=oM
    refine af 1 aa (cN (aP 1 aa ?_))
    obtain⟨wx9_1,OL,hnx9_1,OM⟩:=Ty.au ou
    obtain⟨wx9_5,ON,hnx9_5,OO⟩:=Ty.au JT
    refine bP aa (aY aa (aV aa) (EZ F nH (au OL ae OM) qo (au L ae OK) JS ON ae OO) (fun CL _ Ge=>?_))
    obtain⟨y16_0,wy16_0,rfl,hdy16_0,hny16_0,hry16_0,hmy16_0,hey16_0⟩:=Ge
    refine aP 3 aa ?_
    obtain rfl:=Ty.gm xS
    refine bP aa (aY aa (aV aa) (AG F (.inl aa) ae o5) (fun CN _ zl=>?_))
    obtain⟨ZJ,wy17_0,rfl,hdy17_0,hny17_0,hry17_0,hmy17_0,hey17_0⟩:=zl
    refine aP 2 aa ?_
    obtain rfl:=Ty.gm IW
    refine bP aa (aY aa (aV aa) (AG F (.inl aa) ae o5) (fun CP _ F6=>?_))
    obtain⟨Zr,wy18_0,rfl,hdy18_0,hny18_0,hry18_0,hmy18_0,hey18_0⟩:=F6
    refine bP aa (aY aa (aV aa) (X9 F hdy16_0 ae hry16_0 Ie ae MK hdy17_0 ae hry17_0 hdy18_0 ae hry18_0) (fun Al _ zE=>?_))
    obtain⟨JH,wy19_0,rfl,hdy19_0,hny19_0,hry19_0⟩:=zE
    refine aU (bu aa hdy19_0 ?_)
    refine cP 1 aa (aN aa (fun lZ uD=>?_) (fun lZ uD=>?_))
    ·exact aj (af 1 aa (ay (aE aa aa ⟨(dJ 16),aa,ah⟩)))
    refine aG (aS (ak 1 aa (ai (br aa aa ae ae ?_))))
    exact af 1 aa (⟨((O.length:Int) -((J+1))).toNat,ae,(J+1),ae,aa,⟨aa,aa,aa,aa,aa,aa,aa,aa,aa,trivial⟩,⟨aa,aa,trivial⟩⟩)
   refine aG (cN (aP 1 aa ?_))
   obtain⟨wx9_1,OL,hnx9_1,OM⟩:=Ty.au ou
   obtain⟨wx9_5,ON,hnx9_5,OO⟩:=Ty.au JT
   refine bP aa (aY aa (aV aa) (EZ F nH (au OL ae OM) qo (au L ae OK) JS ON ae OO) (fun CR _ F8=>?_))
   obtain⟨JI,wy21_0,rfl,hdy21_0,hny21_0,hry21_0,hmy21_0,hey21_0⟩:=F8
   refine aP 3 aa ?_
   obtain rfl:=Ty.gm xS
   refine bP aa (aY aa (aV aa) (AG F (.inl aa) ae o5) (fun CT _ tY=>?_))
   obtain⟨JP,wy22_0,rfl,Mx,hny22_0,My,hmy22_0,hey22_0⟩:=tY
   refine aP 2 aa ?_
   obtain rfl:=Ty.gm IW
   refine bP aa (aY aa (aV aa) (AG F (.inl aa) ae o5) (fun CS _ tX=>?_))
   obtain⟨BM,I0,rfl,xz,Mt,xA,V8,V9⟩:=tX
   refine bP aa (aY aa (aV aa) (X9 F hdy21_0 ae hry21_0 (.inr ⟨aa,aa⟩) ae bN Mx ae My xz ae xA) (fun GO _ zU=>?_))
   obtain⟨JZ,Yh,rfl,AN,Wt,Ic⟩:=zU
   refine aU (bu aa AN ?_)
   refine cP 1 aa (aN aa (fun iJ qV=>?_) (fun iJ qV=>?_))
   ·exact aj (af 1 aa (ay (aE aa aa ⟨(dJ 16),aa,ah⟩)))
   refine aG (aS (ak 1 aa (ai (br aa aa ae ae ?_))))
   exact af 1 aa (⟨((O.length:Int) -((J+1))).toNat,ae,(J+1),ae,aa,⟨aa,aa,aa,aa,aa,aa,aa,aa,aa,trivial⟩,⟨aa,aa,trivial⟩⟩)
  refine bV (aS (ak 1 aa (ai (br aa aa ae ae ?_))))
  exact af 1 aa (⟨((z.length:Int) -((A+1))).toNat,ae,(A+1),ae,aa,⟨aa,aa,aa,aa,aa,aa,trivial⟩,⟨aa,trivial⟩⟩)
 refine bV (aA (aj (af 1 aa (bj (cb (fun k VE B=>∃(G:Int),(0≤G∧(G≤(z.length:Int)∨G=0))∧k=((z.length:Int) -G).toNat∧aT [(0,.agg [.d (dJ aQ),.d (dJ aB),.d a2,.d (dJ aO),.d a4,.d a5]),(1,.vp 1 0),(2,.d i0),(3,.d (dJ p)),(5,.d (dJ A)),(11,.d (dJ G)),(19,dB (decide (p<(z.length:Int)))),(47,dB (decide (A<(z.length:Int))))] VE∧aT [(1,.one 29 96 [.d (dJ aQ),.d (dJ aB),.d a2,.d (dJ aO),.d a4,.d a5])] B) ?_ (k:=((z.length:Int) -0).toNat) ⟨0,ae,aa,⟨aa,aa,aa,aa,aa,aa,aa,aa,trivial⟩,⟨aa,trivial⟩⟩)))))
 rintro _ VE B⟨G,aby,rfl,hV,hB⟩
 refine bz _ _ hV hB (aA (aj (ak 3 aa (ai (bu aa K ?_)))))
 refine af 1 aa (aN aa (fun S0 S1=>?_) (fun S0 S1=>?_))
 ·refine aG (aA (bj (aj (ak 3 aa ?_))))
  obtain⟨r27,hg27,KH⟩:=bR G cK
  obtain⟨x27_0,x27_1,x27_2,x27_3,x27_4,x27_5,rfl,hx27_0,hx27_1,hx27_2,hx27_3,hx27_4,hx27_5⟩:=fe KH
  refine ai (bo aa aa K ae hg27 aa ?_)
  refine af 3 aa (aj (af 1 aa (bj ?_)))
  obtain⟨M,U,hnx27_4,WC⟩:=Ty.au hx27_4
  refine cb (fun k VE B=>∃(I:Int),(0≤I∧(I≤(M.length:Int)∨I=0))∧k=((M.length:Int) -I).toNat∧aT [(0,.agg [.d (dJ aQ),.d (dJ aB),.d a2,.d (dJ aO),.d a4,.d a5]),(1,.vp 1 0),(2,.d i0),(3,.d (dJ p)),(5,.d (dJ A)),(11,.d (dJ G)),(12,.vp 12 0),(13,.d (dJ I)),(19,dB (decide (p<(z.length:Int)))),(47,dB (decide (A<(z.length:Int)))),(97,dB (decide (G<(z.length:Int))))] VE∧aT [(1,.one 29 96 [.d (dJ aQ),.d (dJ aB),.d a2,.d (dJ aO),.d a4,.d a5]),(12,.one 43 136 [.d x27_0,.d x27_1,.d x27_2,.d x27_3,.d x27_4,.d x27_5])] B) ?_ (k:=((M.length:Int) -0).toNat) ⟨0,ae,aa,⟨aa,aa,aa,aa,aa,aa,aa,aa,aa,aa,aa,trivial⟩,⟨aa,aa,trivial⟩⟩
  rintro _ VE B⟨I,abA,rfl,hV,hB⟩
  refine bz _ _ hV hB (aA (aj (ak 4 aa (ai (bu aa U ?_)))))
  refine af 1 aa (aN aa (fun G7 G8=>?_) (fun G7 G8=>?_))
  ·refine aG (aA (bj (aj (ak 4 aa ?_))))
   obtain⟨G9,zQ,ud⟩:=bR I WC
   obtain⟨PZ,vM,rfl,vo,D5⟩:=fc ud
   refine ai (bo aa aa U ae zQ aa ?_)
   refine af 3 aa (cN (aP 1 aa ?_))
   obtain⟨wx27_1,hdx27_1,hnx27_1,hrx27_1⟩:=Ty.au hx27_1
   obtain⟨wx27_5,hdx27_5,hnx27_5,hrx27_5⟩:=Ty.au hx27_5
   refine bP aa (aY aa (aV aa) (EZ F hx27_0 (au hdx27_1 ae hrx27_1) hx27_2 hx27_3 (au U ae WC) hdx27_5 ae hrx27_5) (fun wX _ oK=>?_))
   obtain⟨jT,wy30_0,rfl,Mz,hny30_0,MA,hmy30_0,hey30_0⟩:=oK
   refine aP 4 aa ?_
   obtain⟨X4,Dx,Wh,Dy⟩:=Ty.au D5
   refine bP aa (aY aa (aV aa) (AG F Dx ae Dy) (fun La _ zA=>?_))
   obtain⟨JE,wy31_0,rfl,ML,hny31_0,MM,hmy31_0,hey31_0⟩:=zA
   refine bP aa (aY aa (aV aa) (ConVioC F Mz ae MA vo ML ae MM) (fun Lb _ zF=>?_))
   obtain⟨Zv,wy32_0,rfl,hdy32_0,hny32_0,sU⟩:=zF
   refine aU (bu aa hdy32_0 ?_)
   refine cP 1 aa (aN aa (fun q6 uJ=>?_) (fun q6 uJ=>?_))
   ·exact aj (af 1 aa (ay (aE aa aa ⟨(dJ 17),aa,ah⟩)))
   refine aG (aS (ak 1 aa (ai (br aa aa ae ae ?_))))
   exact af 1 aa (⟨((M.length:Int) -((I+1))).toNat,ae,(I+1),ae,aa,⟨aa,aa,aa,aa,aa,aa,aa,aa,aa,aa,aa,trivial⟩,⟨aa,aa,trivial⟩⟩)
  refine bV (aS (ak 1 aa (ai (br aa aa ae ae ?_))))
  exact af 1 aa (⟨((z.length:Int) -((G+1))).toNat,ae,(G+1),ae,aa,⟨aa,aa,aa,aa,aa,aa,aa,aa,trivial⟩,⟨aa,trivial⟩⟩)
 exact bV (aj (af 1 aa (ay (aE aa aa ⟨i0,aa,ah⟩))))
theorem CommitN{T:bC}(F:FT T){nv:Nat}{a0 a1 a2 a3 a4 a5 a6:DC}(cV:tJ.ok a0)(da:tJ.ok a1){cu:List (List DC)}(zT:0≤cu.length)(j0:cu=[]→a2= .nil)(cO:aR cu a2)(et:cu.length≤16)(cK:aH (fJ nv 4096) cu)(dk:tJ.ok a3)(dg:(Ty.l 50 fy).ok a4)(dm:(Ty.l 0 iR).ok a5){iV:List (List DC)}(tO:aR iV a6)(abD:iV.length≤2)(FY:aH vD iV)(my:nv≤97)(SX:1≤nv):Sound T 22 [.agg [.d a0,.d a1,.d a2,.d a3,.d a4,.d a5],.d a6] fun r=>∃(y0:DC)(y1:DC)(y2:DC)(eJ:List (List DC))(y4:DC)(y5:DC)(y6:DC)(y7:DC),r= .tuple [.agg [.d y0,.d y1,.d y2,.d y4,.d y5,.d y6],.d y7]∧tJ.ok y0∧tJ.ok y1∧aR eJ y2∧(eJ.length:Int)≤16∧aH (fJ (nv+2) 4096) eJ∧0≤(eJ.length:Int)∧(eJ=[]→y2= .nil)∧tJ.ok y4∧(Ty.l 50 fy).ok y5∧(Ty.l 0 iR).ok y6∧tJ.ok y7:=by
 refine ch F.q22 aa ?_
 obtain⟨aQ,rfl,iF,hJ⟩:=Ty.az cV
 obtain⟨aB,rfl,eS,eT⟩:=Ty.az da
 obtain⟨aO,rfl,lM,lN⟩:=Ty.az dk
 obtain⟨eU,cT,fo,dc⟩:=Ty.au dg
 obtain⟨wT,fq,nN,fi⟩:=Ty.au dm
 refine aj (af 3 aa (aA (aj (ak 1 aa ?_))))
 have k0:=mvI_0
 refine ai (bu aa tO ?_)
 refine af 1 aa (aN aa (fun h1 g1=>?_) (fun h1 g1=>?_))
 ·exact aj (af 3 aa (ay (aE aa aa ⟨i0,i0,.nil,[],i0,.nil,.nil,(dJ 4),aa,ah,ah,(.inr ⟨aa,aa⟩),ae,bN,ae,(fun _=>aa),ah,bl,bl,ah⟩)))
 refine aG (aA (aj (af 1 aa (bj (cb (fun k VE B=>∃(A:Int)(Z:DC)(K:DC)(I:DC)(p:List (List DC))(L:DC)(M:DC)(O:DC),(0≤A∧(A≤(iV.length:Int)∨A=0))∧(tJ.ok Z)∧(tJ.ok K)∧(aR p I)∧((p.length:Int)≤16)∧(aH (fJ (nv+A.toNat) (uL A.toNat)) p)∧(p=[]→I= .nil)∧(tJ.ok L)∧((Ty.l 50 fy).ok M)∧((Ty.l 0 iR).ok O)∧k=((iV.length:Int) -A).toNat∧aT [(0,.agg [.d (dJ aQ),.d (dJ aB),.d a2,.d (dJ aO),.d a4,.d a5]),(1,.d a6),(2,.vp 2 0),(4,.vp 4 0),(5,.d i0),(6,.d (dJ A)),(13,dB (decide (200<(iV.length:Int))))] VE∧aT [(2,.one 29 96 [.d Z,.d K,.d I,.d L,.d M,.d O]),(4,.one 29 96 [.d i0,.d i0,dN,.d i0,dN,dN])] B) ?_ (k:=((iV.length:Int) -0).toNat) ⟨0,(dJ aQ),(dJ aB),a2,cu,(dJ aO),a4,a5,ae,ah,ah,cO,ae,(pV cK ae ae),j0,ah,(au cT ae dc),(au fq ae fi),aa,⟨aa,aa,aa,aa,aa,aa,aa,trivial⟩,⟨aa,aa,trivial⟩⟩)))))
 rintro _ VE B⟨A,Z,K,I,p,L,M,O,c9,MN,MO,G,KE,U,Y,MP,MQ,MR,rfl,hV,hB⟩
 refine bz _ _ hV hB (aA (aj (ak 2 aa (ai (bu aa tO ?_)))))
 refine af 1 aa (aN aa (fun h2 g2=>?_) (fun h2 g2=>?_))
 ·refine aG (aA (bj (cN (aP 3 aa ?_))))
  obtain⟨r3,fG,gQ⟩:=bR A FY
  obtain⟨oD,qC,wo,abL,abM,abN,x3_6,x3_7,x3_8,x3_9,x3_10,x3_11,x3_12,x3_13,x3_14,x3_15,rfl,kt,mM,qp,tg,JV,JW,P8,P9,P',Qa,hx3_10,hx3_11,hx3_12,hx3_13,hx3_14,hx3_15⟩:=okR_n16 gQ
  refine aU (bo aa aa tO ae fG aa ?_)
  refine de aa aa (eF aa (aX aa) (aX aa) ?_)
  have km:=mvI_lt (z:=A) ae ae
  have ks:=mvI_s (z:=A) ae
  refine bP aa (aY aa (aV aa) (StepN (nv:=nv+A.toNat) (mv:=uL A.toNat) F MN MO ae Y G ae U MP MQ MR kt mM qp tg JV JW P8 P9 P' Qa hx3_10 hx3_11 hx3_12 hx3_13 hx3_14 hx3_15 ae ae ae) (fun r4 _ eo=>?_))
  obtain⟨fk,zN,Cv,Fg,Gt,Gu,Gv,RN,rfl,mN,ph,D8,Yj,D9,Yk,D',Fh,Fi,Fj,Fk⟩:=eo
  refine cP 6 aa (aA (aj ?_))
  obtain⟨Z6,rfl,hzy4_7,kzy4_7⟩:=Ty.az Fk
  refine af 2 aa (aN aa (fun h5 g5=>?_) (fun h5 g5=>?_))
  ·exact aj (af 4 aa (ay (aE aa aa ⟨i0,i0,.nil,[],i0,.nil,.nil,(dJ Z6),aa,ah,ah,(.inr ⟨aa,aa⟩),ae,bN,ae,(fun _=>aa),ah,bl,bl,ah⟩)))
  refine aG (aS (af 2 aa (aS (ak 1 aa (ai (br aa aa ae ae ?_))))))
  exact af 1 aa (⟨((iV.length:Int) -((A+1))).toNat,ae,(A+1),fk,zN,Cv,Fg,Gt,Gu,Gv,ae,mN,ph,D8,ae,(pV D9 ae ae),D',Fh,Fi,Fj,aa,⟨aa,aa,aa,aa,aa,aa,aa,trivial⟩,⟨aa,aa,trivial⟩⟩)
 refine bV (aA (aj (af 1 aa (bj ?_))))
 refine cb (fun k VE B=>∃(J:Int),(0≤J∧(J≤(p.length:Int)∨J=0))∧(aH (fJ (nv+2) 4096) (p.take J.toNat))∧k=((p.length:Int) -J).toNat∧aT [(0,.agg [.d (dJ aQ),.d (dJ aB),.d a2,.d (dJ aO),.d a4,.d a5]),(1,.d a6),(2,.vp 2 0),(4,.vp 4 0),(5,.d i0),(6,.d (dJ A)),(9,.d (dJ J)),(13,dB (decide (200<(iV.length:Int)))),(18,dB (decide (A<(iV.length:Int))))] VE∧aT [(2,.one 29 96 [.d Z,.d K,.d I,.d L,.d M,.d O]),(4,.one 29 96 [.d i0,.d i0,dN,.d i0,dN,dN])] B) ?_ (k:=((p.length:Int) -0).toNat) ⟨0,ae,(by first|assumption|exact TY|exact TZ (by assumption) ae (by assumption) (ao (by assumption) (ao (Z2 (by assumption) ae) (ao (by assumption) (ao (by assumption) (ao (by assumption) (ao (au (by assumption) ae (by assumption)) bm))))))),rfl,⟨rfl,rfl,rfl,rfl,rfl,rfl,rfl,rfl,rfl,trivial⟩,⟨rfl,rfl,trivial⟩⟩
 rintro _ VE B⟨J,jj,pw,rfl,hV,hB⟩
 refine bz _ _ hV hB (aA (aj (ak 3 aa (ai (bu aa G ?_)))))
 refine af 1 aa (aN aa (fun h6 g6=>?_) (fun h6 g6=>?_))
 ·refine aG (aA (bj (aj (ak 3 aa ?_))))
  obtain⟨r7,eY,gv⟩:=bR J U
  obtain⟨nP,qF,wx,aa7,aa8,Kx,rfl,ku,mj,nJ,Jy,Jz,BA⟩:=fe gv
  refine ai (bo aa aa G ae eY aa ?_)
  obtain⟨P6,hdx7_5,OJ,hrx7_5⟩:=Ty.au BA
  refine ak 2 aa (ai (bu aa hdx7_5 ?_))
  refine af 1 aa (aN aa (fun h8 g8=>?_) (fun h8 g8=>?_))
  ·exact aj (af 3 aa (ay (aE aa aa ⟨i0,i0,.nil,[],i0,.nil,.nil,(dJ 12),aa,ah,ah,(.inr ⟨aa,aa⟩),ae,bN,ae,(fun _=>aa),ah,bl,bl,ah⟩)))
  refine aG (aS (ak 1 aa (ai (br aa aa ae ae ?_))))
  refine af 1 aa ?_
  exact⟨((p.length:Int) -((J+1))).toNat,ae,(J+1),ae,(by first|assumption|exact TY|exact TZ (by assumption) ae (by assumption) (ao (by assumption) (ao (Z2 (by assumption) ae) (ao (by assumption) (ao (by assumption) (ao (by assumption) (ao (au (by assumption) ae (by assumption)) bm))))))),rfl,⟨rfl,rfl,rfl,rfl,rfl,rfl,rfl,rfl,rfl,trivial⟩,⟨rfl,rfl,trivial⟩⟩
 refine bV (aA (aj (ak 1 aa ?_)))
 have kl:=mvI_le (z:=A) ae ae
 refine ai (aY aa (aV aa) (CheckN (nv:=nv+A.toNat) (mv:=uL A.toNat) F MN MO ae Y G ae U MP MQ MR ae ae) (fun r9 _ oU=>?_))
 obtain⟨jk,rfl,kX⟩:=oU
 refine af 1 aa (aj ?_)
 obtain⟨kY,rfl,s0,s7⟩:=Ty.az kX
 refine af 2 aa (aN aa (fun gx fV=>?_) (fun gx fV=>?_))
 ·exact aj (af 4 aa (ay (aE aa aa ⟨i0,i0,.nil,[],i0,.nil,.nil,(dJ kY),aa,ah,ah,(.inr ⟨aa,aa⟩),ae,bN,ae,(fun _=>aa),ah,bl,bl,ah⟩)))
 refine aG (aj ?_)
 obtain⟨zc2_0_0,rfl,hzc2_0_0,kzc2_0_0⟩:=Ty.az MN
 refine ak 2 aa (ai (pZ aa aa (fun z11 RI=>?_)))
 refine af 2 aa (aj ?_)
 skip
 exact af 3 aa (ay (aE aa aa ⟨(dJ z11),K,I,p,L,M,O,i0,aa,ah,MO,G,ae,(okRs_takeA lr ae),ae,Y,MP,MQ,MR,ah⟩))
end Go.Ev.Rp
