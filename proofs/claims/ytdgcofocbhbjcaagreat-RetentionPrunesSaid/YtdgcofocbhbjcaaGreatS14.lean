/- Part 14 of rules for walks through the code of a program, and of such walks; what each part proves is said by its theorems. -/
import Derived.Test.YtdgcofocbhbjcaaGreatS13
set_option linter.unusedVariables false
set_option linter.unusedSimpArgs false
noncomputable section
set_option maxRecDepth 100000
set_option maxHeartbeats 4000000
namespace Go.Ev.Rp
open Go Go.Ev.Pp
theorem IB{T:bC}(F:FT T){U Y:DC}{z:List (List DC)}(A:aR z U)(ed:z.length≤1000000000)(K:aH cl z)(G:aR z Y):Sound T 65 [.d U,.d Y] fun r=>r=dB true:=by
 refine ch F.q65 aa (aj (af 1 aa (aA (aj (ak 1 aa (ai (bu aa A ?_)))))))
 refine ak 1 aa (ai (bu aa G ?_))
 refine af 1 aa (cH aa bx (aG (aA (aj (af 1 aa (bj (cb (fun k VE B=>∃(p:Int),(0≤p∧(p≤(z.length:Int)∨p=0))∧k=((z.length:Int) -p).toNat∧aT [(0,.d U),(1,.d Y),(4,dB false),(5,.d (dJ p)),(10,dB ((!decide ((z.length:Int)=(z.length:Int)))))] VE∧aT [] B) ?_ (k:=((z.length:Int) -0).toNat) ⟨0,ae,aa,⟨aa,aa,aa,aa,aa,trivial⟩,trivial⟩)))))))
 rintro _ VE B⟨p,c9,rfl,hV,hB⟩
 refine bz _ _ hV hB (aA (aj (ak 2 aa (ai (bu aa A ?_)))))
 refine af 1 aa (aN aa (fun h1 g1=>?_) (fun h1 g1=>?_))
 ·refine aG (aA (bj (cN (aP 2 aa ?_))))
  obtain⟨r2,L,I⟩:=bR p K
  obtain⟨fR,_,rfl,J,I⟩:=b0 I
  obtain rfl:=dy I
  refine aU (bo aa aa A ae L aa ?_)
  refine de aa aa (cF aa aa ?_)
  refine aP 2 aa (aU (bo aa aa G ae L aa ?_))
  refine de aa aa (cF aa aa ?_)
  obtain⟨Z,rfl,M,O⟩:=Ty.az J
  refine cP 1 aa (cH aa bx (aG (aS (ak 1 aa (ai (br aa aa ae ae ?_))))))
  exact af 1 aa (⟨((z.length:Int) -((p+1))).toNat,ae,(p+1),ae,aa,⟨aa,aa,aa,aa,aa,trivial⟩,trivial⟩)
 exact bV (aj (af 1 aa (ay (aE aa aa aa))))
theorem compS{T:bC}(F:FT T){p z A:DC}(G:tJ.ok p)(I:tJ.ok z)(J:(Ty.s 1000).ok A):Sound T 105 [.agg [.d p,.d z,.d A],.agg [.d p,.d z,.d A]] fun r=>r= .d i0:=by
 refine ch F.aaV aa ?_
 obtain⟨aQ,rfl,L,M⟩:=Ty.az G
 obtain⟨aB,rfl,O,U⟩:=Ty.az I
 obtain⟨K,rfl,Y⟩:=Ty.aJ J
 refine aj (af 3 aa (aA (bj (aj (ak 6 aa (aq aa bx (bL aa ?_)))))))
 refine aq aa bx (bJ aa aa aa ?_)
 refine aq aa bx (bL aa ?_)
 refine aq aa bx (bJ aa aa aa ?_)
 refine aq aa bx (en aa aa ?_)
 refine aq aa bx (bf aa ?_)
 refine aq aa bx (bL aa ?_)
 refine aq aa bx (bJ aa aa aa ?_)
 refine aq aa bx (bL aa ?_)
 refine aq aa bx (bJ aa aa aa ?_)
 refine aq aa bx (eH aa aa ?_)
 refine aq aa bx (aW aa bx aa ?_)
 refine ai (bd aa bx aa ?_)
 refine ak 1 aa (aq aa bx (bL aa ?_))
 refine aq aa bx (bJ aa aa aa ?_)
 refine aq aa bx (bL aa ?_)
 refine aq aa bx (bJ aa aa aa ?_)
 refine aq aa bx (en aa aa ?_)
 refine aq aa bx (bf aa ?_)
 refine aq aa bx (bL aa ?_)
 refine aq aa bx (bJ aa aa aa ?_)
 refine aq aa bx (bL aa ?_)
 refine aq aa bx (bJ aa aa aa ?_)
 refine aq aa bx (en aa aa ?_)
 refine aq aa bx (aW aa bx aa ?_)
 refine aq aa bx (bf aa ?_)
 refine aq aa bx (bL aa ?_)
 refine aq aa bx (bJ aa aa aa ?_)
 refine aq aa bx (bL aa ?_)
 refine aq aa bx (bJ aa aa aa ?_)
 refine aq aa bx (vi_ltSS aa aa (.inl aa) ?_)
 refine aq aa bx (aW aa bx aa ?_)
 refine ai (bd aa bx aa ?_)
 refine af 1 aa (cH aa aa (aj (ak 2 aa (ai (AL (r:=[(dJ aQ),(dJ aB),(al K)]) aa aa aa ?_)))))
 exact af 1 aa (cg aa aa (aj (af 1 aa (ay (aE aa aa aa)))))
theorem compRS{T:bC}(F:FT T){U Y:DC}{G:List (List DC)}(z:aR G U)(ed:G.length≤1000000000)(M:aH ee G)(A:aR G Y):Sound T 67 [.d U,.d Y] fun r=>r= .d i0:=by
 refine ch F.q67 aa (aj (af 1 aa (aA (aj (af 1 aa (bj (cb (fun k VE B=>∃(p:Int),(0≤p∧(p≤(G.length:Int)∨p=0))∧k=((G.length:Int) -p).toNat∧aT [(0,.d U),(1,.d Y),(4,.d i0),(5,.d (dJ p))] VE∧aT [] B) ?_ (k:=((G.length:Int) -0).toNat) ⟨0,ae,aa,⟨aa,aa,aa,aa,trivial⟩,trivial⟩)))))))
 rintro _ VE B⟨p,c9,rfl,hV,hB⟩
 refine bz _ _ hV hB (aA (aj (ak 2 aa (ai (bu aa z ?_)))))
 refine ak 2 aa (bZ (g:=po) aa (fun I g1=>?_) (fun I g1=>?_))
 ·refine aq aa I (bf aa ?_)
  refine aq aa I (bf aa ?_)
  refine aq aa I (bu aa A ?_)
  refine aq aa I (eH aa aa ?_)
  refine ai (aW aa I aa ?_)
  refine bn (aN aa (fun h2 g2=>?_) (fun h2 g2=>?_))
  ·refine aG (aA (bj (cN (aP 2 aa ?_))))
   obtain⟨r3,O,Z⟩:=bR p M
   obtain⟨oD,qC,wo,rfl,J,K,L⟩:=c4 Z
   refine aU (bo aa aa z ae O aa ?_)
   refine de aa aa (eF aa (aX aa) (aX aa) ?_)
   refine aP 2 aa (aU (bo aa aa A ae O aa ?_))
   refine de aa aa (eF aa (aX aa) (aX aa) ?_)
   refine bP aa (aY aa (aV aa) (compS F J K L) (fun r4 _ eo=>?_))
   obtain rfl:=eo
   refine cP 1 aa (aj (af 2 aa (cH aa bx (aG (aS (ak 1 aa (ai (br aa aa ae ae ?_))))))))
   exact af 1 aa (⟨((G.length:Int) -((p+1))).toNat,ae,(p+1),ae,aa,⟨aa,aa,aa,aa,trivial⟩,trivial⟩)
  refine bV (aA (bj (aj (ak 1 aa (ai (bu aa z ?_))))))
  refine ak 1 aa (ai (bu aa A ?_))
  refine af 2 aa (cH aa bx (aj (ak 1 aa (ai (bu aa z ?_)))))
  refine ak 1 aa (ai (bu aa A ?_))
  exact af 2 aa (cH aa bx (aG (aj (af 1 aa (ay (aE aa aa aa))))))
 refine an aa I (an aa I (an aa I (an aa I (ai (bd aa I aa ?_)))))
 refine bn (cH aa aa (bV (aA (bj (aj (ak 1 aa (ai (bu aa z ?_))))))))
 refine ak 1 aa (ai (bu aa A ?_))
 refine af 2 aa (cH aa bx (aj (ak 1 aa (ai (bu aa z ?_)))))
 refine ak 1 aa (ai (bu aa A ?_))
 exact af 2 aa (cH aa bx (aG (aj (af 1 aa (ay (aE aa aa aa))))))
theorem sameCS{T:bC}(F:FT T){a0 a1:DC}{z:List (List DC)}(A:aR z a0)(ed:z.length≤13)(U:aH mo z)(G:aR z a1):Sound T 104 [.d a0,.d a1] fun r=>r=dB true:=by
 refine ch F.q104 aa (aj (af 1 aa (aA (aj (ak 1 aa (ai (bu aa A ?_)))))))
 refine ak 1 aa (ai (bu aa G ?_))
 refine af 1 aa (cH aa bx (aG (aA (aj (af 1 aa (bj (cb (fun k VE B=>∃(p:Int),(0≤p∧(p≤(z.length:Int)∨p=0))∧k=((z.length:Int) -p).toNat∧aT [(0,.d a0),(1,.d a1),(4,dB false),(5,.d (dJ p)),(10,dB ((!decide ((z.length:Int)=(z.length:Int)))))] VE∧aT [] B) ?_ (k:=((z.length:Int) -0).toNat) ⟨0,ae,aa,⟨aa,aa,aa,aa,aa,trivial⟩,trivial⟩)))))))
 rintro _ VE B⟨p,c9,rfl,hV,hB⟩
 refine bz _ _ hV hB (aA (aj (ak 2 aa (ai (bu aa A ?_)))))
 refine af 1 aa (aN aa (fun h1 g1=>?_) (fun h1 g1=>?_))
 ·refine aG (aA (bj (cN (aP 2 aa ?_))))
  obtain⟨r2,Y,dA⟩:=bR p U
  obtain⟨fR,fh,gn,rfl,I,J,K⟩:=c4 dA
  refine aU (bo aa aa A ae Y aa ?_)
  refine de aa aa (eF aa (aX aa) (aX aa) ?_)
  refine aP 2 aa (aU (bo aa aa G ae Y aa ?_))
  refine de aa aa (eF aa (aX aa) (aX aa) ?_)
  obtain⟨L,rfl,Z,xI⟩:=Ty.az I
  obtain⟨M,rfl,hsx2_1⟩:=Ty.aJ J
  obtain⟨O,rfl,xJ,xK⟩:=Ty.az K
  refine aU (AL (r:=[(dJ L),(al M),(dJ O)]) aa aa aa ?_)
  refine cU (cH aa aa (aG (aS (ak 1 aa (ai (br aa aa ae ae ?_))))))
  exact af 1 aa (⟨((z.length:Int) -((p+1))).toNat,ae,(p+1),ae,aa,⟨aa,aa,aa,aa,aa,trivial⟩,trivial⟩)
 exact bV (aj (af 1 aa (ay (aE aa aa aa))))
theorem sameVS{T:bC}(F:FT T){a0 a1:DC}{z:List (List DC)}(A:aR z a0)(ed:z.length≤100000)(cW:aH gf z)(G:aR z a1):Sound T 34 [.d a0,.d a1] fun r=>r=dB true:=by
 refine ch F.q34 aa (aj (af 1 aa (aA (aj (ak 1 aa (ai (bu aa A ?_)))))))
 refine ak 1 aa (ai (bu aa G ?_))
 refine af 1 aa (cH aa bx (aG (aA (aj (af 1 aa (bj (cb (fun k VE B=>∃(p:Int),(0≤p∧(p≤(z.length:Int)∨p=0))∧k=((z.length:Int) -p).toNat∧aT [(0,.d a0),(1,.d a1),(4,dB false),(5,.d (dJ p)),(10,dB ((!decide ((z.length:Int)=(z.length:Int)))))] VE∧aT [] B) ?_ (k:=((z.length:Int) -0).toNat) ⟨0,ae,aa,⟨aa,aa,aa,aa,aa,trivial⟩,trivial⟩)))))))
 rintro _ VE B⟨p,c9,rfl,hV,hB⟩
 refine bz _ _ hV hB (aA (aj (ak 2 aa (ai (bu aa A ?_)))))
 refine af 1 aa (aN aa (fun h1 g1=>?_) (fun h1 g1=>?_))
 ·refine aG (aA (bj (cN (aP 2 aa ?_))))
  obtain⟨r2,I,dA⟩:=bR p cW
  obtain⟨fR,fh,gn,lu,oE,se,rfl,L,M,O,U,Y,Z⟩:=fe dA
  refine aU (bo aa aa A ae I aa ?_)
  refine aP 1 aa (de aa aa (cF aa aa ?_))
  refine aP 2 aa (aU (bo aa aa G ae I aa ?_))
  refine aP 1 aa (de aa aa (cF aa aa ?_))
  obtain⟨qm,rfl,AZ,xI⟩:=Ty.az L
  refine aP 2 aa (bg aa bx (bf aa ?_))
  refine bg aa bx (bf aa ?_)
  refine bg aa bx (bo aa aa A ae I aa ?_)
  refine bg aa bx (eL aa ?_)
  refine cw aa bx aa (eF aa (aX aa) (aX aa) ?_)
  refine bg aa bx (bf aa ?_)
  refine bg aa bx (bf aa ?_)
  refine bg aa bx (bo aa aa G ae I aa ?_)
  refine bg aa bx (eL aa ?_)
  refine cw aa bx aa (eF aa (aX aa) (aX aa) ?_)
  obtain⟨Pq,rfl,xJ,xK⟩:=Ty.az O
  obtain⟨ye,rfl,Xc,Xd⟩:=Ty.az U
  refine bg aa bx (AL (r:=[(dJ Pq),(dJ ye)]) aa aa aa ?_)
  refine aU (bd aa bx aa ?_)
  refine aP 1 aa (bg aa aa (bf aa ?_))
  refine bg aa aa (bf aa ?_)
  refine bg aa aa (bo aa aa A ae I aa ?_)
  refine bg aa aa (eL aa ?_)
  refine cw aa aa aa (eF aa (aX aa) (aX aa) ?_)
  refine bg aa aa (bf aa ?_)
  refine bg aa aa (bf aa ?_)
  refine bg aa aa (bo aa aa G ae I aa ?_)
  refine bg aa aa (eL aa ?_)
  refine cw aa aa aa (eF aa (aX aa) (aX aa) ?_)
  obtain⟨yf,rfl,Xe,Xf⟩:=Ty.az Y
  obtain⟨Pr,rfl,Nb,Nc⟩:=Ty.az Z
  refine bg aa aa (AL (r:=[(dJ yf),(dJ Pr)]) aa aa aa ?_)
  refine aU (bd aa aa aa ?_)
  refine aP 1 aa (bg aa aa (bf aa ?_))
  refine bg aa aa (bf aa ?_)
  refine bg aa aa (bo aa aa A ae I aa ?_)
  refine bg aa aa (eL aa ?_)
  refine cw aa aa aa (cF aa aa ?_)
  refine bg aa aa (bf aa ?_)
  refine bg aa aa (bf aa ?_)
  refine bg aa aa (bo aa aa G ae I aa ?_)
  refine bg aa aa (eL aa ?_)
  refine cw aa aa aa (cF aa aa ?_)
  obtain⟨ED,J,DN,K⟩:=Ty.au M
  refine cw aa aa aa (aY aa (aV aa) (compRS F J ae K J) (fun r5 _ dL=>?_))
  obtain rfl:=dL
  refine bg aa aa (eR aa aa ?_)
  refine aU (bd aa aa aa ?_)
  refine cU (cH aa bx (aG (aS (ak 1 aa (ai (br aa aa ae ae ?_))))))
  exact af 1 aa (⟨((z.length:Int) -((p+1))).toNat,ae,(p+1),ae,aa,⟨aa,aa,aa,aa,aa,trivial⟩,trivial⟩)
 exact bV (aj (af 1 aa (ay (aE aa aa aa))))
end Go.Ev.Rp
namespace Go.Ev.Rp
open Go Go.Ev.Pp
theorem sameSVS{T:bC}(F:FT T){I J O U:DC}(K:tJ.ok I)(L:tJ.ok J){p:List (List DC)}(z:aR p O)(Y:p.length≤13)(A:aH mo p)(G:aR p U):Sound T 66 [.agg [.d I,.d J,.d O],.agg [.d I,.d J,.d U]] fun r=>r=dB true:=by
 refine ch F.q66 aa ?_
 obtain⟨aQ,rfl,Z,hJ⟩:=Ty.az K
 obtain⟨aB,rfl,eS,eT⟩:=Ty.az L
 refine aj (af 3 aa (aA (aj (ak 4 aa (ai (AL (r:=[(dJ aQ),(dJ aB)]) aa aa aa ?_))))))
 refine bn (cH aa aa (aG (aj (ak 4 aa (ai (aY aa (aV aa) (sameCS F z ae A G) (fun r2 _ M=>?_)))))))
 obtain rfl:=M
 exact af 1 aa (ay (aE aa aa aa))
theorem sameScS{T:bC}(F:FT T){a0 M O U Y a6 Z a8 a9:DC}(cV:(Ty.s 1000).ok a0){J:List (List DC)}(eI:aR J M)(fS:J.length≤100)(du:aH eB J){cu:List (List DC)}(cO:aR cu O)(et:cu.length≤200)(cK:aH cl cu){L:List (List DC)}(eC:aR L U)(iS:L.length≤4)(ef:aH fu L){I:List (List DC)}(cT:aR I Y)(fo:I.length≤4)(dc:aH ez I){iV:List (List DC)}(tO:aR iV a6)(FY:aH eB iV)(QT:fL nG J iV)(Kt:aR cu Z)(iT:aR L a8){K:List (List DC)}(sf:aR K a9)(zj:aH ez K)(QU:fL nD I K):Sound T 33 [.agg [.d a0,.d M,.d O,.d U,.d Y],.agg [.d a0,.d a6,.d Z,.d a8,.d a9]] fun r=>r=dB true:=by
 refine ch F.q33 aa ?_
 obtain⟨p,rfl,kD⟩:=Ty.aJ cV
 have CC:=QT.1
 have Sj:=QU.1
 refine aj (af 3 aa (aA (aj (ak 4 aa (ai (xq aa aa ?_))))))
 refine ak 1 aa (aq aa bx (bL aa ?_))
 refine aq aa bx (bJ aa aa aa ?_)
 refine aq aa bx (bu aa eI ?_)
 refine aq aa bx (bL aa ?_)
 refine aq aa bx (bJ aa aa aa ?_)
 refine aq aa bx (bu aa tO ?_)
 refine aq aa bx (eR aa aa ?_)
 refine ai (bd aa bx aa ?_)
 refine ak 1 aa (bZ (g:=yS) aa (fun h2 g2=>?_) (fun h2 g2=>?_))
 ·refine an aa h2 (an aa h2 (an aa h2 (an aa h2 (an aa h2 (an aa h2 (ai (aW aa h2 aa ?_)))))))
  refine ak 1 aa (an aa aa (an aa aa (an aa aa (an aa aa (an aa aa (an aa aa (an aa aa (ai (aW aa aa aa ?_)))))))))
  refine ak 1 aa (an aa aa (an aa aa (an aa aa (an aa aa (an aa aa (an aa aa (an aa aa (ai (aW aa aa aa ?_)))))))))
  refine bn (cg aa aa (bz [(0,.agg [dS p,.d M,.d O,.d U,.d Y]),(1,.agg [dS p,.d a6,.d Z,.d a8,.d a9]),(2,.vp 2 0),(3,.vp 3 0),(4,dB false),(49,dB true)] [(2,.one 40 112 [dS p,.d M,.d O,.d U,.d Y]),(3,.one 40 112 [dS p,.d a6,.d Z,.d a8,.d a9])] ⟨aa,aa,aa,aa,aa,aa,trivial⟩ ⟨aa,aa,trivial⟩ (aj (af 1 aa (ay ?_)))))
  exfalso;omega
 refine aq aa h2 (bL aa ?_)
 refine aq aa h2 (bJ aa aa aa ?_)
 refine aq aa h2 (bL aa ?_)
 refine aq aa h2 (bJ aa aa aa ?_)
 refine aq aa h2 (aY aa (aV aa) (IB F cO ae cK Kt) (fun r3 _ fv=>?_))
 obtain rfl:=fv
 refine aq aa h2 (eQ aa ?_)
 refine ai (bd aa h2 aa ?_)
 refine ak 1 aa (aq aa aa (bL aa ?_))
 refine aq aa aa (bJ aa aa aa ?_)
 refine aq aa aa (bu aa eC ?_)
 refine aq aa aa (bL aa ?_)
 refine aq aa aa (bJ aa aa aa ?_)
 refine aq aa aa (bu aa iT ?_)
 refine aq aa aa (eR aa aa ?_)
 refine ai (bd aa aa aa ?_)
 refine ak 1 aa (aq aa bx (bL aa ?_))
 refine aq aa bx (bJ aa aa aa ?_)
 refine aq aa bx (bu aa cT ?_)
 refine aq aa bx (bL aa ?_)
 refine aq aa bx (bJ aa aa aa ?_)
 refine aq aa bx (bu aa sf ?_)
 refine aq aa bx (eR aa aa ?_)
 refine ai (bd aa bx aa ?_)
 refine bn (aN aa (fun h4 g4=>?_) (fun h4 g4=>?_))
 ·refine bz [(0,.agg [dS p,.d M,.d O,.d U,.d Y]),(1,.agg [dS p,.d a6,.d Z,.d a8,.d a9]),(2,.vp 2 0),(3,.vp 3 0),(4,dB false),(49,dB ((!decide ((I.length:Int)=(K.length:Int)))))] [(2,.one 40 112 [dS p,.d M,.d O,.d U,.d Y]),(3,.one 40 112 [dS p,.d a6,.d Z,.d a8,.d a9])] ⟨aa,aa,aa,aa,aa,aa,trivial⟩ ⟨aa,aa,trivial⟩ (aj (af 1 aa (ay ?_)))
  exfalso;omega
 refine aG (aA (aj (af 1 aa (bj (cb (fun k VE B=>∃(z:Int),(0≤z∧(z≤(J.length:Int)∨z=0))∧k=((J.length:Int) -z).toNat∧aT [(0,.agg [dS p,.d M,.d O,.d U,.d Y]),(1,.agg [dS p,.d a6,.d Z,.d a8,.d a9]),(2,.vp 2 0),(3,.vp 3 0),(4,dB false),(5,.d (dJ z)),(49,dB ((!decide ((I.length:Int)=(K.length:Int)))))] VE∧aT [(2,.one 40 112 [dS p,.d M,.d O,.d U,.d Y]),(3,.one 40 112 [dS p,.d a6,.d Z,.d a8,.d a9])] B) ?_ (k:=((J.length:Int) -0).toNat) ⟨0,ae,aa,⟨aa,aa,aa,aa,aa,aa,aa,trivial⟩,⟨aa,aa,trivial⟩⟩)))))
 rintro _ VE B⟨z,c9,rfl,hV,hB⟩
 refine bz _ _ hV hB (aA (aj (ak 3 aa (ai (bu aa eI ?_)))))
 refine af 1 aa (aN aa (fun h5 g5=>?_) (fun h5 g5=>?_))
 ·refine aG (bz [(0,.agg [dS p,.d M,.d O,.d U,.d Y]),(1,.agg [dS p,.d a6,.d Z,.d a8,.d a9]),(2,.vp 2 0),(3,.vp 3 0),(4,dB false),(5,.d (dJ z)),(49,dB ((!decide ((I.length:Int)=(K.length:Int))))),(54,dB (decide (z<(J.length:Int))))] [(2,.one 40 112 [dS p,.d M,.d O,.d U,.d Y]),(3,.one 40 112 [dS p,.d a6,.d Z,.d a8,.d a9])] ⟨aa,aa,aa,aa,aa,aa,aa,aa,trivial⟩ ⟨aa,aa,trivial⟩ (aA (bj (cN (aP 3 aa ?_)))))
  obtain⟨r6,gO,gP⟩:=bR z du
  obtain⟨tP,zk,Ci,rfl,mg,yg,qn⟩:=c4 gP
  refine aU (bo aa aa eI ae gO aa ?_)
  refine de aa aa (eF aa (aX aa) (aX aa) ?_)
  refine aP 3 aa ?_
  obtain⟨r7,eY⟩:∃r,iV[(z:Int).toNat]?=some r:=⟨_,dz (by have:=QT.1;omega)⟩
  obtain⟨wx6_2,Xg,hnx6_2,hrx6_2⟩:=Ty.au qn
  obtain⟨_,_,d7,e7,w7,he7,rfl,hs7,ht7⟩:=QT.2 _ _ _ gO eY
  cases he7
  obtain rfl:=aR.uniq hs7 Xg
  refine aU (bo aa aa tO ae eY aa ?_)
  refine de aa aa (eF aa (aX aa) (aX aa) ?_)
  refine bP aa (aY aa (aV aa) (sameSVS F mg yg Xg ae hrx6_2 ht7) (fun r8 _ lW=>?_))
  obtain rfl:=lW
  refine cP 1 aa (cH aa aa (aG (aS (ak 1 aa (ai (br aa aa ae ae ?_))))))
  exact af 1 aa (⟨((J.length:Int) -((z+1))).toNat,ae,(z+1),ae,aa,⟨aa,aa,aa,aa,aa,aa,aa,trivial⟩,⟨aa,aa,trivial⟩⟩)
 refine bV (bz [(0,.agg [dS p,.d M,.d O,.d U,.d Y]),(1,.agg [dS p,.d a6,.d Z,.d a8,.d a9]),(2,.vp 2 0),(3,.vp 3 0),(4,dB false),(5,.d (dJ z)),(49,dB ((!decide ((I.length:Int)=(K.length:Int))))),(54,dB (decide (z<(J.length:Int))))] [(2,.one 40 112 [dS p,.d M,.d O,.d U,.d Y]),(3,.one 40 112 [dS p,.d a6,.d Z,.d a8,.d a9])] ⟨aa,aa,aa,aa,aa,aa,aa,aa,trivial⟩ ⟨aa,aa,trivial⟩ (aA (aj (af 1 aa (bj (cb (fun k VE B=>∃(A:Int),(0≤A∧(A≤(L.length:Int)∨A=0))∧k=((L.length:Int) -A).toNat∧aT [(0,.agg [dS p,.d M,.d O,.d U,.d Y]),(1,.agg [dS p,.d a6,.d Z,.d a8,.d a9]),(2,.vp 2 0),(3,.vp 3 0),(4,dB false),(5,.d (dJ z)),(6,.d (dJ A)),(49,dB ((!decide ((I.length:Int)=(K.length:Int))))),(54,dB (decide (z<(J.length:Int))))] VE∧aT [(2,.one 40 112 [dS p,.d M,.d O,.d U,.d Y]),(3,.one 40 112 [dS p,.d a6,.d Z,.d a8,.d a9])] B) ?_ (k:=((L.length:Int) -0).toNat) ⟨0,ae,aa,⟨aa,aa,aa,aa,aa,aa,aa,aa,aa,trivial⟩,⟨aa,aa,trivial⟩⟩))))))
 rintro _ VE B⟨A,jj,rfl,hV,hB⟩
 refine bz _ _ hV hB (aA (aj (ak 3 aa (ai (bu aa eC ?_)))))
 refine af 1 aa (aN aa (fun h9 g9=>?_) (fun h9 g9=>?_))
 ·refine aG (aA (bj (cN (aP 3 aa ?_))))
  obtain⟨mA,gL,gM⟩:=bR A ef
  obtain⟨mh,oq,vE,rfl,ko,o6,oh⟩:=c4 gM
  refine aU (bo aa aa eC ae gL aa ?_)
  refine de aa aa (eF aa (aX aa) (aX aa) ?_)
  refine aP 3 aa (aU (bo aa aa iT ae gL aa ?_))
  refine de aa aa (eF aa (aX aa) (aX aa) ?_)
  refine cP 4 aa (bz [(0,.agg [dS p,.d M,.d O,.d U,.d Y]),(1,.agg [dS p,.d a6,.d Z,.d a8,.d a9]),(2,.vp 2 0),(3,.vp 3 0),(4,dB false),(5,.d (dJ z)),(6,.d (dJ A)),(7,.vp 7 0),(8,.vp 8 0),(49,dB ((!decide ((I.length:Int)=(K.length:Int))))),(54,dB (decide (z<(J.length:Int)))),(73,dB (decide (A<(L.length:Int))))] [(2,.one 40 112 [dS p,.d M,.d O,.d U,.d Y]),(3,.one 40 112 [dS p,.d a6,.d Z,.d a8,.d a9]),(7,.one 128 64 [.d mh,.d oq,.d vE]),(8,.one 128 64 [.d mh,.d oq,.d vE])] ⟨aa,aa,aa,aa,aa,aa,aa,aa,aa,aa,aa,aa,trivial⟩ ⟨aa,aa,aa,aa,trivial⟩ (aj ?_))
  obtain⟨sx10_1,rfl,hsx10_1⟩:=Ty.aJ o6
  refine ak 4 aa (ai (xq aa aa ?_))
  refine ak 1 aa (aq aa bx (bL aa ?_))
  refine aq aa bx (bJ aa aa aa ?_)
  refine aq aa bx (bL aa ?_)
  refine aq aa bx (bJ aa aa aa ?_)
  obtain rfl:=Ty.gm ko
  refine aq aa bx (aY aa (aV aa) (IB F (.inl aa) ae o5 (.inl aa)) (fun nW _ mV=>?_))
  obtain rfl:=mV
  refine aq aa bx (eQ aa ?_)
  refine ai (bd aa bx aa ?_)
  refine ak 1 aa (aq aa aa (bL aa ?_))
  refine aq aa aa (bJ aa aa aa ?_)
  refine aq aa aa (bL aa ?_)
  refine aq aa aa (bJ aa aa aa ?_)
  obtain rfl:=Ty.gm oh
  refine aq aa aa (aY aa (aV aa) (IB F (.inl aa) ae o5 (.inl aa)) (fun qQ _ oF=>?_))
  obtain rfl:=oF
  refine aq aa aa (eQ aa ?_)
  refine ai (bd aa aa aa ?_)
  refine bn (cH aa aa (aG (aS (ak 1 aa (ai (br aa aa ae ae ?_))))))
  exact af 1 aa (⟨((L.length:Int) -((A+1))).toNat,ae,(A+1),ae,aa,⟨aa,aa,aa,aa,aa,aa,aa,aa,aa,trivial⟩,⟨aa,aa,trivial⟩⟩)
 refine bV (bz [(0,.agg [dS p,.d M,.d O,.d U,.d Y]),(1,.agg [dS p,.d a6,.d Z,.d a8,.d a9]),(2,.vp 2 0),(3,.vp 3 0),(4,dB false),(5,.d (dJ z)),(6,.d (dJ A)),(49,dB ((!decide ((I.length:Int)=(K.length:Int))))),(54,dB (decide (z<(J.length:Int)))),(73,dB (decide (A<(L.length:Int))))] [(2,.one 40 112 [dS p,.d M,.d O,.d U,.d Y]),(3,.one 40 112 [dS p,.d a6,.d Z,.d a8,.d a9])] ⟨aa,aa,aa,aa,aa,aa,aa,aa,aa,aa,trivial⟩ ⟨aa,aa,trivial⟩ (aA (aj (af 1 aa (bj (cb (fun k VE B=>∃(G:Int),(0≤G∧(G≤(I.length:Int)∨G=0))∧k=((I.length:Int) -G).toNat∧aT [(0,.agg [dS p,.d M,.d O,.d U,.d Y]),(1,.agg [dS p,.d a6,.d Z,.d a8,.d a9]),(2,.vp 2 0),(3,.vp 3 0),(4,dB false),(5,.d (dJ z)),(6,.d (dJ A)),(9,.d (dJ G)),(49,dB ((!decide ((I.length:Int)=(K.length:Int))))),(54,dB (decide (z<(J.length:Int)))),(73,dB (decide (A<(L.length:Int))))] VE∧aT [(2,.one 40 112 [dS p,.d M,.d O,.d U,.d Y]),(3,.one 40 112 [dS p,.d a6,.d Z,.d a8,.d a9])] B) ?_ (k:=((I.length:Int) -0).toNat) ⟨0,ae,aa,⟨aa,aa,aa,aa,aa,aa,aa,aa,aa,aa,aa,trivial⟩,⟨aa,aa,trivial⟩⟩))))))
 rintro _ VE B⟨G,wq,rfl,hV,hB⟩
 refine bz _ _ hV hB (aA (aj (ak 3 aa (ai (bu aa cT ?_)))))
 refine af 1 aa (aN aa (fun fw kG=>?_) (fun fw kG=>?_))
 ·refine aG (aA (bj (cN (aP 3 aa ?_))))
  obtain⟨sw,tQ,sg⟩:=bR G dc
  obtain⟨Ps,Ju,rfl,DO,DP⟩:=fc sg
  refine aU (bo aa aa cT ae tQ aa ?_)
  refine aP 1 aa (de aa aa (cF aa aa ?_))
  refine aP 3 aa ?_
  obtain⟨CL,tR⟩:∃r,K[(G:Int).toNat]?=some r:=⟨_,dz (by have:=QU.1;omega)⟩
  obtain⟨wx15_1,VT,hnx15_1,hrx15_1⟩:=Ty.au DP
  obtain⟨_,d16,e16,CM,he16,rfl,hs16,ht16⟩:=QU.2 _ _ _ tQ tR
  cases he16
  obtain rfl:=aR.uniq hs16 VT
  refine aU (bo aa aa sf ae tR aa ?_)
  refine aP 1 aa (de aa aa (cF aa aa ?_))
  obtain⟨zx15_0,rfl,hzx15_0,kzx15_0⟩:=Ty.az DO
  refine aP 2 aa (bg aa bx (bL aa ?_))
  refine cw aa bx aa (bJ aa aa aa ?_)
  refine bg aa bx (bf aa ?_)
  refine bg aa bx (bo aa aa cT ae tQ aa ?_)
  refine bg aa bx (eL aa ?_)
  refine cw aa bx aa (cF aa aa ?_)
  refine bg aa bx (bL aa ?_)
  refine cw aa bx aa (bJ aa aa aa ?_)
  refine bg aa bx (bf aa ?_)
  refine bg aa bx (bo aa aa sf ae tR aa ?_)
  refine bg aa bx (eL aa ?_)
  refine cw aa bx aa (cF aa aa ?_)
  refine cw aa bx aa (aY aa (aV aa) (IB F VT ae hrx15_1 ht16) (fun CN _ zl=>?_))
  obtain rfl:=zl
  refine bg aa bx (eQ aa ?_)
  refine aU (bd aa bx aa ?_)
  refine cU (cH aa aa (aG (aS (ak 1 aa (ai (br aa aa ae ae ?_))))))
  exact af 1 aa (⟨((I.length:Int) -((G+1))).toNat,ae,(G+1),ae,aa,⟨aa,aa,aa,aa,aa,aa,aa,aa,aa,aa,aa,trivial⟩,⟨aa,aa,trivial⟩⟩)
 exact bV (bz [(0,.agg [dS p,.d M,.d O,.d U,.d Y]),(1,.agg [dS p,.d a6,.d Z,.d a8,.d a9]),(2,.vp 2 0),(3,.vp 3 0),(4,dB false),(5,.d (dJ z)),(6,.d (dJ A)),(9,.d (dJ G)),(49,dB ((!decide ((I.length:Int)=(K.length:Int))))),(54,dB (decide (z<(J.length:Int)))),(73,dB (decide (A<(L.length:Int)))),(111,dB (decide (G<(I.length:Int))))] [(2,.one 40 112 [dS p,.d M,.d O,.d U,.d Y]),(3,.one 40 112 [dS p,.d a6,.d Z,.d a8,.d a9])] ⟨aa,aa,aa,aa,aa,aa,aa,aa,aa,aa,aa,aa,trivial⟩ ⟨aa,aa,trivial⟩ (aj (af 1 aa (ay (aE aa aa aa)))))
theorem sameDbS{T:bC}(F:FT T){nv mv:Nat}{a0 a1 U a3 Y Z a8 A G:DC}(cV:tJ.ok a0)(da:tJ.ok a1){J:List (List DC)}(cO:aR J U)(et:J.length≤16)(cK:aH (fJ nv mv) J)(dk:tJ.ok a3){L:List (List DC)}(cT:aR L Y)(fo:L.length≤50)(dc:aH fy L)(dm:(Ty.l 0 iR).ok Z){uw:List (List DC)}(iT:aR uw a8)(lL:aH (fJ nv mv) uw)(QV:fL aaZ J uw)(Jv:aR L A)(qD:(Ty.l 0 iR).ok G)(my:nv≤99)(qR:mv≤100000):Sound T 15 [.agg [.d a0,.d a1,.d U,.d a3,.d Y,.d Z],.agg [.d a0,.d a1,.d a8,.d a3,.d A,.d G]] fun r=>r=dB true:=by
 refine ch F.q15 aa ?_
 obtain⟨aQ,rfl,iF,hJ⟩:=Ty.az cV
 obtain⟨aB,rfl,eS,eT⟩:=Ty.az da
 obtain⟨aO,rfl,lM,lN⟩:=Ty.az dk
 obtain⟨M,fq,nN,fi⟩:=Ty.au dm
 obtain⟨K,Bu,Pt,EE⟩:=Ty.au qD
 have CC:=QV.1
 refine aj (af 3 aa (aA (aj (ak 6 aa (aq aa bx (bL aa ?_))))))
 refine aq aa bx (bJ aa aa aa ?_)
 refine aq aa bx (bL aa ?_)
 refine aq aa bx (bJ aa aa aa ?_)
 refine aq aa bx (eR aa aa ?_)
 refine ai (bd aa bx aa ?_)
 refine ak 1 aa (aq aa bx (bL aa ?_))
 refine aq aa bx (bJ aa aa aa ?_)
 refine aq aa bx (bL aa ?_)
 refine aq aa bx (bJ aa aa aa ?_)
 refine aq aa bx (eR aa aa ?_)
 refine ai (bd aa bx aa ?_)
 refine ak 1 aa (aq aa bx (bL aa ?_))
 refine aq aa bx (bJ aa aa aa ?_)
 refine aq aa bx (bu aa cO ?_)
 refine aq aa bx (bL aa ?_)
 refine aq aa bx (bJ aa aa aa ?_)
 refine aq aa bx (bu aa iT ?_)
 refine aq aa bx (eR aa aa ?_)
 refine ai (bd aa bx aa ?_)
 refine ak 1 aa (bZ (g:=ll) aa (fun h1 g1=>?_) (fun h1 g1=>?_))
 ·refine an aa h1 (an aa h1 (an aa h1 (an aa h1 (an aa h1 (an aa h1 (an aa h1 (ai (aW aa h1 aa ?_))))))))
  refine ak 1 aa (an aa aa (an aa aa (an aa aa (an aa aa (an aa aa (an aa aa (an aa aa (ai (aW aa aa aa ?_)))))))))
  refine bn (cg aa aa (bz [(0,.agg [.d (dJ aQ),.d (dJ aB),.d U,.d (dJ aO),.d Y,.d Z]),(1,.agg [.d (dJ aQ),.d (dJ aB),.d a8,.d (dJ aO),.d A,.d G]),(2,.vp 2 0),(3,.vp 3 0),(4,dB false),(53,dB true)] [(2,.one 29 96 [.d (dJ aQ),.d (dJ aB),.d U,.d (dJ aO),.d Y,.d Z]),(3,.one 29 96 [.d (dJ aQ),.d (dJ aB),.d a8,.d (dJ aO),.d A,.d G])] ⟨aa,aa,aa,aa,aa,aa,trivial⟩ ⟨aa,aa,trivial⟩ (aj (af 1 aa (ay ?_)))))
  exfalso;omega
 refine aq aa h1 (bL aa ?_)
 refine aq aa h1 (bJ aa aa aa ?_)
 refine aq aa h1 (bu aa cT ?_)
 refine aq aa h1 (bL aa ?_)
 refine aq aa h1 (bJ aa aa aa ?_)
 refine aq aa h1 (bu aa Jv ?_)
 refine aq aa h1 (eR aa aa ?_)
 refine ai (bd aa h1 aa ?_)
 refine ak 1 aa (aq aa bx (bL aa ?_))
 refine aq aa bx (bJ aa aa aa ?_)
 refine aq aa bx (bu aa fq ?_)
 refine aq aa bx (bL aa ?_)
 refine aq aa bx (bJ aa aa aa ?_)
 refine aq aa bx (bu aa Bu ?_)
 refine aq aa bx (eR aa aa ?_)
 refine ai (bd aa bx aa ?_)
 refine bn (aN aa (fun h2 g2=>?_) (fun h2 g2=>?_))
 ·refine bz [(0,.agg [.d (dJ aQ),.d (dJ aB),.d U,.d (dJ aO),.d Y,.d Z]),(1,.agg [.d (dJ aQ),.d (dJ aB),.d a8,.d (dJ aO),.d A,.d G]),(2,.vp 2 0),(3,.vp 3 0),(4,dB false),(53,dB ((!decide ((M.length:Int)=(K.length:Int)))))] [(2,.one 29 96 [.d (dJ aQ),.d (dJ aB),.d U,.d (dJ aO),.d Y,.d Z]),(3,.one 29 96 [.d (dJ aQ),.d (dJ aB),.d a8,.d (dJ aO),.d A,.d G])] ⟨aa,aa,aa,aa,aa,aa,trivial⟩ ⟨aa,aa,trivial⟩ (aj (af 1 aa (ay ?_)))
  exfalso;omega
 refine aG (aA (aj (af 1 aa (bj (cb (fun k VE B=>∃(p:Int),(0≤p∧(p≤(J.length:Int)∨p=0))∧k=((J.length:Int) -p).toNat∧aT [(0,.agg [.d (dJ aQ),.d (dJ aB),.d U,.d (dJ aO),.d Y,.d Z]),(1,.agg [.d (dJ aQ),.d (dJ aB),.d a8,.d (dJ aO),.d A,.d G]),(2,.vp 2 0),(3,.vp 3 0),(4,dB false),(5,.d (dJ p)),(53,dB ((!decide ((M.length:Int)=(K.length:Int)))))] VE∧aT [(2,.one 29 96 [.d (dJ aQ),.d (dJ aB),.d U,.d (dJ aO),.d Y,.d Z]),(3,.one 29 96 [.d (dJ aQ),.d (dJ aB),.d a8,.d (dJ aO),.d A,.d G])] B) ?_ (k:=((J.length:Int) -0).toNat) ⟨0,ae,aa,⟨aa,aa,aa,aa,aa,aa,aa,trivial⟩,⟨aa,aa,trivial⟩⟩)))))
 rintro _ VE B⟨p,c9,rfl,hV,hB⟩
 refine bz _ _ hV hB (aA (aj (ak 3 aa (ai (bu aa cO ?_)))))
 refine af 1 aa (aN aa (fun h3 g3=>?_) (fun h3 g3=>?_))
 ·refine aG (bz [(0,.agg [.d (dJ aQ),.d (dJ aB),.d U,.d (dJ aO),.d Y,.d Z]),(1,.agg [.d (dJ aQ),.d (dJ aB),.d a8,.d (dJ aO),.d A,.d G]),(2,.vp 2 0),(3,.vp 3 0),(4,dB false),(5,.d (dJ p)),(53,dB ((!decide ((M.length:Int)=(K.length:Int))))),(58,dB (decide (p<(J.length:Int))))] [(2,.one 29 96 [.d (dJ aQ),.d (dJ aB),.d U,.d (dJ aO),.d Y,.d Z]),(3,.one 29 96 [.d (dJ aQ),.d (dJ aB),.d a8,.d (dJ aO),.d A,.d G])] ⟨aa,aa,aa,aa,aa,aa,aa,aa,trivial⟩ ⟨aa,aa,trivial⟩ (aA (bj (cN (aP 3 aa ?_)))))
  obtain⟨r4,eg,eZ⟩:=bR p cK
  obtain⟨jw,mr,oG,QW,aa0,aa1,rfl,gB,jR,ot,yh,EF,EG⟩:=fe eZ
  refine aU (bo aa aa cO ae eg aa ?_)
  refine aP 1 aa (de aa aa (eF aa (aX aa) (aX aa) ?_))
  refine aP 3 aa ?_
  obtain⟨r5,iq⟩:∃r,uw[(p:Int).toNat]?=some r:=⟨_,dz (by have:=QV.1;omega)⟩
  obtain⟨Jw,ID,IE,Nd⟩:=Ty.au jR
  obtain⟨Y8,Xh,Nf,hrx4_2⟩:=Ty.au ot
  obtain⟨wx4_3,Xi,hnx4_3,hrx4_3⟩:=Ty.au yh
  obtain⟨wx4_4,Xj,hnx4_4,hrx4_4⟩:=Ty.au EF
  obtain⟨wx4_5,Xk,hnx4_5,hrx4_5⟩:=Ty.au EG
  have I:=nu lL iq
  obtain⟨_,_,v5,_,k5,_,f5,_,c5,_,x5,he5,rfl,⟨wv5,ww5,hv5,hV5,qv5⟩,⟨wk5,hk5,hK5⟩,⟨wf5,hf5,hF5⟩,⟨wc5,wd5,Sk,hC5,qc5⟩,⟨wx5,GL,hX5⟩⟩:=QV.2 _ _ _ eg iq
  cases he5
  obtain rfl:=aR.uniq hv5 ID
  obtain rfl:=aR.uniq hk5 Xh
  obtain rfl:=aR.uniq hf5 Xi
  obtain rfl:=aR.uniq Sk Xj
  obtain rfl:=aR.uniq GL Xk
  obtain⟨_,_,e_,_,I⟩:=b0 I
  cases e_
  obtain⟨_,_,e_,kv5,I⟩:=b0 I
  cases e_
  obtain⟨_,_,e_,_,I⟩:=b0 I
  cases e_
  obtain⟨_,_,e_,_,I⟩:=b0 I
  cases e_
  obtain⟨_,_,e_,kc5,I⟩:=b0 I
  cases e_
  obtain⟨_,o1,_,rv5⟩:=Ty.au kv5
  obtain rfl:=aR.uniq o1 hV5
  obtain⟨_,o2,_,rc5⟩:=Ty.au kc5
  obtain rfl:=aR.uniq o2 hC5
  refine aU (bo aa aa iT ae iq aa ?_)
  refine aP 1 aa (de aa aa (eF aa (aX aa) (aX aa) ?_))
  refine bP aa (aY aa (aV aa) (sameScS F gB ID ae Nd Xh ae hrx4_2 Xi ae hrx4_3 Xj ae hrx4_4 hV5 rv5 qv5 hK5 hF5 hC5 rc5 qc5) (fun r6 _ iW=>?_))
  obtain rfl:=iW
  refine aP 2 aa (bg aa aa (bL aa ?_))
  refine cw aa aa aa (bJ aa aa aa ?_)
  refine bg aa aa (bf aa ?_)
  refine bg aa aa (bo aa aa cO ae eg aa ?_)
  refine bg aa aa (eL aa ?_)
  refine cw aa aa aa (cF aa aa ?_)
  refine bg aa aa (bL aa ?_)
  refine cw aa aa aa (bJ aa aa aa ?_)
  refine bg aa aa (bf aa ?_)
  refine bg aa aa (bo aa aa iT ae iq aa ?_)
  refine bg aa aa (eL aa ?_)
  refine cw aa aa aa (cF aa aa ?_)
  refine cw aa aa aa (aY aa (aV aa) (sameVS F Xk ae hrx4_5 hX5) (fun r7 _ nc=>?_))
  obtain rfl:=nc
  refine bg aa aa (eQ aa ?_)
  refine aU (bd aa aa aa ?_)
  refine cU (cH aa aa (aG (aS (ak 1 aa (ai (br aa aa ae ae ?_))))))
  exact af 1 aa (⟨((J.length:Int) -((p+1))).toNat,ae,(p+1),ae,aa,⟨aa,aa,aa,aa,aa,aa,aa,trivial⟩,⟨aa,aa,trivial⟩⟩)
 refine bV (bz [(0,.agg [.d (dJ aQ),.d (dJ aB),.d U,.d (dJ aO),.d Y,.d Z]),(1,.agg [.d (dJ aQ),.d (dJ aB),.d a8,.d (dJ aO),.d A,.d G]),(2,.vp 2 0),(3,.vp 3 0),(4,dB false),(5,.d (dJ p)),(53,dB ((!decide ((M.length:Int)=(K.length:Int))))),(58,dB (decide (p<(J.length:Int))))] [(2,.one 29 96 [.d (dJ aQ),.d (dJ aB),.d U,.d (dJ aO),.d Y,.d Z]),(3,.one 29 96 [.d (dJ aQ),.d (dJ aB),.d a8,.d (dJ aO),.d A,.d G])] ⟨aa,aa,aa,aa,aa,aa,aa,aa,trivial⟩ ⟨aa,aa,trivial⟩ (aA (aj (af 1 aa (bj (cb (fun k VE B=>∃(z:Int),(0≤z∧(z≤(L.length:Int)∨z=0))∧k=((L.length:Int) -z).toNat∧aT [(0,.agg [.d (dJ aQ),.d (dJ aB),.d U,.d (dJ aO),.d Y,.d Z]),(1,.agg [.d (dJ aQ),.d (dJ aB),.d a8,.d (dJ aO),.d A,.d G]),(2,.vp 2 0),(3,.vp 3 0),(4,dB false),(5,.d (dJ p)),(6,.d (dJ z)),(53,dB ((!decide ((M.length:Int)=(K.length:Int))))),(58,dB (decide (p<(J.length:Int))))] VE∧aT [(2,.one 29 96 [.d (dJ aQ),.d (dJ aB),.d U,.d (dJ aO),.d Y,.d Z]),(3,.one 29 96 [.d (dJ aQ),.d (dJ aB),.d a8,.d (dJ aO),.d A,.d G])] B) ?_ (k:=((L.length:Int) -0).toNat) ⟨0,ae,aa,⟨aa,aa,aa,aa,aa,aa,aa,aa,aa,trivial⟩,⟨aa,aa,trivial⟩⟩))))))
 rintro _ VE B⟨z,jj,rfl,hV,hB⟩
 refine bz _ _ hV hB (aA (aj (ak 3 aa (ai (bu aa cT ?_)))))
 refine af 1 aa (aN aa (fun h8 g8=>?_) (fun h8 g8=>?_))
 ·refine aG (aA (bj (cN (aP 3 aa ?_))))
  obtain⟨r9,iI,lX⟩:=bR z dc
  obtain⟨tS,wt,zm,rfl,nH,ou,qo⟩:=c4 lX
  refine aU (bo aa aa cT ae iI aa ?_)
  refine de aa aa (eF aa (aX aa) (aX aa) ?_)
  refine aP 3 aa (aU (bo aa aa Jv ae iI aa ?_))
  refine de aa aa (eF aa (aX aa) (aX aa) ?_)
  obtain⟨EH,rfl,Ng,Nh⟩:=Ty.az nH
  obtain⟨Bv,rfl,Ni,Nj⟩:=Ty.az ou
  obtain⟨EI,rfl,Xl,Xm⟩:=Ty.az qo
  refine aU (AL (r:=[(dJ EH),(dJ Bv),(dJ EI)]) aa aa aa ?_)
  refine cU (cH aa aa (aG (aS (ak 1 aa (ai (br aa aa ae ae ?_))))))
  exact af 1 aa (⟨((L.length:Int) -((z+1))).toNat,ae,(z+1),ae,aa,⟨aa,aa,aa,aa,aa,aa,aa,aa,aa,trivial⟩,⟨aa,aa,trivial⟩⟩)
 refine bV (bz [(0,.agg [.d (dJ aQ),.d (dJ aB),.d U,.d (dJ aO),.d Y,.d Z]),(1,.agg [.d (dJ aQ),.d (dJ aB),.d a8,.d (dJ aO),.d A,.d G]),(2,.vp 2 0),(3,.vp 3 0),(4,dB false),(5,.d (dJ p)),(6,.d (dJ z)),(53,dB ((!decide ((M.length:Int)=(K.length:Int))))),(58,dB (decide (p<(J.length:Int)))),(95,dB (decide (z<(L.length:Int))))] [(2,.one 29 96 [.d (dJ aQ),.d (dJ aB),.d U,.d (dJ aO),.d Y,.d Z]),(3,.one 29 96 [.d (dJ aQ),.d (dJ aB),.d a8,.d (dJ aO),.d A,.d G])] ⟨aa,aa,aa,aa,aa,aa,aa,aa,aa,aa,trivial⟩ ⟨aa,aa,trivial⟩ (aA (aj (af 1 aa (bj (cb (fun k VE B=>∃(O:Int),(0≤O∧(O≤(M.length:Int)∨O=0))∧k=((M.length:Int) -O).toNat∧aT [(0,.agg [.d (dJ aQ),.d (dJ aB),.d U,.d (dJ aO),.d Y,.d Z]),(1,.agg [.d (dJ aQ),.d (dJ aB),.d a8,.d (dJ aO),.d A,.d G]),(2,.vp 2 0),(3,.vp 3 0),(4,dB false),(5,.d (dJ p)),(6,.d (dJ z)),(7,.d (dJ O)),(53,dB ((!decide ((M.length:Int)=(K.length:Int))))),(58,dB (decide (p<(J.length:Int)))),(95,dB (decide (z<(L.length:Int))))] VE∧aT [(2,.one 29 96 [.d (dJ aQ),.d (dJ aB),.d U,.d (dJ aO),.d Y,.d Z]),(3,.one 29 96 [.d (dJ aQ),.d (dJ aB),.d a8,.d (dJ aO),.d A,.d G])] B) ?_ (k:=((M.length:Int) -0).toNat) ⟨0,ae,aa,⟨aa,aa,aa,aa,aa,aa,aa,aa,aa,aa,aa,trivial⟩,⟨aa,aa,trivial⟩⟩))))))
 rintro _ VE B⟨O,wq,rfl,hV,hB⟩
 refine bz _ _ hV hB (aA (aj (ak 3 aa (ai (bu aa fq ?_)))))
 refine af 1 aa (aN aa (fun ir fT=>?_) (fun ir fT=>?_))
 ·exfalso;omega
 exact bV (aj (af 1 aa (ay (aE aa aa aa))))
end Go.Ev.Rp
namespace Go.Ev.Rp
open Go Go.Ev.Pp
theorem cont_iff{y:Int}{H:Prop}(h:(0≤y→H)∧(y<0→¬H)):0≤y↔H:=⟨h.1,fun k=>by
 by_cases e:0≤y
 ·exact e
 exact absurd k (h.2 ax)⟩
def iL(a b c d:Int):Prop:=0≤a∧a<b∧b≤1099511627776∧0≤c∧c<d∧d≤1099511627776∧a<d∧c<b
def nO(w:List (List DC))(f t:Int):Prop:=∃(q:Nat)(row:List DC)(a b:Int),w[q]?=some row∧row[1]?=some (dJ a)∧row[2]?=some (dJ b)∧iL f t a b
def jn(k:Int)(w:List (List DC))(f t:Int):Prop:=∀(q:Nat)(row:List DC)(a b:Int),(q:Int)<k→w[q]?=some row→row[1]?=some (dJ a)→row[2]?=some (dJ b)→¬iL f t a b
theorem nO.mk{w:List (List DC)}{q:Nat}{row:List DC}{a b f t:Int}(p:w[q]?=some row)(h2:row[1]?=some (dJ a))(z:row[2]?=some (dJ b))(A:iL f t a b):nO w f t:=⟨q,row,a,b,p,h2,z,A⟩
theorem Bw{w:List (List DC)}{f t:Int}:jn 0 w f t:=fun q _ _ _ h=>by omega
theorem jn.step{k:Int}{w:List (List DC)}{row:List DC}{a b f t:Int}(h:jn k w f t)(h0:0≤k)(F:w[k.toNat]?=some row)(G:row[1]?=some (dJ a))(h2:row[2]?=some (dJ b))(I:¬iL f t a b):jn (k+1) w f t:=fun q r c d K p z A=>by
 by_cases J:(q:Int)<k
 ·exact h q r c d J p z A
 have:q=k.toNat:=by omega
 subst this
 rw[F] at p;cases p
 rw[G] at z;cases z
 rw[h2] at A;cases A
 exact I
theorem jn.all{k:Int}{w:List (List DC)}{f t:Int}(h:jn k w f t)(G:(w.length:Int)≤k):¬nO w f t:=fun⟨q,row,a,b,p,z,A,F⟩=>h q row a b (by have:=(List.getElem?_eq_some_iff.1 p).1;omega) p z A F
def Bx(p:Int)(w:List (List DC))(f t:Int):Prop:=(p<t∧0≤f∧f<t∧t≤1099511627776)∨nO w f t
theorem Nk{T:bC}(F:FT T){aQ:Int}(A: -9223372036854775808≤aQ)(G:aQ≤9223372036854775807){aB:Int}(I: -9223372036854775808≤aB)(J:aB≤9223372036854775807):Sound T 23 [.agg [.d (dJ aQ),.d (dJ aB)]] fun r=>∃(z:Bool),r=dB z∧(z=true↔(0≤aQ∧aQ<aB∧aB≤1099511627776)):=by
 refine ch F.q23 aa (aj (af 2 aa (aj (ak 4 aa (bZ (g:=lT) aa (fun p K=>?_) (fun p K=>?_))))))
 ·refine aq aa p (bL aa ?_)
  refine aq aa p (bJ aa aa aa ?_)
  refine aq aa p (bL aa ?_)
  refine aq aa p (bJ aa aa aa ?_)
  refine aq aa p (eH aa aa ?_)
  refine ai (aW aa p aa ?_)
  refine ak 1 aa (bZ (g:=lj) aa (fun h2 L=>?_) (fun h2 L=>?_))
  ·refine aq aa h2 (bL aa ?_)
   refine aq aa h2 (bJ aa aa aa ?_)
   refine aq aa h2 (qc aa aa ?_)
   refine ai (aW aa h2 aa ?_)
   exact af 1 aa (ay (aE aa aa ⟨decide (aB≤1099511627776),aa,Ch⟩))
  refine an aa h2 (an aa h2 (an aa h2 (ai (bd aa h2 aa ?_))))
  exact af 1 aa (ay (aE aa aa ⟨false,aa,Ch⟩))
 refine an aa p (an aa p (an aa p (an aa p (an aa p (ai (bd aa p aa ?_))))))
 refine ak 1 aa (an aa aa (an aa aa (an aa aa (ai (bd aa aa aa ?_)))))
 exact af 1 aa (ay (aE aa aa ⟨false,aa,Ch⟩))
theorem Nl{T:bC}(F:FT T){aQ:Int}(A: -9223372036854775808≤aQ)(G:aQ≤9223372036854775807){aB:Int}(I: -9223372036854775808≤aB)(J:aB≤9223372036854775807):Sound T 69 [.agg [.d (dJ aQ),.d (dJ aB)]] fun r=>∃(z:Bool),r=dB z∧(z=true↔(0≤aQ∧aQ<aB∧aB≤1099511627776)):=by
 refine ch F.q69 aa (aj (af 2 aa (aj (ak 4 aa (bZ (g:=lT) aa (fun p K=>?_) (fun p K=>?_))))))
 ·refine aq aa p (bL aa ?_)
  refine aq aa p (bJ aa aa aa ?_)
  refine aq aa p (bL aa ?_)
  refine aq aa p (bJ aa aa aa ?_)
  refine aq aa p (eH aa aa ?_)
  refine ai (aW aa p aa ?_)
  refine ak 1 aa (bZ (g:=lj) aa (fun h2 L=>?_) (fun h2 L=>?_))
  ·refine aq aa h2 (bL aa ?_)
   refine aq aa h2 (bJ aa aa aa ?_)
   refine aq aa h2 (qc aa aa ?_)
   refine ai (aW aa h2 aa ?_)
   exact af 1 aa (ay (aE aa aa ⟨decide (aB≤1099511627776),aa,Ch⟩))
  refine an aa h2 (an aa h2 (an aa h2 (ai (bd aa h2 aa ?_))))
  exact af 1 aa (ay (aE aa aa ⟨false,aa,Ch⟩))
 refine an aa p (an aa p (an aa p (an aa p (an aa p (ai (bd aa p aa ?_))))))
 refine ak 1 aa (an aa aa (an aa aa (an aa aa (ai (bd aa aa aa ?_)))))
 exact af 1 aa (ay (aE aa aa ⟨false,aa,Ch⟩))
theorem interPr{T:bC}(F:FT T){aQ:Int}(Z: -9223372036854775808≤aQ)(wP:aQ≤9223372036854775807){aB:Int}(nd: -9223372036854775808≤aB)(mB:aB≤9223372036854775807){bk:Int}(sz: -9223372036854775808≤bk)(sA:bk≤9223372036854775807){aO:Int}(oN: -9223372036854775808≤aO)(oO:aO≤9223372036854775807):Sound T 51 [.agg [.d (dJ aQ),.d (dJ aB)],.agg [.d (dJ bk),.d (dJ aO)]] fun r=>∃(L:DC)(M:DC)(O:Bool),r= .tuple [.agg [.d L,.d M],dB O]∧tJ.ok L∧tJ.ok M∧(O=true↔iL aQ aB bk aO):=by
 refine ch F.q51 aa (aj (af 4 aa (aj (ak 4 aa (ai (sS aa aa (fun z1 uv=>?_)))))))
 refine ak 4 aa (ai (Dt aa aa (fun z2 qP=>?_)))
 refine af 3 aa (aA (aj (ak 1 aa (ai (aY aa (aV aa) (Nk (aQ:=aQ) (aB:=aB) F ae ae ae ae) (fun r3 _ J=>?_))))))
 obtain⟨U,rfl,A⟩:=J
 refine ak 2 aa (e6 (g:=ow) aa (fun G=>?_) (fun G=>?_))
 ·have k4:¬_:=fun p=>absurd (A.2 p) (by simpa using G)
  refine an aa G (an aa G (an aa G (ai (aW aa G aa ?_))))
  refine ak 1 aa (an aa aa (an aa aa (an aa aa (an aa aa (an aa aa (ai (aW aa aa aa ?_)))))))
  refine bn (cg aa aa (aj (af 3 aa (ay ?_))))
  exact aE rfl rfl ⟨i0,i0,false,rfl,ah,ah,(by first|(simp only[jA,ju,false_iff,true_iff,iL] at*;omega)|(simp[iL] at*;omega))⟩
 have k4:=A.1 (by simpa using G)
 refine aq aa G (iw aa aa (aX aa) (aX aa) ?_)
 refine aq aa G (aY aa (aV aa) (Nk (aQ:=bk) (aB:=aO) F ae ae ae ae) (fun r5 _ K=>?_))
 obtain⟨Y,rfl,I⟩:=K
 refine aq aa G (eQ aa ?_)
 refine ai (bd aa G aa ?_)
 refine ak 1 aa (e6 (g:=qz) aa (fun z=>?_) (fun z=>?_))
 ·have k6:¬_:=fun p=>absurd (I.2 p) (by simpa using z)
  refine an aa z (an aa z (an aa z (an aa z (an aa z (ai (aW aa z aa ?_))))))
  refine bn (cg aa aa (aj (af 3 aa (ay ?_))))
  exact aE rfl rfl ⟨i0,i0,false,rfl,ah,ah,(by first|(simp only[jA,ju,false_iff,true_iff,iL] at*;omega)|(simp[iL] at*;omega))⟩
 have k6:=I.1 (by simpa using z)
 refine aq aa z (bL aa ?_)
 refine aq aa z (bJ aa aa aa ?_)
 refine aq aa z (bL aa ?_)
 refine aq aa z (bJ aa aa aa ?_)
 refine aq aa z (jr aa aa ?_)
 refine ai (bd aa z aa ?_)
 refine bn (aN aa (fun h7 g7=>?_) (fun h7 g7=>?_))
 ·refine aj (af 3 aa (ay ?_))
  exact aE rfl rfl ⟨i0,i0,false,rfl,ah,ah,(by first|(simp only[jA,ju,false_iff,true_iff,iL] at*;omega)|(simp[iL] at*;omega))⟩
 refine aG (aj (af 3 aa (ay ?_)))
 exact aE rfl rfl ⟨(dJ z1),(dJ z2),true,rfl,ah,ah,(by first|(simp only[jA,ju,false_iff,true_iff,iL] at*;omega)|(simp[iL] at*;omega))⟩
theorem Xn{T:bC}(F:FT T){aQ:Int}(Z: -9223372036854775808≤aQ)(wP:aQ≤9223372036854775807){aB:Int}(nd: -9223372036854775808≤aB)(mB:aB≤9223372036854775807){bk:Int}(sz: -9223372036854775808≤bk)(sA:bk≤9223372036854775807){aO:Int}(oN: -9223372036854775808≤aO)(oO:aO≤9223372036854775807):Sound T 70 [.agg [.d (dJ aQ),.d (dJ aB)],.agg [.d (dJ bk),.d (dJ aO)]] fun r=>∃(L:DC)(M:DC)(O:Bool),r= .tuple [.agg [.d L,.d M],dB O]∧tJ.ok L∧tJ.ok M∧(O=true↔iL aQ aB bk aO):=by
 refine ch F.q70 aa (aj (af 4 aa (aj (ak 4 aa (ai (sS aa aa (fun z1 uv=>?_)))))))
 refine ak 4 aa (ai (Dt aa aa (fun z2 qP=>?_)))
 refine af 3 aa (aA (aj (ak 1 aa (ai (aY aa (aV aa) (Nl (aQ:=aQ) (aB:=aB) F ae ae ae ae) (fun r3 _ J=>?_))))))
 obtain⟨U,rfl,A⟩:=J
 refine ak 2 aa (e6 (g:=ow) aa (fun G=>?_) (fun G=>?_))
 ·have k4:¬_:=fun p=>absurd (A.2 p) (by simpa using G)
  refine an aa G (an aa G (an aa G (ai (aW aa G aa ?_))))
  refine ak 1 aa (an aa aa (an aa aa (an aa aa (an aa aa (an aa aa (ai (aW aa aa aa ?_)))))))
  refine bn (cg aa aa (aj (af 3 aa (ay ?_))))
  exact aE rfl rfl ⟨i0,i0,false,rfl,ah,ah,(by first|(simp only[jA,ju,false_iff,true_iff,iL] at*;omega)|(simp[iL] at*;omega))⟩
 have k4:=A.1 (by simpa using G)
 refine aq aa G (iw aa aa (aX aa) (aX aa) ?_)
 refine aq aa G (aY aa (aV aa) (Nl (aQ:=bk) (aB:=aO) F ae ae ae ae) (fun r5 _ K=>?_))
 obtain⟨Y,rfl,I⟩:=K
 refine aq aa G (eQ aa ?_)
 refine ai (bd aa G aa ?_)
 refine ak 1 aa (e6 (g:=qz) aa (fun z=>?_) (fun z=>?_))
 ·have k6:¬_:=fun p=>absurd (I.2 p) (by simpa using z)
  refine an aa z (an aa z (an aa z (an aa z (an aa z (ai (aW aa z aa ?_))))))
  refine bn (cg aa aa (aj (af 3 aa (ay ?_))))
  exact aE rfl rfl ⟨i0,i0,false,rfl,ah,ah,(by first|(simp only[jA,ju,false_iff,true_iff,iL] at*;omega)|(simp[iL] at*;omega))⟩
 have k6:=I.1 (by simpa using z)
 refine aq aa z (bL aa ?_)
 refine aq aa z (bJ aa aa aa ?_)
 refine aq aa z (bL aa ?_)
 refine aq aa z (bJ aa aa aa ?_)
 refine aq aa z (jr aa aa ?_)
 refine ai (bd aa z aa ?_)
 refine bn (aN aa (fun h7 g7=>?_) (fun h7 g7=>?_))
 ·refine aj (af 3 aa (ay ?_))
  exact aE rfl rfl ⟨i0,i0,false,rfl,ah,ah,(by first|(simp only[jA,ju,false_iff,true_iff,iL] at*;omega)|(simp[iL] at*;omega))⟩
 refine aG (aj (af 3 aa (ay ?_)))
 exact aE rfl rfl ⟨(dJ z1),(dJ z2),true,rfl,ah,ah,(by first|(simp only[jA,ju,false_iff,true_iff,iL] at*;omega)|(simp[iL] at*;omega))⟩
theorem Pf{T:bC}(F:FT T){a0 a1 a2 a4 a5 a6 a7 a8 a9:DC}(cV:tJ.ok a0)(da:tJ.ok a1)(dE:(Ty.x).ok a2){aO:Int}(oN: -9223372036854775808≤aO)(oO:aO≤9223372036854775807){A:List (List DC)}(G:aR A a4)(fo:A.length≤20)(M:aH fy A)(dm:(Ty.x).ok a5)(iX:tJ.ok a6)(nf:(Ty.l 1000000000 ee).ok a7)(ng:tJ.ok a8)(lY:tJ.ok a9){gg:Int}(la10: -9223372036854775808≤gg)(ua10:gg≤9223372036854775807){gH:Int}(la11: -9223372036854775808≤gH)(ua11:gH≤9223372036854775807):Sound T 36 [.agg [.d a0,.d a1,.d a2,.d (dJ aO),.d a4,.d a5],.agg [.d a6,.d a7,.d a8,.d a9,.d (dJ gg),.d (dJ gH)]] fun r=>∃(y0:Bool),r=dB y0∧(y0=true↔Bx aO A gg gH):=by
 refine ch F.q36 aa ?_
 obtain⟨aQ,rfl,iF,hJ⟩:=Ty.az cV
 obtain⟨aB,rfl,eS,eT⟩:=Ty.az da
 obtain⟨bA,rfl,Cj,Ck⟩:=Ty.az iX
 obtain⟨K5,Kt,hna7,aa2⟩:=Ty.au nf
 obtain⟨gr,rfl,aa3,aa4⟩:=Ty.az ng
 obtain⟨hU,rfl,Ku,Kv⟩:=Ty.az lY
 refine aj (af 3 aa (aA (aj (ak 7 aa (bZ (g:=tt) aa (fun L g1=>?_) (fun L g1=>?_))))))
 ·refine aq aa L (bL aa ?_)
  refine aq aa L (iw aa aa (aX aa) (aX aa) ?_)
  refine aq aa L (aY aa (aV aa) (Nl (aQ:=gg) (aB:=gH) F ae ae ae ae) (fun r2 _ iu=>?_))
  obtain⟨jx,rfl,J⟩:=iu
  refine ai (aW aa L aa ?_)
  refine bn (db aa (fun h3=>?_) (fun h3=>?_))
  ·have k3:=J.1 (by simpa using h3)
   refine aj (af 1 aa (ay ?_))
   exact aE rfl rfl ⟨true,rfl,(by first|exact iff_of_true rfl (.inl ax)|exact iff_of_true rfl (.inr (nO.mk (by assumption) rfl rfl (by assumption)))|exact iff_of_false aD (fun h=>h.elim (fun k=>by omega) (jn.all (by assumption) ae)))⟩
  have k3:¬_:=fun p=>absurd (J.2 p) (by simpa using h3)
  refine aG (aA (aj (af 1 aa (bj ?_))))
  refine cb (fun k VE B=>∃(z:Int),(0≤z∧(z≤(A.length:Int)∨z=0))∧(jn z A gg gH)∧k=((A.length:Int) -z).toNat∧aT [(0,.agg [.d (dJ aQ),.d (dJ aB),.d a2,.d (dJ aO),.d a4,.d a5]),(1,.agg [.d (dJ bA),.d a7,.d (dJ gr),.d (dJ hU),.d (dJ gg),.d (dJ gH)]),(2,.vp 2 0),(3,.vp 3 0),(4,dB false),(5,.d (dJ z)),(18,dB jx)] VE∧aT [(2,.one 29 96 [.d (dJ aQ),.d (dJ aB),.d a2,.d (dJ aO),.d a4,.d a5]),(3,.one 48 64 [.d (dJ bA),.d a7,.d (dJ gr),.d (dJ hU),.d (dJ gg),.d (dJ gH)])] B) ?_ (k:=((A.length:Int) -0).toNat) ⟨0,ae,(by first|assumption|exact Bw|exact jn.step (by assumption) ae (by assumption) rfl rfl (by assumption)),rfl,⟨rfl,rfl,rfl,rfl,rfl,rfl,rfl,trivial⟩,⟨rfl,rfl,trivial⟩⟩
  rintro _ VE B⟨z,c9,fr,rfl,hV,hB⟩
  refine bz _ _ hV hB (aA (aj (ak 3 aa (ai (bu aa G ?_)))))
  refine af 1 aa (aN aa (fun h4 g4=>?_) (fun h4 g4=>?_))
  ·refine aG (aA (bj (cN (aP 5 aa ?_))))
   obtain⟨r5,iq,jo⟩:=bR z M
   obtain⟨zn,FZ,Kw,rfl,nI,O,U⟩:=c4 jo
   refine aU (bo aa aa G ae iq aa ?_)
   refine aP 1 aa (de aa aa (eF aa (aX aa) (aX aa) ?_))
   obtain⟨Y,rfl,Nm,Nn⟩:=Ty.az O
   obtain⟨Z,rfl,hzx5_2,kzx5_2⟩:=Ty.az U
   refine bP aa (aY aa (aV aa) (Xn (aQ:=gg) (aB:=gH) (bk:=Y) (aO:=Z) F ae ae ae ae ae ae ae ae) (fun r6 _ iW=>?_))
   obtain⟨oH,F0,mW,rfl,rG,rH,K⟩:=iW
   refine cP 6 aa (aj (af 1 aa (db aa (fun h7=>?_) (fun h7=>?_))))
   ·have k7:=K.1 (by simpa using h7)
    refine aj (af 1 aa (ay ?_))
    exact aE rfl rfl ⟨true,rfl,(by first|exact iff_of_true rfl (.inl ax)|exact iff_of_true rfl (.inr (nO.mk (by assumption) rfl rfl (by assumption)))|exact iff_of_false aD (fun h=>h.elim (fun k=>by omega) (jn.all (by assumption) ae)))⟩
   have k7:¬_:=fun p=>absurd (K.2 p) (by simpa using h7)
   refine aG (aS (ak 1 aa (ai (br aa aa ae ae ?_))))
   refine af 1 aa ?_
   exact⟨((A.length:Int) -((z+1))).toNat,ae,(z+1),ae,(by first|assumption|exact Bw|exact jn.step (by assumption) ae (by assumption) rfl rfl (by assumption)),rfl,⟨rfl,rfl,rfl,rfl,rfl,rfl,rfl,trivial⟩,⟨rfl,rfl,trivial⟩⟩
  refine bV (aj (af 1 aa (ay ?_)))
  exact aE rfl rfl ⟨false,rfl,(by first|exact iff_of_true rfl (.inl ax)|exact iff_of_true rfl (.inr (nO.mk (by assumption) rfl rfl (by assumption)))|exact iff_of_false aD (fun h=>h.elim (fun k=>by omega) (jn.all (by assumption) ae)))⟩
 refine an aa L (an aa L (an aa L (ai (bd aa L aa ?_))))
 refine bn (cH aa aa (aG (aA (aj (af 1 aa (bj ?_))))))
 refine cb (fun k VE B=>∃(z:Int),(0≤z∧(z≤(A.length:Int)∨z=0))∧(jn z A gg gH)∧k=((A.length:Int) -z).toNat∧aT [(0,.agg [.d (dJ aQ),.d (dJ aB),.d a2,.d (dJ aO),.d a4,.d a5]),(1,.agg [.d (dJ bA),.d a7,.d (dJ gr),.d (dJ hU),.d (dJ gg),.d (dJ gH)]),(2,.vp 2 0),(3,.vp 3 0),(4,dB false),(5,.d (dJ z)),(18,dB false)] VE∧aT [(2,.one 29 96 [.d (dJ aQ),.d (dJ aB),.d a2,.d (dJ aO),.d a4,.d a5]),(3,.one 48 64 [.d (dJ bA),.d a7,.d (dJ gr),.d (dJ hU),.d (dJ gg),.d (dJ gH)])] B) ?_ (k:=((A.length:Int) -0).toNat) ⟨0,ae,(by first|assumption|exact Bw|exact jn.step (by assumption) ae (by assumption) rfl rfl (by assumption)),rfl,⟨rfl,rfl,rfl,rfl,rfl,rfl,rfl,trivial⟩,⟨rfl,rfl,trivial⟩⟩
 rintro _ VE B⟨z,c9,fr,rfl,hV,hB⟩
 refine bz _ _ hV hB (aA (aj (ak 3 aa (ai (bu aa G ?_)))))
 refine af 1 aa (aN aa (fun h8 g8=>?_) (fun h8 g8=>?_))
 ·refine aG (aA (bj (cN (aP 5 aa ?_))))
  obtain⟨r9,iI,lX⟩:=bR z M
  obtain⟨tS,wt,zm,rfl,nH,ou,qo⟩:=c4 lX
  refine aU (bo aa aa G ae iI aa ?_)
  refine aP 1 aa (de aa aa (eF aa (aX aa) (aX aa) ?_))
  obtain⟨Bv,rfl,Ni,Nj⟩:=Ty.az ou
  obtain⟨EI,rfl,Xl,Xm⟩:=Ty.az qo
  refine bP aa (aY aa (aV aa) (Xn (aQ:=gg) (aB:=gH) (bk:=Bv) (aO:=EI) F ae ae ae ae ae ae ae ae) (fun mA _ oI=>?_))
  obtain⟨vF,By,y10_2,rfl,xL,hy10_1,I⟩:=oI
  refine cP 6 aa (aj (af 1 aa (db aa (fun ir=>?_) (fun ir=>?_))))
  ·have k11:=I.1 (by simpa using ir)
   refine aj (af 1 aa (ay ?_))
   exact aE rfl rfl ⟨true,rfl,(by first|exact iff_of_true rfl (.inl ax)|exact iff_of_true rfl (.inr (nO.mk (by assumption) rfl rfl (by assumption)))|exact iff_of_false aD (fun h=>h.elim (fun k=>by omega) (jn.all (by assumption) ae)))⟩
  have k11:¬_:=fun p=>absurd (I.2 p) (by simpa using ir)
  refine aG (aS (ak 1 aa (ai (br aa aa ae ae ?_))))
  refine af 1 aa ?_
  exact⟨((A.length:Int) -((z+1))).toNat,ae,(z+1),ae,(by first|assumption|exact Bw|exact jn.step (by assumption) ae (by assumption) rfl rfl (by assumption)),rfl,⟨rfl,rfl,rfl,rfl,rfl,rfl,rfl,trivial⟩,⟨rfl,rfl,trivial⟩⟩
 refine bV (aj (af 1 aa (ay ?_)))
 exact aE rfl rfl ⟨false,rfl,(by first|exact iff_of_true rfl (.inl ax)|exact iff_of_true rfl (.inr (nO.mk (by assumption) rfl rfl (by assumption)))|exact iff_of_false aD (fun h=>h.elim (fun k=>by omega) (jn.all (by assumption) ae)))⟩
theorem clo96{T:bC}(F:FT T){K:DC}(z:tJ.ok K){aB:Int}(Z: -9223372036854775808≤aB)(mB:aB≤9223372036854775807){bk:Int}(sz: -9223372036854775808≤bk)(sA:bk≤9223372036854775807){bc:Int}(pL: -9223372036854775808≤bc)(pM:bc≤9223372036854775807){bH:Int}(Af: -9223372036854775808≤bH)(Ag:bH≤9223372036854775807):fW T 74 [.agg [.d K,.d (dJ aB),.d (dJ bk)],.vp 1004 0] [(1004,.one 46 16 [.d (dJ bc),.d (dJ bH)])] fun r B=>∃(L:Bool),r=dB L∧B=[(1004,.one 46 16 [.d (dJ bc),.d (dJ bH)])]∧(L=true↔iL bc bH aB bk):=by
 refine lF F.q74 aa ?_
 obtain⟨aQ,rfl,M,O⟩:=Ty.az z
 refine aj (af 2 aa (aj (ak 3 aa (ai (aY aa (aV aa) (interPr (aQ:=bc) (aB:=bH) (bk:=aB) (aO:=bk) F ae ae ae ae ae ae ae ae) (fun r1 _ A=>?_))))))
 obtain⟨U,Y,p,rfl,G,I,J⟩:=A
 exact af 6 aa (aj (af 2 aa (ay (⟨_,[(1004,.one 46 16 [.d (dJ bc),.d (dJ bH)])],aa,⟨aa,trivial⟩,⟨p,aa,aa,lr⟩⟩))))
theorem idxF{T:bC}(F:FT T){a0:DC}{A:List (List DC)}(K:aR A a0)(ed:A.length≤20)(U:aH fy A){aO:Int}(oN: -9223372036854775808≤aO)(oO:aO≤9223372036854775807){bc:Int}(pL: -9223372036854775808≤bc)(pM:bc≤9223372036854775807):fW T 91 [.d a0,.fn 74 [.vp 1003 0]] [(1003,.one 46 16 [.d (dJ aO),.d (dJ bc)])] fun r B=>∃(Y:Int),r= .d (dJ Y)∧B=[(1003,.one 46 16 [.d (dJ aO),.d (dJ bc)])]∧((-1)≤Y∧Y≤(A.length:Int) -1∧((0≤Y→nO A aO bc)∧(Y<0→¬nO A aO bc))):=by
 refine lF F.q91 aa (aj (af 1 aa (aA (aj (ak 1 aa (ai (bu aa K ?_)))))))
 refine af 1 aa (bj ?_)
 refine cb (fun k VE B=>∃(z:Int),(0≤z∧(z≤(A.length:Int)∨z=0))∧(jn z A aO bc)∧k=((A.length:Int) -z).toNat∧aT [(0,.d a0),(1,.fn 74 [.vp 1003 0]),(4,.d i0),(7,.d (dJ (A.length:Int))),(8,.d (dJ z))] VE∧aT [(1003,.one 46 16 [.d (dJ aO),.d (dJ bc)])] B) ?_ (k:=((A.length:Int) -0).toNat) ⟨0,ae,(by first|assumption|exact Bw|exact jn.step (by assumption) ae (by assumption) rfl rfl (by assumption)),rfl,⟨rfl,rfl,rfl,rfl,rfl,trivial⟩,⟨rfl,trivial⟩⟩
 rintro _ VE B⟨z,c9,fr,rfl,hV,hB⟩
 refine bz _ _ hV hB (aj (af 1 aa (aA (aN aa (fun h1 g1=>?_) (fun h1 g1=>?_)))))
 ·refine aG (aA (bj (aj (af 2 aa (aj (ak 3 aa ?_))))))
  obtain⟨r2,dj,dA⟩:=bR z U
  obtain⟨Z,fh,gn,rfl,L,M,O⟩:=c4 dA
  refine ai (bo aa aa K ae dj aa ?_)
  refine ak 1 aa ?_
  obtain⟨G,rfl,xM,xN⟩:=Ty.az M
  obtain⟨I,rfl,xJ,xK⟩:=Ty.az O
  refine ai (LH (dx:=[.agg [.d Z,.d (dJ G),.d (dJ I)],.vp 1004 0]) (Bi:=[(1004,.one 46 16 [.d (dJ aO),.d (dJ bc)])]) [(1004,1003)] 2000 aa aa aa aa aa aa aa aa aa ⟨aa,aa,trivial⟩ (clo96 (aB:=G) (bk:=I) (bc:=aO) (bH:=bc) F L ae ae ae ae ae ae ae ae) (fun r3 Bn3 fv=>?_))
  obtain⟨iG,rfl,rfl,J⟩:=fv
  refine bn (db aa (fun h4=>?_) (fun h4=>?_))
  ·have k4:=J.1 (by simpa using h4)
   refine aj (af 2 aa (ay ?_))
   exact⟨_,[(1003,.one 46 16 [.d (dJ aO),.d (dJ bc)])],rfl,⟨rfl,trivial⟩,⟨z,rfl,rfl,⟨ae,ae,(by first|exact⟨fun _=>nO.mk (by assumption) rfl rfl (by assumption),fun h=>absurd h ax⟩|exact⟨fun h=>absurd h aD,fun _=>jn.all (by assumption) ae⟩)⟩⟩⟩
  have k4:¬_:=fun p=>absurd (J.2 p) (by simpa using h4)
  refine aG (aS (ai (br aa aa ae ae ?_)))
  refine af 1 aa ?_
  exact⟨((A.length:Int) -((z+1))).toNat,ae,(z+1),ae,(by first|assumption|exact Bw|exact jn.step (by assumption) ae (by assumption) rfl rfl (by assumption)),rfl,⟨rfl,rfl,rfl,rfl,rfl,trivial⟩,⟨rfl,trivial⟩⟩
 refine bV (aj (af 1 aa (ay ?_)))
 exact⟨_,[(1003,.one 46 16 [.d (dJ aO),.d (dJ bc)])],rfl,⟨rfl,trivial⟩,⟨(-1),rfl,rfl,⟨ae,ae,(by first|exact⟨fun _=>nO.mk (by assumption) rfl rfl (by assumption),fun h=>absurd h ax⟩|exact⟨fun h=>absurd h aD,fun _=>jn.all (by assumption) ae⟩)⟩⟩⟩
theorem Y9{T:bC}(F:FT T){I:DC}{p:List (List DC)}(z:aR p I)(O:p.length≤20)(A:aH fy p){aO:Int}(Y: -9223372036854775808≤aO)(Z:aO≤9223372036854775807){bc:Int}(pL: -9223372036854775808≤bc)(pM:bc≤9223372036854775807):fW T 55 [.d I,.fn 74 [.vp 1003 0]] [(1003,.one 46 16 [.d (dJ aO),.d (dJ bc)])] fun r B=>∃(U:Bool),r=dB U∧B=[(1003,.one 46 16 [.d (dJ aO),.d (dJ bc)])]∧(U=true↔nO p aO bc):=by
 refine lF F.q55 aa (aj (af 1 aa (aj (ak 2 aa (ai (ns (dx:=[.d I,.fn 74 [.vp 1003 0]]) (Bi:=[(1003,.one 46 16 [.d (dJ aO),.d (dJ bc)])]) [(1003,1003)] 2000 aa aa aa aa aa aa aa ⟨aa,aa,trivial⟩ (idxF (aO:=aO) (bc:=bc) F z ae A ae ae ae ae) (fun r1 Bn1 J=>?_)))))))
 obtain⟨G,rfl,rfl,⟨K,L,M⟩⟩:=J
 refine af 2 aa (ay ?_)
 exact⟨_,[(1003,.one 46 16 [.d (dJ aO),.d (dJ bc)])],rfl,⟨rfl,trivial⟩,⟨decide (0≤G),rfl,rfl,(by simp only[jA];exact cont_iff (by assumption))⟩⟩
theorem keptPr{T:bC}(F:FT T){a0 a1 a2 L a5:DC}(M:tJ.ok a0)(O:tJ.ok a1)(dE:(Ty.x).ok a2){aO:Int}(oN: -9223372036854775808≤aO)(oO:aO≤9223372036854775807){A:List (List DC)}(G:aR A L)(fo:A.length≤20)(I:aH fy A)(dm:(Ty.x).ok a5){bA:Int}(wQ: -9223372036854775808≤bA)(wS:bA≤9223372036854775807){bI:Int}(nX: -9223372036854775808≤bI)(nY:bI≤9223372036854775807):Sound T 44 [.agg [.d a0,.d a1,.d a2,.d (dJ aO),.d L,.d a5],.agg [.d (dJ bA),.d (dJ bI)]] fun r=>∃(y0:Bool),r=dB y0∧(y0=true↔Bx aO A bA bI):=by
 refine ch F.q44 aa ?_
 obtain⟨aQ,rfl,iF,hJ⟩:=Ty.az M
 obtain⟨aB,rfl,eS,eT⟩:=Ty.az O
 refine aj (af 3 aa (aA (aj (ak 1 aa (ai (aY aa (aV aa) (Nk (aQ:=bA) (aB:=bI) F ae ae ae ae) (fun r1 _ U=>?_)))))))
 obtain⟨dV,rfl,z⟩:=U
 refine ak 1 aa (e6 (g:=lU) aa (fun h2=>?_) (fun h2=>?_))
 ·have k2:=z.1 (by simpa using h2)
  refine aq aa h2 (bL aa ?_)
  refine aq aa h2 (bJ aa aa aa ?_)
  refine aq aa h2 (bL aa ?_)
  refine aq aa h2 (bJ aa aa aa ?_)
  refine aq aa h2 (eH aa aa ?_)
  refine ai (aW aa h2 aa ?_)
  refine bn (aN aa (fun h3 g3=>?_) (fun h3 g3=>?_))
  ·refine aj (af 1 aa (ay ?_))
   exact aE rfl rfl ⟨true,rfl,(by first|exact iff_of_true rfl (.inl ax)|exact Iff.trans (by assumption) ⟨.inr,fun h=>h.elim (fun k=>by omega) id⟩)⟩
  refine aG (aj (ak 3 aa (ai (ns (dx:=[.d L,.fn 74 [.vp 1003 0]]) (Bi:=[(1003,.one 46 16 [.d (dJ bA),.d (dJ bI)])]) [(1003,3)] 2000 aa aa aa aa aa aa aa ⟨aa,aa,trivial⟩ (Y9 (aO:=bA) (bc:=bI) F G ae I ae ae ae ae) (fun r4 Bn4 Y=>?_)))))
  obtain⟨J,rfl,rfl,Z⟩:=Y
  refine af 1 aa (ay ?_)
  exact aE rfl rfl ⟨J,rfl,(by first|exact iff_of_true rfl (.inl ax)|exact Iff.trans (by assumption) ⟨.inr,fun h=>h.elim (fun k=>by omega) id⟩)⟩
 have k2:¬_:=fun p=>absurd (z.2 p) (by simpa using h2)
 refine an aa h2 (an aa h2 (an aa h2 (an aa h2 (an aa h2 (ai (bd aa h2 aa ?_))))))
 refine bn (cH aa aa (aG (aj (ak 3 aa (ai (ns (dx:=[.d L,.fn 74 [.vp 1003 0]]) (Bi:=[(1003,.one 46 16 [.d (dJ bA),.d (dJ bI)])]) [(1003,3)] 2000 aa aa aa aa aa aa aa ⟨aa,aa,trivial⟩ (Y9 (aO:=bA) (bc:=bI) F G ae I ae ae ae ae) (fun r5 Sl dL=>?_)))))))
 obtain⟨K,rfl,rfl,jS⟩:=dL
 refine af 1 aa (ay ?_)
 exact aE rfl rfl ⟨K,rfl,(by first|exact iff_of_true rfl (.inl ax)|exact Iff.trans (by assumption) ⟨.inr,fun h=>h.elim (fun k=>by omega) id⟩)⟩
end Go.Ev.Rp
