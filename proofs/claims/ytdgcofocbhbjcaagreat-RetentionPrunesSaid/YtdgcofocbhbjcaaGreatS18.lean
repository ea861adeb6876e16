/- Part 18 of rules for walks through the code of a program, and of such walks; what each part proves is said by its theorems. -/
import Derived.Test.YtdgcofocbhbjcaaGreatS17
set_option linter.unusedVariables false
set_option linter.unusedSimpArgs false
noncomputable section
set_option maxRecDepth 100000
set_option maxHeartbeats 4000000
namespace Go.Ev.Rp
open Go Go.Ev.Pp
theorem checkC{T:bC}(F:FT T){a0 a2:DC}{dP:List (List DC)}(dW:aR dP a0)(ed:dP.length≤200)(cW:aH ji dP){aB:Int}(nd:0≤aB)(mB:aB≤(dP.length:Int) -1){cu:List (List DC)}(cO:aR cu a2)(et:cu.length≤1000000000)(cK:aH cl cu){p:List (List DC)}(O:aH fK p)(hma3:aB+1≤(p.length:Int)):fW T 252 [.d a0,.d (dJ aB),.d a2,.bs 1004 p.length 2] [(1004,.arr 390 16 2 p.length p)] fun r B=>∃y0 y1,r= .agg [.d y0,.d y1]∧B=[(1004,.arr 390 16 2 p.length p)]∧tJ.ok y0∧tJ.ok y1:=by
 refine lF F.q252 aa (aj (af 1 aa (aj (ak 2 aa ?_))))
 obtain⟨r1,pJ,Ah⟩:=bR aB cW
 obtain⟨Q7,Kz,KA,Q8,qG,sj,tU,rfl,BD,EK,EL,JB,EM,JC,PD⟩:=M' Ah
 refine ai (bo aa aa dW ae pJ aa ?_)
 refine af 3 aa (aj (ak 2 aa ?_))
 obtain⟨A,rfl,XC,XD⟩:=Ty.az BD
 refine ai (aY aa (aV aa) (JA (aQ:=A) F ae ae) (fun r2 _ iu=>?_))
 obtain⟨jx,rfl,qu⟩:=iu
 refine af 1 aa (kM (fun VE B=>aT [(0,.d a0),(1,.d (dJ aB)),(2,.d a2),(3,.bs 1004 p.length 2),(8,.vp 8 0),(9,.vp 9 0),(10,.d (dJ jx))] VE∧aT [(8,.one 390 16 [.d i0,.d i0]),(9,.one 181 64 [.d (dJ A),.d Kz,.d KA,.d Q8,.d qG,.d sj,.d tU]),(1004,.arr 390 16 2 p.length p)] B) ?_ ?_)
 ·refine aj (ak 3 aa (bZ (g:=tv) aa (fun h3 g3=>?_) (fun h3 g3=>?_)))
  ·refine an aa h3 (an aa h3 (an aa h3 (an aa h3 (bG aa (bG aa (bG aa (bG aa (an aa h3 (ai (aW aa h3 aa ?_))))))))))
   exact bn (cg aa aa (aj (af 2 aa (ay (⟨_,[(1004,.arr 390 16 2 p.length p)],aa,⟨aa,trivial⟩,⟨i0,(dJ 5),aa,aa,ah,ah⟩⟩)))))
  refine aq aa h3 (bL aa ?_)
  refine aq aa h3 (bJ aa aa aa ?_)
  refine aq aa h3 (en aa aa ?_)
  refine aq aa h3 (bf aa ?_)
  refine bZ (g:=qz) aa (fun h4 g4=>?_) (fun h4 g4=>?_)
  ·refine aq aa h4 (bL aa ?_)
   refine aq aa h4 (iw aa aa (aX aa) (aX aa) ?_)
   refine aq aa h4 (aY aa (aV aa) (Xz F EM JC PD) (fun r5 _ dL=>?_))
   obtain⟨il,rfl,jS⟩:=dL
   obtain⟨EN,rfl⟩:=Ty.bQ jS
   refine aq aa h4 (eQ aa ?_)
   refine aq aa h3 (aW aa h4 aa ?_)
   refine ai (bd aa h3 aa ?_)
   refine bn (db aa (fun h6=>?_) (fun h6=>?_))
   ·exact aj (af 2 aa (ay (⟨_,[(1004,.arr 390 16 2 p.length p)],aa,⟨aa,trivial⟩,⟨i0,(dJ 5),aa,aa,ah,ah⟩⟩)))
   exact aG (⟨⟨aa,aa,aa,aa,aa,aa,aa,trivial⟩,⟨aa,aa,aa,trivial⟩⟩)
  refine an aa h4 (an aa h4 (an aa h4 (an aa h4 (aq aa h3 (bd aa h4 aa ?_)))))
  refine ai (bd aa h3 aa ?_)
  exact bn (cH aa aa (aG (⟨⟨aa,aa,aa,aa,aa,aa,aa,trivial⟩,⟨aa,aa,aa,trivial⟩⟩)))
 rintro VE B⟨hV,hB⟩
 refine bz _ _ hV hB ?_
 obtain⟨G,rfl,hzx1_1,kzx1_1⟩:=Ty.az EK
 obtain⟨I,rfl,hzx1_2,kzx1_2⟩:=Ty.az EL
 obtain⟨K,rfl,hzx1_3,kzx1_3⟩:=Ty.az JB
 refine kM (fun VE B=>(((A=10∨A=11∨(3≤A∧A≤9))→0≤G∧G<aB)∧((3≤A∧A≤9)→0≤I∧I<aB)∧(A=2→0≤K∧K<cu.length))∧aT [(0,.d a0),(1,.d (dJ aB)),(2,.d a2),(3,.bs 1004 p.length 2),(8,.vp 8 0),(9,.vp 9 0),(10,.d (dJ jx))] VE∧aT [(8,.one 390 16 [.d i0,.d i0]),(9,.one 181 64 [.d (dJ A),.d (dJ G),.d (dJ I),.d (dJ K),.d qG,.d sj,.d tU]),(1004,.arr 390 16 2 p.length p)] B) ?_ ?_
 ·refine aj (ak 2 aa (ai (aY aa (aV aa) (XA (aB:=aB) F dW ae cW ae ae pJ) (fun r7 _ nc=>?_))))
  obtain⟨wu,rfl,rJ⟩:=nc
  refine ak 2 aa (e6 (g:=rW) aa (fun h8=>?_) (fun h8=>?_))
  ·refine an aa h8 (an aa h8 (an aa h8 (an aa h8 (bG aa (bG aa (bG aa (bG aa (bG aa (bG aa ?_)))))))))
   refine bG aa (bG aa (bG aa (bG aa (an aa h8 (ai (aW aa h8 aa ?_))))))
   exact bn (cg aa aa (aj (af 2 aa (ay (⟨_,[(1004,.arr 390 16 2 p.length p)],aa,⟨aa,trivial⟩,⟨i0,(dJ 10),aa,aa,ah,ah⟩⟩)))))
  have k8:=rJ (by simpa using h8)
  refine aq aa h8 (bL aa ?_)
  refine aq aa h8 (bJ aa aa aa ?_)
  refine aq aa h8 (en aa aa ?_)
  refine aq aa h8 (bf aa ?_)
  refine bZ (g:=v3) aa (fun h9 g9=>?_) (fun h9 g9=>?_)
  ·refine aq aa h9 (bL aa ?_)
   refine aq aa h9 (bJ aa aa aa ?_)
   refine aq aa h9 (eH aa aa ?_)
   refine aq aa h9 (bf aa ?_)
   refine bZ (g:=jh) aa (fun L fV=>?_) (fun L fV=>?_)
   ·refine an aa L (an aa L (an aa L (an aa L (an aa L (aq aa h9 (aW aa L aa ?_))))))
    refine aq aa h8 (aW aa h9 aa ?_)
    refine ai (bd aa h8 aa ?_)
    exact bn (cg aa aa (aj (af 2 aa (ay (⟨_,[(1004,.arr 390 16 2 p.length p)],aa,⟨aa,trivial⟩,⟨i0,(dJ 10),aa,aa,ah,ah⟩⟩)))))
   refine aq aa L (bL aa ?_)
   refine aq aa L (bJ aa aa aa ?_)
   refine aq aa L (bf aa ?_)
   refine aq aa L (bu aa cO ?_)
   refine aq aa L (jr aa aa ?_)
   refine aq aa h9 (bd aa L aa ?_)
   refine aq aa h8 (aW aa h9 aa ?_)
   refine ai (bd aa h8 aa ?_)
   refine bn (aN aa (fun ir fT=>?_) (fun ir fT=>?_))
   ·exact aj (af 2 aa (ay (⟨_,[(1004,.arr 390 16 2 p.length p)],aa,⟨aa,trivial⟩,⟨i0,(dJ 10),aa,aa,ah,ah⟩⟩)))
   exact aG (⟨ae,⟨aa,aa,aa,aa,aa,aa,aa,trivial⟩,⟨aa,aa,aa,trivial⟩⟩)
  refine an aa h9 (an aa h9 (an aa h9 (an aa h9 (bG aa (bG aa (bG aa (bG aa (bG aa (an aa h9 ?_)))))))))
  refine aq aa h8 (bd aa h9 aa ?_)
  refine ai (bd aa h8 aa ?_)
  exact bn (cH aa aa (aG (⟨ae,⟨aa,aa,aa,aa,aa,aa,aa,trivial⟩,⟨aa,aa,aa,trivial⟩⟩)))
 rintro VE B⟨fj1_0,hV,hB⟩
 refine bz _ _ hV hB (aj (af 2 aa (kM (fun VE B=>∃(J:Int),(-9223372036854775808≤J∧J≤9223372036854775807)∧aT [(0,.d a0),(1,.d (dJ aB)),(2,.d a2),(3,.bs 1004 p.length 2),(8,.vp 8 0),(9,.vp 9 0),(10,.d (dJ jx)),(11,.d (dJ J)),(12,.d i0)] VE∧aT [(8,.one 390 16 [.d i0,.d i0]),(9,.one 181 64 [.d (dJ A),.d (dJ G),.d (dJ I),.d (dJ K),.d qG,.d sj,.d tU]),(1004,.arr 390 16 2 p.length p)] B) ?_ ?_)))
 ·refine aj (af 2 aa (aN aa (fun eM gS=>?_) (fun eM gS=>?_)))
  ·refine aA (aj (ak 3 aa ?_))
   obtain⟨j13,Q9,Cn⟩:=cE (z:=G) (n:=p.length) ae ae
   obtain⟨qQ,sk,qH⟩:=dX Cn O
   obtain⟨rK,yk,rfl,sY,A4⟩:=fc qH
   refine ai (e9 rfl (by rw[←Q9];rfl) Cn ?_)
   refine ak 1 aa (ai (nq (rows:=p) aa aa (bM _) (bM _) Cn sk aa ?_))
   obtain⟨zx13_1,rfl,hzx13_1,kzx13_1⟩:=Ty.az A4
   refine af 1 aa (aN aa (fun fw kG=>?_) (fun fw kG=>?_))
   ·refine aj (ak 3 aa ?_)
    obtain⟨So,F2,zq⟩:=cE (z:=G) (n:=p.length) ae ae
    obtain⟨sw,tQ,sg⟩:=dX zq O
    obtain⟨Ps,Ju,rfl,DO,DP⟩:=fc sg
    refine ai (e9 rfl (by rw[←F2];rfl) zq ?_)
    refine ak 1 aa (ai (nq (rows:=p) aa aa (bM _) (bM _) zq tQ aa ?_))
    exact af 2 aa (ay (⟨_,[(1004,.arr 390 16 2 p.length p)],aa,⟨aa,trivial⟩,⟨i0,Ju,aa,aa,ah,DP⟩⟩))
   refine aG (aS (ak 3 aa ?_))
   obtain⟨GN,zs,wz⟩:=cE (z:=G) (n:=p.length) ae ae
   obtain⟨CL,tR,zt⟩:=dX wz O
   obtain⟨EO,EP,rfl,IJ,NH⟩:=fc zt
   refine ai (e9 rfl (by rw[←zs];rfl) wz ?_)
   refine ak 1 aa (ai (nq (rows:=p) aa aa (bM _) (bM _) wz tR aa ?_))
   refine af 1 aa ?_
   obtain⟨zx16_0,rfl,hzx16_0,kzx16_0⟩:=Ty.az IJ
   exact⟨zx16_0,ae,⟨aa,aa,aa,aa,aa,aa,aa,aa,aa,trivial⟩,⟨aa,aa,aa,trivial⟩⟩
  exact aG (⟨0,ae,⟨aa,aa,aa,aa,aa,aa,aa,aa,aa,trivial⟩,⟨aa,aa,aa,trivial⟩⟩)
 rintro VE B⟨J,fj2_0,hV,hB⟩
 refine bz _ _ hV hB (kM (fun VE B=>∃(M:Int),(-9223372036854775808≤M∧M≤9223372036854775807)∧aT [(0,.d a0),(1,.d (dJ aB)),(2,.d a2),(3,.bs 1004 p.length 2),(8,.vp 8 0),(9,.vp 9 0),(10,.d (dJ jx)),(11,.d (dJ J)),(12,.d (dJ M))] VE∧aT [(8,.one 390 16 [.d i0,.d i0]),(9,.one 181 64 [.d (dJ A),.d (dJ G),.d (dJ I),.d (dJ K),.d qG,.d sj,.d tU]),(1004,.arr 390 16 2 p.length p)] B) ?_ ?_)
 ·refine aj (af 2 aa (aN aa (fun gR jF=>?_) (fun gR jF=>?_)))
  ·refine aA (aj (ak 3 aa ?_))
   obtain⟨Ai,zu,zw⟩:=cE (z:=I) (n:=p.length) ae ae
   obtain⟨CP,qI,zx⟩:=dX zw O
   obtain⟨PE,BE,rfl,A5,A6⟩:=fc zx
   refine ai (e9 rfl (by rw[←zu];rfl) zw ?_)
   refine ak 1 aa (ai (nq (rows:=p) aa aa (bM _) (bM _) zw qI aa ?_))
   obtain⟨zx18_1,rfl,hzx18_1,kzx18_1⟩:=Ty.az A6
   refine af 1 aa (aN aa (fun uA uC=>?_) (fun uA uC=>?_))
   ·refine aj (ak 3 aa ?_)
    obtain⟨j20,Q',KB⟩:=cE (z:=I) (n:=p.length) ae ae
    obtain⟨CQ,wA,nQ⟩:=dX KB O
    obtain⟨PF,Zn,rfl,DS,NI⟩:=fc nQ
    refine ai (e9 rfl (by rw[←Q'];rfl) KB ?_)
    refine ak 1 aa (ai (nq (rows:=p) aa aa (bM _) (bM _) KB wA aa ?_))
    exact af 2 aa (ay (⟨_,[(1004,.arr 390 16 2 p.length p)],aa,⟨aa,trivial⟩,⟨i0,Zn,aa,aa,ah,NI⟩⟩))
   refine aG (aS (ak 3 aa ?_))
   obtain⟨Sp,F3,zy⟩:=cE (z:=I) (n:=p.length) ae ae
   obtain⟨CR,wB,pE⟩:=dX zy O
   obtain⟨BF,ER,rfl,xQ,NJ⟩:=fc pE
   refine ai (e9 rfl (by rw[←F3];rfl) zy ?_)
   refine ak 1 aa (ai (nq (rows:=p) aa aa (bM _) (bM _) zy wB aa ?_))
   refine af 1 aa ?_
   obtain⟨XE,rfl,hzx21_0,kzx21_0⟩:=Ty.az xQ
   exact⟨XE,ae,⟨aa,aa,aa,aa,aa,aa,aa,aa,aa,trivial⟩,⟨aa,aa,aa,trivial⟩⟩
  exact aG (⟨0,ae,⟨aa,aa,aa,aa,aa,aa,aa,aa,aa,trivial⟩,⟨aa,aa,aa,trivial⟩⟩)
 rintro VE B⟨M,fj4_0,hV,hB⟩
 refine bz _ _ hV hB (aA (aj (af 2 aa (bj (aj (af 2 aa (aN aa (fun oQ oR=>?_) (fun oQ oR=>?_))))))))
 ·exact aj (af 5 aa (ay (⟨_,[(1004,.arr 390 16 2 p.length p)],aa,⟨aa,trivial⟩,⟨qG,i0,aa,aa,EM,ah⟩⟩)))
 refine aj (af 2 aa (aN aa (fun fU qU=>?_) (fun fU qU=>?_)))
 ·refine aj (ak 3 aa ?_)
  obtain⟨GO,Ra,F4⟩:=bR K cK
  obtain⟨JD,_,rfl,NK,F4⟩:=b0 F4
  obtain rfl:=dy F4
  refine ai (bo aa aa cO ae Ra aa ?_)
  exact af 3 aa (ay (⟨_,[(1004,.arr 390 16 2 p.length p)],aa,⟨aa,trivial⟩,⟨JD,i0,aa,aa,NK,ah⟩⟩))
 refine aA (aj (af 2 aa (aN aa (fun iJ qV=>?_) (fun iJ qV=>?_))))
 ·refine aG (cg aa iJ (aA (aj (ak 1 aa (ai (aY aa (aV aa) (qs F ah ah) (fun GP _ tV=>?_)))))))
  obtain⟨BG,rfl,sZ⟩:=tV
  obtain⟨XG,rfl⟩:=Ty.bQ sZ
  refine ak 2 aa (e6 (g:=Bf) aa (fun U=>?_) (fun U=>?_))
  ·refine an aa U (an aa U (an aa U (ai (aW aa U aa ?_))))
   exact bn (cg aa aa (aj (af 2 aa (ay (⟨_,[(1004,.arr 390 16 2 p.length p)],aa,⟨aa,trivial⟩,⟨i0,(dJ 7),aa,aa,ah,ah⟩⟩)))))
  refine aq aa U (bf aa ?_)
  refine aq aa U (aY aa (aV aa) (qs F ah ah) (fun GQ _ tW=>?_))
  obtain⟨BH,rfl,xR⟩:=tW
  obtain⟨by28_0,rfl⟩:=Ty.bQ xR
  refine aq aa U (eQ aa ?_)
  refine ai (bd aa U aa ?_)
  refine bn (db aa (fun kJ=>?_) (fun kJ=>?_))
  ·exact aj (af 2 aa (ay (⟨_,[(1004,.arr 390 16 2 p.length p)],aa,⟨aa,trivial⟩,⟨i0,(dJ 7),aa,aa,ah,ah⟩⟩)))
  exact aG (aj (af 2 aa (ay (⟨_,[(1004,.arr 390 16 2 p.length p)],aa,⟨aa,trivial⟩,⟨(dJ 1),i0,aa,aa,ah,ah⟩⟩))))
 refine aj (af 2 aa (aN aa (fun K9 Sq=>?_) (fun K9 Sq=>?_)))
 ·refine aG (cg aa K9 (aA (aj (ak 1 aa (ai (aY aa (aV aa) (qs F ah ah) (fun La _ zA=>?_)))))))
  obtain⟨JE,rfl,NL⟩:=zA
  obtain⟨by31_0,rfl⟩:=Ty.bQ NL
  refine ak 2 aa (e6 (g:=Bf) aa (fun Y=>?_) (fun Y=>?_))
  ·refine an aa Y (an aa Y (an aa Y (ai (aW aa Y aa ?_))))
   exact bn (cg aa aa (aj (af 2 aa (ay (⟨_,[(1004,.arr 390 16 2 p.length p)],aa,⟨aa,trivial⟩,⟨i0,(dJ 7),aa,aa,ah,ah⟩⟩)))))
  refine aq aa Y (bf aa ?_)
  refine aq aa Y (aY aa (aV aa) (qs F ah ah) (fun r33 _ Rb=>?_))
  obtain⟨Zo,rfl,NM⟩:=Rb
  obtain⟨by33_0,rfl⟩:=Ty.bQ NM
  refine aq aa Y (eQ aa ?_)
  refine ai (bd aa Y aa ?_)
  refine bn (db aa (fun jG=>?_) (fun jG=>?_))
  ·exact aj (af 2 aa (ay (⟨_,[(1004,.arr 390 16 2 p.length p)],aa,⟨aa,trivial⟩,⟨i0,(dJ 7),aa,aa,ah,ah⟩⟩)))
  exact aG (aj (af 2 aa (ay (⟨_,[(1004,.arr 390 16 2 p.length p)],aa,⟨aa,trivial⟩,⟨(dJ 1),i0,aa,aa,ah,ah⟩⟩))))
 refine aS (af 2 aa (aN aa (fun GR Sr=>?_) (fun GR Sr=>?_)))
 ·refine aA (aj (ak 1 aa (ai (aY aa (aV aa) (qs F ah ah) (fun r36 _ Rc=>?_)))))
  obtain⟨y36_0,rfl,NN⟩:=Rc
  obtain⟨by36_0,rfl⟩:=Ty.bQ NN
  refine ak 2 aa (e6 (g:=Bf) aa (fun Z=>?_) (fun Z=>?_))
  ·refine an aa Z (an aa Z (an aa Z (ai (aW aa Z aa ?_))))
   exact bn (cg aa aa (aj (af 2 aa (ay (⟨_,[(1004,.arr 390 16 2 p.length p)],aa,⟨aa,trivial⟩,⟨i0,(dJ 7),aa,aa,ah,ah⟩⟩)))))
  refine aq aa Z (bf aa ?_)
  refine aq aa Z (aY aa (aV aa) (qs F ah ah) (fun r38 _ Rd=>?_))
  obtain⟨Zp,rfl,NO⟩:=Rd
  obtain⟨by38_0,rfl⟩:=Ty.bQ NO
  refine aq aa Z (eQ aa ?_)
  refine ai (bd aa Z aa ?_)
  refine bn (db aa (fun Ss=>?_) (fun Ss=>?_))
  ·exact aj (af 2 aa (ay (⟨_,[(1004,.arr 390 16 2 p.length p)],aa,⟨aa,trivial⟩,⟨i0,(dJ 7),aa,aa,ah,ah⟩⟩)))
  exact aG (aj (af 2 aa (ay (⟨_,[(1004,.arr 390 16 2 p.length p)],aa,⟨aa,trivial⟩,⟨(dJ 1),i0,aa,aa,ah,ah⟩⟩))))
 refine aA (aj (af 2 aa (aN aa (fun pP St=>?_) (fun pP St=>?_))))
 ·refine aG (cg aa pP (aj (ak 4 aa (bZ (g:=O5) aa (fun iY Aj=>?_) (fun iY Aj=>?_)))))
  ·refine aq aa iY (bf aa ?_)
   refine aq aa iY (eR aa aa ?_)
   refine ai (aW aa iY aa ?_)
   refine ak 1 aa (bZ (g:=YW) aa (fun jH GS=>?_) (fun jH GS=>?_))
   ·refine aq aa jH (bf aa ?_)
    refine aq aa jH (eR aa aa ?_)
    refine ai (aW aa jH aa ?_)
    refine bn (aN aa (fun h43 g43=>?_) (fun h43 g43=>?_))
    ·exact aj (af 2 aa (ay (⟨_,[(1004,.arr 390 16 2 p.length p)],aa,⟨aa,trivial⟩,⟨i0,(dJ 7),aa,aa,ah,ah⟩⟩)))
    exact aG (aj (af 2 aa (ay (⟨_,[(1004,.arr 390 16 2 p.length p)],aa,⟨aa,trivial⟩,⟨(dJ 3),i0,aa,aa,ah,ah⟩⟩))))
   refine an aa jH (an aa jH (ai (bd aa jH aa ?_)))
   exact bn (cH aa aa (aG (aj (af 2 aa (ay (⟨_,[(1004,.arr 390 16 2 p.length p)],aa,⟨aa,trivial⟩,⟨(dJ 3),i0,aa,aa,ah,ah⟩⟩))))))
  refine an aa iY (an aa iY (ai (bd aa iY aa ?_)))
  refine ak 1 aa (an aa aa (an aa aa (ai (bd aa aa aa ?_))))
  exact bn (cH aa aa (aG (aj (af 2 aa (ay (⟨_,[(1004,.arr 390 16 2 p.length p)],aa,⟨aa,trivial⟩,⟨(dJ 3),i0,aa,aa,ah,ah⟩⟩))))))
 refine aS (af 2 aa (aN aa (fun fH GU=>?_) (fun fH GU=>?_)))
 ·refine aj (ak 4 aa (bZ (g:=O5) aa (fun kK Su=>?_) (fun kK Su=>?_)))
  ·refine aq aa kK (bf aa ?_)
   refine aq aa kK (eR aa aa ?_)
   refine ai (aW aa kK aa ?_)
   refine ak 1 aa (bZ (g:=YW) aa (fun qW Sv=>?_) (fun qW Sv=>?_))
   ·refine aq aa qW (bf aa ?_)
    refine aq aa qW (eR aa aa ?_)
    refine ai (aW aa qW aa ?_)
    refine bn (aN aa (fun oS Sw=>?_) (fun oS Sw=>?_))
    ·exact aj (af 2 aa (ay (⟨_,[(1004,.arr 390 16 2 p.length p)],aa,⟨aa,trivial⟩,⟨i0,(dJ 7),aa,aa,ah,ah⟩⟩)))
    exact aG (aj (af 2 aa (ay (⟨_,[(1004,.arr 390 16 2 p.length p)],aa,⟨aa,trivial⟩,⟨(dJ 3),i0,aa,aa,ah,ah⟩⟩))))
   refine an aa qW (an aa qW (ai (bd aa qW aa ?_)))
   exact bn (cH aa aa (aG (aj (af 2 aa (ay (⟨_,[(1004,.arr 390 16 2 p.length p)],aa,⟨aa,trivial⟩,⟨(dJ 3),i0,aa,aa,ah,ah⟩⟩))))))
  refine an aa kK (an aa kK (ai (bd aa kK aa ?_)))
  refine ak 1 aa (an aa aa (an aa aa (ai (bd aa aa aa ?_))))
  exact bn (cH aa aa (aG (aj (af 2 aa (ay (⟨_,[(1004,.arr 390 16 2 p.length p)],aa,⟨aa,trivial⟩,⟨(dJ 3),i0,aa,aa,ah,ah⟩⟩))))))
 refine aA (aj (af 2 aa (aN aa (fun h48 g48=>?_) (fun h48 g48=>?_))))
 ·refine aG (cg aa h48 (aj (ak 1 aa (ai (aY aa (aV aa) (qs F ah ah) (fun r49 _ hp49=>?_))))))
  obtain⟨y49_0,rfl,hy49_0⟩:=hp49
  obtain⟨by49_0,rfl⟩:=Ty.bQ hy49_0
  refine ak 2 aa (e6 (g:=YX) aa (fun oT=>?_) (fun oT=>?_))
  ·refine an aa oT (an aa oT (an aa oT (ai (aW aa oT aa ?_))))
   exact bn (cg aa aa (aj (af 2 aa (ay (⟨_,[(1004,.arr 390 16 2 p.length p)],aa,⟨aa,trivial⟩,⟨i0,(dJ 7),aa,aa,ah,ah⟩⟩)))))
  refine aq aa oT (bf aa ?_)
  refine aq aa oT (aY aa (aV aa) (qs F ah ah) (fun r51 _ Re=>?_))
  obtain⟨Zq,rfl,NP⟩:=Re
  obtain⟨by51_0,rfl⟩:=Ty.bQ NP
  refine aq aa oT (eQ aa ?_)
  refine ai (bd aa oT aa ?_)
  refine bn (db aa (fun Sx=>?_) (fun Sx=>?_))
  ·exact aj (af 2 aa (ay (⟨_,[(1004,.arr 390 16 2 p.length p)],aa,⟨aa,trivial⟩,⟨i0,(dJ 7),aa,aa,ah,ah⟩⟩)))
  exact aG (aj (af 2 aa (ay (⟨_,[(1004,.arr 390 16 2 p.length p)],aa,⟨aa,trivial⟩,⟨(dJ 3),i0,aa,aa,ah,ah⟩⟩))))
 refine aS (af 2 aa (aN aa (fun h53 g53=>?_) (fun h53 g53=>?_)))
 ·refine aj (ak 1 aa (ai (aY aa (aV aa) (qs F ah ah) (fun r54 _ hp54=>?_))))
  obtain⟨y54_0,rfl,hy54_0⟩:=hp54
  obtain⟨by54_0,rfl⟩:=Ty.bQ hy54_0
  refine ak 2 aa (e6 (g:=YX) aa (fun uE=>?_) (fun uE=>?_))
  ·refine an aa uE (an aa uE (an aa uE (ai (aW aa uE aa ?_))))
   exact bn (cg aa aa (aj (af 2 aa (ay (⟨_,[(1004,.arr 390 16 2 p.length p)],aa,⟨aa,trivial⟩,⟨i0,(dJ 7),aa,aa,ah,ah⟩⟩)))))
  refine aq aa uE (bf aa ?_)
  refine aq aa uE (aY aa (aV aa) (qs F ah ah) (fun r56 _ hp56=>?_))
  obtain⟨y56_0,rfl,hy56_0⟩:=hp56
  obtain⟨by56_0,rfl⟩:=Ty.bQ hy56_0
  refine aq aa uE (eQ aa ?_)
  refine ai (bd aa uE aa ?_)
  refine bn (db aa (fun h57=>?_) (fun h57=>?_))
  ·exact aj (af 2 aa (ay (⟨_,[(1004,.arr 390 16 2 p.length p)],aa,⟨aa,trivial⟩,⟨i0,(dJ 7),aa,aa,ah,ah⟩⟩)))
  exact aG (aj (af 2 aa (ay (⟨_,[(1004,.arr 390 16 2 p.length p)],aa,⟨aa,trivial⟩,⟨(dJ 3),i0,aa,aa,ah,ah⟩⟩))))
 refine aj (af 2 aa (aN aa (fun h58 g58=>?_) (fun h58 g58=>?_)))
 ·refine aj (ak 1 aa (ai (aY aa (aV aa) (qs F ah ah) (fun r59 _ hp59=>?_))))
  obtain⟨y59_0,rfl,hy59_0⟩:=hp59
  obtain⟨by59_0,rfl⟩:=Ty.bQ hy59_0
  refine af 1 aa (db aa (fun h60=>?_) (fun h60=>?_))
  ·exact aj (af 2 aa (ay (⟨_,[(1004,.arr 390 16 2 p.length p)],aa,⟨aa,trivial⟩,⟨i0,(dJ 7),aa,aa,ah,ah⟩⟩)))
  exact aG (aj (af 2 aa (ay (⟨_,[(1004,.arr 390 16 2 p.length p)],aa,⟨aa,trivial⟩,⟨(dJ 3),i0,aa,aa,ah,ah⟩⟩))))
 exact aG (aj (af 2 aa (ay (⟨_,[(1004,.arr 390 16 2 p.length p)],aa,⟨aa,trivial⟩,⟨(dJ 3),i0,aa,aa,ah,ah⟩⟩))))
theorem CheckC{T:bC}(F:FT T){a0 a1 a2:DC}{J:List (List DC)}(K:aR J a0)(ed:J.length≤1000000000)(cW:aH ji J)(da:tJ.ok a1){Y:List (List DC)}(cO:aR Y a2)(et:Y.length≤1000000000)(cK:aH cl Y):Sound T 213 [.d a0,.d a1,.d a2] fun r=>∃y0 y1,r= .tuple [.d y0,.d y1]∧tJ.ok y0∧tJ.ok y1:=by
 refine ch F.q213 aa ?_
 obtain⟨aB,rfl,eS,eT⟩:=Ty.az da
 refine aj (af 2 aa (aA (aj (ak 1 aa (ai (bu aa K ?_))))))
 refine af 1 aa (aN aa (fun h1 g1=>?_) (fun h1 g1=>?_))
 ·exact aj (af 2 aa (ay (aE aa aa ⟨i0,(dJ 4),aa,ah,ah⟩)))
 refine aG (aA (aj (ak 3 aa (bZ (g:=rT) aa (fun h2 g2=>?_) (fun h2 g2=>?_)))))
 ·refine an aa h2 (an aa h2 (an aa h2 (an aa h2 (ai (aW aa h2 aa ?_)))))
  exact bn (cg aa aa (aj (af 2 aa (ay (aE aa aa ⟨i0,(dJ 10),aa,ah,ah⟩)))))
 refine aq aa h2 (bf aa ?_)
 refine aq aa h2 (bf aa ?_)
 refine aq aa h2 (bu aa K ?_)
 refine aq aa h2 (jr aa aa ?_)
 refine ai (bd aa h2 aa ?_)
 refine bn (aN aa (fun h3 g3=>?_) (fun h3 g3=>?_))
 ·exact aj (af 2 aa (ay (aE aa aa ⟨i0,(dJ 10),aa,ah,ah⟩)))
 refine aG (aj (ak 1 aa (ai (br aa aa ae ae ?_))))
 obtain⟨n4,hn4⟩:∃n:Nat,(aB+1)=n:=⟨((aB+1)).toNat,(yb ae).symm⟩
 refine ai (Dc (n:=n4) 23 rfl rfl rfl rfl rfl (by rw[←hn4];rfl) (by rw[←hn4];rfl) ae ae (fun w4 Sy hl4=>?_))
 have Sz:aH fK w4:=by subst Sy;exact Db (ao ah (ao ah bm))
 refine af 1 aa (aA (aj (af 1 aa (bj (cb (fun k VE B=>∃(G:Int)(I:Nat)(p:List (List DC)),(0≤G∧(G≤(aB+1)∨G=0))∧(p.length=I)∧(I=w4.length)∧(aH fK p)∧k=(((aB+1):Int) -G).toNat∧aT [(0,.d a0),(1,.d (dJ aB)),(2,.d a2),(6,.d i0),(7,.d i0),(8,.bs 23 I 2),(9,.d (dJ G)),(12,dB (decide (200<(J.length:Int)))),(20,dB (decide ((J.length:Int)≤aB)))] VE∧aT [(23,.arr 390 16 2 I p)] B) ?_ (k:=(((aB+1):Int) -0).toNat) ⟨0,(w4.length),w4,ae,gG,ae,Sz,aa,⟨aa,aa,aa,aa,aa,aa,aa,aa,aa,trivial⟩,⟨aa,trivial⟩⟩)))))
 rintro _ VE B⟨G,I,p,c9,rfl,wC,A,rfl,hV,hB⟩
 refine bz _ _ hV hB (aA (aj (af 3 aa (aN aa (fun h5 g5=>?_) (fun h5 g5=>?_)))))
 ·refine aG (aA (bj (aS (ak 6 aa (ai (ns (dx:=[.d a0,.d (dJ G),.d a2,.bs 1004 (p.length) 2]) (Bi:=[(1004,.arr 390 16 2 (p.length) p)]) [(1004,23)] 2000 aa aa aa aa aa aa aa ⟨aa,aa,trivial⟩ (checkC (aB:=G) F K ae cW ae ae cO ae cK A ae) (fun r6 Bn6 iW=>?_)))))))
  obtain⟨oH,F0,rfl,rfl,Z,rH⟩:=iW
  obtain⟨j7,lD,gu⟩:=cE (z:=G) (n:=p.length) ae ae
  obtain⟨r7,eY,gv⟩:=dX gu A
  obtain⟨nP,qF,rfl,ku,mj⟩:=fc gv
  refine ai (e9 rfl (by rw[←lD];rfl) gu ?_)
  refine jd (pU aa aa aa aa aa aa aD aD eY (fun w8 nh qS=>?_))
  have oP:aH fK w8:=by rw[nh];exact hZ A (ao Z (ao rH bm))
  rw[←qS]
  refine bn (aS (ak 1 aa (ai (br aa aa ae ae ?_))))
  exact af 1 aa (⟨(((aB+1):Int) -((G+1))).toNat,ae,(G+1),(w8.length),w8,ae,gG,ae,oP,aa,⟨aa,aa,aa,aa,aa,aa,aa,aa,aa,trivial⟩,⟨aa,trivial⟩⟩)
 refine bV (aA (aj (ak 2 aa ?_)))
 obtain⟨j9,Ak,uF⟩:=cE (z:=aB) (n:=p.length) ae ae
 obtain⟨r9,iI,lX⟩:=dX uF A
 obtain⟨tS,wt,rfl,nH,ou⟩:=fc lX
 refine ai (e9 rfl (by rw[←Ak];rfl) uF ?_)
 refine ak 1 aa (ai (nq (rows:=p) aa aa (bM _) (bM _) uF iI aa ?_))
 obtain⟨Bv,rfl,Ni,Nj⟩:=Ty.az ou
 refine af 1 aa (aN aa (fun gx fV=>?_) (fun gx fV=>?_))
 ·refine cN (aP 2 aa ?_)
  obtain⟨uz,zp,L⟩:=cE (z:=aB) (n:=p.length) ae ae
  obtain⟨pN,zB,zD⟩:=dX L A
  obtain⟨PG,ES,rfl,xS,O⟩:=fc zD
  refine aU (e9 rfl (by rw[←zp];rfl) L ?_)
  refine aP 1 aa (bP aa (nq (rows:=p) aa aa (bM _) (bM _) L zB aa ?_))
  exact cP 2 aa (ay (aE aa aa ⟨i0,ES,aa,ah,O⟩))
 refine aG (aj (ak 2 aa ?_))
 obtain⟨j12,F5,M⟩:=cE (z:=aB) (n:=p.length) ae ae
 obtain⟨nW,nR,jy⟩:=dX M A
 obtain⟨rL,vJ,rfl,U,xT⟩:=fc jy
 refine ai (e9 rfl (by rw[←F5];rfl) M ?_)
 refine ak 1 aa (ai (nq (rows:=p) aa aa (bM _) (bM _) M nR aa ?_))
 exact af 2 aa (ay (aE aa aa ⟨rL,i0,aa,U,ah⟩))
end Go.Ev.Rp
namespace Go.Ev.Rp
open Go Go.Ev.Pp
theorem evalC{T:bC}(F:FT T){a0 a2:DC}{dP:List (List DC)}(dW:aR dP a0)(ed:dP.length≤200)(cW:aH ji dP){aB:Int}(nd:0≤aB)(mB:aB≤(dP.length:Int) -1){cu:List (List DC)}(cO:aR cu a2)(et:cu.length≤1000000000)(cK:aH ee cu){p:List (List DC)}(ef:aH ee p)(hma3:aB+1≤(p.length:Int)):fW T 275 [.d a0,.d (dJ aB),.d a2,.bs 1004 p.length 3] [(1004,.arr 95 32 3 p.length p)] fun r B=>∃y0 y1 y2,r= .agg [.d y0,.d y1,.d y2]∧B=[(1004,.arr 95 32 3 p.length p)]∧tJ.ok y0∧tJ.ok y1∧(Ty.s 1000).ok y2:=by
 refine lF F.q275 aa (aj (af 1 aa (aj (ak 2 aa ?_))))
 obtain⟨r1,pJ,Ah⟩:=bR aB cW
 obtain⟨Q7,Kz,KA,Q8,qG,sj,tU,rfl,BD,EK,EL,JB,EM,JC,PD⟩:=M' Ah
 refine ai (bo aa aa dW ae pJ aa ?_)
 refine af 3 aa (aj (ak 2 aa ?_))
 obtain⟨M,rfl,XC,XD⟩:=Ty.az BD
 refine ai (aY aa (aV aa) (JA (aQ:=M) F ae ae) (fun r2 _ iu=>?_))
 obtain⟨jx,rfl,qu⟩:=iu
 refine af 1 aa ?_
 obtain⟨Z,rfl,hzx1_1,kzx1_1⟩:=Ty.az EK
 obtain⟨BI,rfl,hzx1_2,kzx1_2⟩:=Ty.az EL
 obtain⟨JF,rfl,hzx1_3,kzx1_3⟩:=Ty.az JB
 refine kM (fun VE B=>(((M=10∨M=11∨(3≤M∧M≤9))→0≤Z∧Z<aB)∧((3≤M∧M≤9)→0≤BI∧BI<aB))∧aT [(0,.d a0),(1,.d (dJ aB)),(2,.d a2),(3,.bs 1004 p.length 3),(8,.vp 8 0),(9,.vp 9 0),(10,.d (dJ jx))] VE∧aT [(8,.one 95 32 [.d i0,.d i0,dS []]),(9,.one 181 64 [.d (dJ M),.d (dJ Z),.d (dJ BI),.d (dJ JF),.d qG,.d sj,.d tU]),(1004,.arr 95 32 3 p.length p)] B) ?_ ?_
 ·refine aj (ak 3 aa (bZ (g:=tv) aa (fun h3 g3=>?_) (fun h3 g3=>?_)))
  ·refine an aa h3 (an aa h3 (an aa h3 (an aa h3 (ai (aW aa h3 aa ?_)))))
   exact bn (cg aa aa (aj (af 2 aa (ay (⟨_,[(1004,.arr 95 32 3 p.length p)],aa,⟨aa,trivial⟩,⟨i0,i0,(al []),aa,aa,ah,ah,(aJ (s:=[]) aD)⟩⟩)))))
  refine aq aa h3 (bf aa ?_)
  refine aq aa h3 (bf aa ?_)
  refine aq aa h3 (aY aa (aV aa) (XA (aB:=aB) F dW ae cW ae ae pJ) (fun r4 _ eo=>?_))
  obtain⟨fk,rfl,mN⟩:=eo
  refine aq aa h3 (eQ aa ?_)
  refine ai (bd aa h3 aa ?_)
  refine bn (db aa (fun h5=>?_) (fun h5=>?_))
  ·exact aj (af 2 aa (ay (⟨_,[(1004,.arr 95 32 3 p.length p)],aa,⟨aa,trivial⟩,⟨i0,i0,(al []),aa,aa,ah,ah,(aJ (s:=[]) aD)⟩⟩)))
  have k5:=mN (by simpa using h5)
  exact aG (⟨ae,⟨aa,aa,aa,aa,aa,aa,aa,trivial⟩,⟨aa,aa,aa,trivial⟩⟩)
 rintro VE B⟨fj0_0,hV,hB⟩
 refine bz _ _ hV hB (aj (af 2 aa (kM (fun VE B=>∃(O:DC)(U:DC)(Y:DC),(tJ.ok O)∧(tJ.ok U)∧((Ty.s 1000).ok Y)∧aT [(0,.d a0),(1,.d (dJ aB)),(2,.d a2),(3,.bs 1004 p.length 3),(8,.vp 8 0),(9,.vp 9 0),(10,.d (dJ jx)),(11,.vp 11 0),(12,.vp 12 0)] VE∧aT [(8,.one 95 32 [.d i0,.d i0,dS []]),(9,.one 181 64 [.d (dJ M),.d (dJ Z),.d (dJ BI),.d (dJ JF),.d qG,.d sj,.d tU]),(11,.one 95 32 [.d O,.d U,.d Y]),(12,.one 95 32 [.d i0,.d i0,dS []]),(1004,.arr 95 32 3 p.length p)] B) ?_ ?_)))
 ·refine aj (af 2 aa (aN aa (fun h6 g6=>?_) (fun h6 g6=>?_)))
  ·refine aS (ak 3 aa ?_)
   obtain⟨j7,lD,gu⟩:=cE (z:=Z) (n:=p.length) ae ae
   obtain⟨r7,eY,gv⟩:=dX gu ef
   obtain⟨nP,qF,wx,rfl,ku,mj,nJ⟩:=c4 gv
   refine ai (e9 rfl (by rw[←lD];rfl) gu ?_)
   refine ai (C2 (rows:=p) aa aa (bM _) (bM _) gu eY (aX aa) (aX aa) ?_)
   exact af 1 aa (⟨nP,qF,wx,ku,mj,nJ,⟨aa,aa,aa,aa,aa,aa,aa,aa,aa,trivial⟩,⟨aa,aa,aa,aa,aa,trivial⟩⟩)
  exact aG (⟨i0,i0,(al []),ah,ah,(aJ (s:=[]) aD),⟨aa,aa,aa,aa,aa,aa,aa,aa,aa,trivial⟩,⟨aa,aa,aa,aa,aa,trivial⟩⟩)
 rintro VE B⟨O,U,Y,A,G,I,hV,hB⟩
 refine bz _ _ hV hB (kM (fun VE B=>∃(L4:DC)(L5:DC)(L6:DC),(tJ.ok L4)∧(tJ.ok L5)∧((Ty.s 1000).ok L6)∧aT [(0,.d a0),(1,.d (dJ aB)),(2,.d a2),(3,.bs 1004 p.length 3),(8,.vp 8 0),(9,.vp 9 0),(10,.d (dJ jx)),(11,.vp 11 0),(12,.vp 12 0)] VE∧aT [(8,.one 95 32 [.d i0,.d i0,dS []]),(9,.one 181 64 [.d (dJ M),.d (dJ Z),.d (dJ BI),.d (dJ JF),.d qG,.d sj,.d tU]),(11,.one 95 32 [.d O,.d U,.d Y]),(12,.one 95 32 [.d L4,.d L5,.d L6]),(1004,.arr 95 32 3 p.length p)] B) ?_ ?_)
 ·refine aj (af 2 aa (aN aa (fun h8 g8=>?_) (fun h8 g8=>?_)))
  ·refine aS (ak 3 aa ?_)
   obtain⟨j9,Ak,uF⟩:=cE (z:=BI) (n:=p.length) ae ae
   obtain⟨r9,iI,lX⟩:=dX uF ef
   obtain⟨tS,wt,zm,rfl,nH,ou,qo⟩:=c4 lX
   refine ai (e9 rfl (by rw[←Ak];rfl) uF ?_)
   refine ai (C2 (rows:=p) aa aa (bM _) (bM _) uF iI (aX aa) (aX aa) ?_)
   exact af 1 aa (⟨tS,wt,zm,nH,ou,qo,⟨aa,aa,aa,aa,aa,aa,aa,aa,aa,trivial⟩,⟨aa,aa,aa,aa,aa,trivial⟩⟩)
  exact aG (⟨i0,i0,(al []),ah,ah,(aJ (s:=[]) aD),⟨aa,aa,aa,aa,aa,aa,aa,aa,aa,trivial⟩,⟨aa,aa,aa,aa,aa,trivial⟩⟩)
 rintro VE B⟨L4,L5,L6,J,K,L,hV,hB⟩
 refine bz _ _ hV hB (aA (aj (af 2 aa (bj (aj (af 2 aa (aN aa (fun gx fV=>?_) (fun gx fV=>?_))))))))
 ·exact aj (af 3 aa (ay (⟨_,[(1004,.arr 95 32 3 p.length p)],aa,⟨aa,trivial⟩,⟨qG,sj,tU,aa,aa,EM,JC,PD⟩⟩)))
 refine aj (af 2 aa (aN aa (fun ir fT=>?_) (fun ir fT=>?_)))
 ·refine aA (aj (ak 4 aa (bZ (g:=jV) aa (fun eM gS=>?_) (fun eM gS=>?_))))
  ·refine an aa eM (an aa eM (an aa eM (an aa eM (an aa eM (ai (aW aa eM aa ?_))))))
   exact bn (cg aa aa (aj (af 2 aa (ay (⟨_,[(1004,.arr 95 32 3 p.length p)],aa,⟨aa,trivial⟩,⟨i0,i0,(al []),aa,aa,ah,ah,(aJ (s:=[]) aD)⟩⟩)))))
  refine aq aa eM (bL aa ?_)
  refine aq aa eM (bJ aa aa aa ?_)
  refine aq aa eM (bf aa ?_)
  refine aq aa eM (bu aa cO ?_)
  refine aq aa eM (jr aa aa ?_)
  refine ai (bd aa eM aa ?_)
  refine bn (aN aa (fun eD iv=>?_) (fun eD iv=>?_))
  ·exact aj (af 2 aa (ay (⟨_,[(1004,.arr 95 32 3 p.length p)],aa,⟨aa,trivial⟩,⟨i0,i0,(al []),aa,aa,ah,ah,(aJ (s:=[]) aD)⟩⟩)))
  refine aG (aj (ak 3 aa ?_))
  obtain⟨sB,lv,lQ⟩:=bR JF cK
  obtain⟨yl,ET,JG,rfl,o8,xU,A7⟩:=c4 lQ
  refine ai (bo aa aa cO ae lv aa ?_)
  exact af 2 aa (ay (⟨_,[(1004,.arr 95 32 3 p.length p)],aa,⟨aa,trivial⟩,⟨yl,ET,JG,aa,aa,o8,xU,A7⟩⟩))
 refine aj (af 2 aa (aN aa (fun nj kI=>?_) (fun nj kI=>?_)))
 ·refine aj ?_
  obtain⟨UC,rfl,TW,TX⟩:=Ty.az A
  refine ak 4 aa (bZ (g:=Qy) aa (fun eE jE=>?_) (fun eE jE=>?_))
  ·refine aq aa eE (bL aa ?_)
   refine aq aa eE (bJ aa aa aa ?_)
   obtain⟨zc12_0_j2,rfl,hzc12_0_j2,kzc12_0_j2⟩:=Ty.az J
   refine aq aa eE (eR aa aa ?_)
   refine ai (aW aa eE aa ?_)
   refine ak 1 aa (bZ (g:=Qz) aa (fun gR jF=>?_) (fun gR jF=>?_))
   ·refine aq aa gR (iw aa aa (aX aa) (aX aa) ?_)
    refine aq aa gR (iw aa aa (aX aa) (aX aa) ?_)
    refine aq aa gR (aY aa (aV aa) (PB F ah G I ah K L) (fun CP _ F6=>?_))
    obtain⟨Zr,rfl,NQ⟩:=F6
    obtain⟨zy18_0,rfl,hzy18_0,kzy18_0⟩:=Ty.az NQ
    refine aq aa gR (en aa aa ?_)
    refine ai (aW aa gR aa ?_)
    refine ai (aY aa (aV aa) (pg F bQ) (fun Al _ zE=>?_))
    obtain⟨JH,Zs,y19_2,rfl,DT,NR,hy19_2⟩:=zE
    exact af 1 aa (ay (⟨_,[(1004,.arr 95 32 3 p.length p)],aa,⟨aa,trivial⟩,⟨JH,Zs,y19_2,aa,aa,DT,NR,hy19_2⟩⟩))
   refine an aa gR (an aa gR (an aa gR (an aa gR (ai (bd aa gR aa ?_)))))
   refine ai (aY aa (aV aa) (pg F bQ) (fun CQ _ F7=>?_))
   obtain⟨ym,PH,y20_2,rfl,NS,hy20_1,hy20_2⟩:=F7
   exact af 1 aa (ay (⟨_,[(1004,.arr 95 32 3 p.length p)],aa,⟨aa,trivial⟩,⟨ym,PH,y20_2,aa,aa,NS,hy20_1,hy20_2⟩⟩))
  refine an aa eE (an aa eE (an aa eE (ai (bd aa eE aa ?_))))
  refine ak 1 aa (an aa aa (an aa aa (an aa aa (an aa aa (ai (bd aa aa aa ?_))))))
  refine ai (aY aa (aV aa) (pg F bQ) (fun CR _ F8=>?_))
  obtain⟨JI,y21_1,y21_2,rfl,NT,hy21_1,hy21_2⟩:=F8
  exact af 1 aa (ay (⟨_,[(1004,.arr 95 32 3 p.length p)],aa,⟨aa,trivial⟩,⟨JI,y21_1,y21_2,aa,aa,NT,hy21_1,hy21_2⟩⟩))
 refine aj (af 2 aa (aN aa (fun oQ oR=>?_) (fun oQ oR=>?_)))
 ·refine aj ?_
  obtain⟨UC,rfl,TW,TX⟩:=Ty.az A
  refine ak 4 aa (bZ (g:=QD) aa (fun fU qU=>?_) (fun fU qU=>?_))
  ·refine aq aa fU (bL aa ?_)
   refine aq aa fU (bJ aa aa aa ?_)
   refine aq aa fU (bL aa ?_)
   refine aq aa fU (bJ aa aa aa ?_)
   obtain⟨zc12_0_j2,rfl,hzc12_0_j2,kzc12_0_j2⟩:=Ty.az J
   refine aq aa fU (en aa aa ?_)
   refine ai (aW aa fU aa ?_)
   refine ak 1 aa (bZ (g:=FD) aa (fun gy Am=>?_) (fun gy Am=>?_))
   ·refine aq aa gy (iw aa aa (aX aa) (aX aa) ?_)
    refine aq aa gy (iw aa aa (aX aa) (aX aa) ?_)
    refine aq aa gy (aY aa (aV aa) (PB F ah G I ah K L) (fun r25 _ hp25=>?_))
    obtain⟨y25_0,rfl,hy25_0⟩:=hp25
    obtain⟨zy25_0,rfl,hzy25_0,kzy25_0⟩:=Ty.az hy25_0
    refine aq aa gy (eH aa aa ?_)
    refine ai (aW aa gy aa ?_)
    refine ai (aY aa (aV aa) (pg F bQ) (fun GP _ tV=>?_))
    obtain⟨BG,Zt,PI,rfl,sZ,NU,hy26_2⟩:=tV
    exact af 1 aa (ay (⟨_,[(1004,.arr 95 32 3 p.length p)],aa,⟨aa,trivial⟩,⟨BG,Zt,PI,aa,aa,sZ,NU,hy26_2⟩⟩))
   refine an aa gy (an aa gy (an aa gy (an aa gy (ai (bd aa gy aa ?_)))))
   refine ai (aY aa (aV aa) (pg F bQ) (fun r27 _ Rf=>?_))
   obtain⟨PJ,PK,PL,rfl,NV,NW,hy27_2⟩:=Rf
   exact af 1 aa (ay (⟨_,[(1004,.arr 95 32 3 p.length p)],aa,⟨aa,trivial⟩,⟨PJ,PK,PL,aa,aa,NV,NW,hy27_2⟩⟩))
  refine an aa fU (an aa fU (an aa fU (an aa fU (an aa fU (ai (bd aa fU aa ?_))))))
  refine ak 1 aa (an aa aa (an aa aa (an aa aa (an aa aa (ai (bd aa aa aa ?_))))))
  refine ai (aY aa (aV aa) (pg F bQ) (fun GQ _ tW=>?_))
  obtain⟨BH,PM,Zu,rfl,xR,hy28_1,hy28_2⟩:=tW
  exact af 1 aa (ay (⟨_,[(1004,.arr 95 32 3 p.length p)],aa,⟨aa,trivial⟩,⟨BH,PM,Zu,aa,aa,xR,hy28_1,hy28_2⟩⟩))
 refine aj (af 2 aa (aN aa (fun kJ GV=>?_) (fun kJ GV=>?_)))
 ·refine aj (ak 1 aa (ai (aY aa (aV aa) (BC F A G I) (fun wX _ oK=>?_))))
  obtain⟨jT,rfl,mb⟩:=oK
  obtain⟨XH,rfl⟩:=Ty.bQ mb
  refine ak 1 aa (e6 (g:=O0) aa (fun gU=>?_) (fun gU=>?_))
  ·refine aq aa gU (iw aa aa (aX aa) (aX aa) ?_)
   refine aq aa gU (aY aa (aV aa) (BC F J K L) (fun Lb _ zF=>?_))
   obtain⟨Zv,rfl,NX⟩:=zF
   refine ai (aW aa gU aa ?_)
   refine ai (aY aa (aV aa) (pg F NX) (fun r33 _ Rb=>?_))
   obtain⟨Zo,y33_1,y33_2,rfl,NM,hy33_1,hy33_2⟩:=Rb
   exact af 1 aa (ay (⟨_,[(1004,.arr 95 32 3 p.length p)],aa,⟨aa,trivial⟩,⟨Zo,y33_1,y33_2,aa,aa,NM,hy33_1,hy33_2⟩⟩))
  refine an aa gU (an aa gU (ai (bd aa gU aa ?_)))
  refine ai (aY aa (aV aa) (pg F bQ) (fun r34 _ Rg=>?_))
  obtain⟨Zw,y34_1,Zx,rfl,hy34_0,hy34_1,hy34_2⟩:=Rg
  exact af 1 aa (ay (⟨_,[(1004,.arr 95 32 3 p.length p)],aa,⟨aa,trivial⟩,⟨Zw,y34_1,Zx,aa,aa,hy34_0,hy34_1,hy34_2⟩⟩))
 refine aj (af 2 aa (aN aa (fun GR Sr=>?_) (fun GR Sr=>?_)))
 ·refine aj (ak 1 aa (ai (aY aa (aV aa) (BC F A G I) (fun r36 _ Rc=>?_))))
  obtain⟨y36_0,rfl,NN⟩:=Rc
  obtain⟨by36_0,rfl⟩:=Ty.bQ NN
  refine ak 1 aa (e6 (g:=O3) aa (fun jI=>?_) (fun jI=>?_))
  ·refine an aa jI (an aa jI (ai (aW aa jI aa ?_)))
   refine ai (aY aa (aV aa) (pg F bQ) (fun r38 _ Rd=>?_))
   obtain⟨Zp,y38_1,y38_2,rfl,NO,hy38_1,hy38_2⟩:=Rd
   exact af 1 aa (ay (⟨_,[(1004,.arr 95 32 3 p.length p)],aa,⟨aa,trivial⟩,⟨Zp,y38_1,y38_2,aa,aa,NO,hy38_1,hy38_2⟩⟩))
  refine aq aa jI (iw aa aa (aX aa) (aX aa) ?_)
  refine aq aa jI (aY aa (aV aa) (BC F J K L) (fun r39 _ Rh=>?_))
  obtain⟨y39_0,rfl,hy39_0⟩:=Rh
  refine ai (bd aa jI aa ?_)
  refine ai (aY aa (aV aa) (pg F hy39_0) (fun r40 _ Ri=>?_))
  obtain⟨Zy,y40_1,Zz,rfl,hy40_0,hy40_1,NY⟩:=Ri
  exact af 1 aa (ay (⟨_,[(1004,.arr 95 32 3 p.length p)],aa,⟨aa,trivial⟩,⟨Zy,y40_1,Zz,aa,aa,hy40_0,hy40_1,NY⟩⟩))
 refine aj (af 2 aa (aN aa (fun iY Aj=>?_) (fun iY Aj=>?_)))
 ·refine aj (ak 1 aa (ai (aY aa (aV aa) (BC F A G I) (fun r42 _ Rj=>?_))))
  obtain⟨ZA,rfl,NZ⟩:=Rj
  obtain⟨by42_0,rfl⟩:=Ty.bQ NZ
  refine ak 1 aa (ai (aY aa (aV aa) (pg F bQ) (fun r43 _ F9=>?_)))
  obtain⟨PN,ZB,ZC,rfl,DU,N0,N1⟩:=F9
  exact af 1 aa (ay (⟨_,[(1004,.arr 95 32 3 p.length p)],aa,⟨aa,trivial⟩,⟨PN,ZB,ZC,aa,aa,DU,N0,N1⟩⟩))
 refine aj (af 2 aa (aN aa (fun fH GU=>?_) (fun fH GU=>?_)))
 ·refine aj ?_
  obtain⟨UC,rfl,TW,TX⟩:=Ty.az A
  refine ak 3 aa (ai (aY aa (aV aa) (pg F bQ) (fun r45 _ Rk=>?_)))
  obtain⟨ZD,y45_1,y45_2,rfl,N3,hy45_1,hy45_2⟩:=Rk
  exact af 1 aa (ay (⟨_,[(1004,.arr 95 32 3 p.length p)],aa,⟨aa,trivial⟩,⟨ZD,y45_1,y45_2,aa,aa,N3,hy45_1,hy45_2⟩⟩))
 refine aG (aj (ak 4 aa (ai (aY aa (aV aa) (arithC F ah A G I J K L) (fun r46 _ hp46=>?_)))))
 obtain⟨y46_0,y46_1,y46_2,rfl,hy46_0,hy46_1,hy46_2⟩:=hp46
 exact af 1 aa (ay (⟨_,[(1004,.arr 95 32 3 p.length p)],aa,⟨aa,trivial⟩,⟨y46_0,y46_1,y46_2,aa,aa,hy46_0,hy46_1,hy46_2⟩⟩))
theorem ZE{T:bC}(F:FT T){a0 a1 a2:DC}{K:List (List DC)}(L:aR K a0)(ed:K.length≤200)(cW:aH ji K)(da:tJ.ok a1){M:List (List DC)}(cO:aR M a2)(et:M.length≤1000000000)(cK:aH ee M):Sound T 241 [.d a0,.d a1,.d a2] fun r=>∃y0 y1 y2,r= .agg [.d y0,.d y1,.d y2]∧tJ.ok y0∧tJ.ok y1∧(Ty.s 1000).ok y2:=by
 refine ch F.q241 aa ?_
 obtain⟨aB,rfl,eS,eT⟩:=Ty.az da
 refine aj (af 1 aa (aA (aj (ak 3 aa (bZ (g:=po) aa (fun J g1=>?_) (fun J g1=>?_))))))
 ·refine an aa J (an aa J (an aa J (an aa J (ai (aW aa J aa ?_)))))
  exact bn (cg aa aa (aj (af 2 aa (ay (aE aa aa ⟨i0,i0,(al []),aa,ah,ah,(aJ (s:=[]) aD)⟩)))))
 refine aq aa J (bf aa ?_)
 refine aq aa J (bf aa ?_)
 refine aq aa J (bu aa L ?_)
 refine aq aa J (jr aa aa ?_)
 refine ai (bd aa J aa ?_)
 refine bn (aN aa (fun h2 g2=>?_) (fun h2 g2=>?_))
 ·exact aj (af 2 aa (ay (aE aa aa ⟨i0,i0,(al []),aa,ah,ah,(aJ (s:=[]) aD)⟩)))
 refine aG (aj (ak 1 aa (ai (br aa aa ae ae ?_))))
 obtain⟨n3,GW⟩:∃n:Nat,(aB+1)=n:=⟨((aB+1)).toNat,(yb ae).symm⟩
 refine ai (Dc (n:=n3) 20 rfl rfl rfl rfl rfl (by rw[←GW];rfl) (by rw[←GW];rfl) ae ae (fun w3 SA SB=>?_))
 have sC:aH ee w3:=by subst SA;exact Db (ao ah (ao ah (ao (aJ (s:=[]) aD) bm)))
 refine af 1 aa (aA (aj (af 1 aa (bj (cb (fun k VE B=>∃(A:Int)(I:Nat)(p:List (List DC)),(0≤A∧(A≤(aB+1)∨A=0))∧(p.length=I)∧(I=w3.length)∧(aH ee p)∧k=(((aB+1):Int) -A).toNat∧aT [(0,.d a0),(1,.d (dJ aB)),(2,.d a2),(6,.vp 6 0),(7,.bs 20 I 3),(8,.d (dJ A)),(16,dB (decide ((K.length:Int)≤aB)))] VE∧aT [(6,.one 95 32 [.d i0,.d i0,dS []]),(20,.arr 95 32 3 I p)] B) ?_ (k:=(((aB+1):Int) -0).toNat) ⟨0,(w3.length),w3,ae,gG,ae,sC,aa,⟨aa,aa,aa,aa,aa,aa,aa,trivial⟩,⟨aa,aa,trivial⟩⟩)))))
 rintro _ VE B⟨A,I,p,c9,rfl,wC,G,rfl,hV,hB⟩
 refine bz _ _ hV hB (aA (aj (af 3 aa (aN aa (fun h4 g4=>?_) (fun h4 g4=>?_)))))
 ·refine aG (aA (bj (aS (ak 6 aa (ai (ns (dx:=[.d a0,.d (dJ A),.d a2,.bs 1004 (p.length) 3]) (Bi:=[(1004,.arr 95 32 3 (p.length) p)]) [(1004,20)] 2000 aa aa aa aa aa aa aa ⟨aa,aa,trivial⟩ (evalC (aB:=A) F L ae cW ae ae cO ae cK G ae) (fun r5 Sl dL=>?_)))))))
  obtain⟨il,y5_1,y5_2,rfl,rfl,O,U,Y⟩:=dL
  obtain⟨j6,An,sE⟩:=cE (z:=A) (n:=p.length) ae ae
  obtain⟨r6,gO,gP⟩:=dX sE G
  obtain⟨tP,zk,Ci,rfl,mg,yg,qn⟩:=c4 gP
  refine ai (e9 rfl (by rw[←An];rfl) sE ?_)
  refine jd (pU aa aa aa aa aa aa aD aD gO (fun w7 GX GY=>?_))
  have uG:aH ee w7:=by rw[GX];exact hZ G (ao O (ao U (ao Y bm)))
  rw[←GY]
  refine bn (aS (ak 1 aa (ai (br aa aa ae ae ?_))))
  exact af 1 aa (⟨(((aB+1):Int) -((A+1))).toNat,ae,(A+1),(w7.length),w7,ae,gG,ae,uG,aa,⟨aa,aa,aa,aa,aa,aa,aa,trivial⟩,⟨aa,aa,trivial⟩⟩)
 refine bV (aj (ak 2 aa ?_))
 obtain⟨j8,SC,Z⟩:=cE (z:=aB) (n:=p.length) ae ae
 obtain⟨r8,qX,qY⟩:=dX Z G
 obtain⟨sm,KC,F',rfl,td,BJ,BK⟩:=c4 qY
 refine ai (e9 rfl (by rw[←SC];rfl) Z ?_)
 refine ai (C2 (rows:=p) aa aa (bM _) (bM _) Z qX (aX aa) (aX aa) ?_)
 exact af 1 aa (ay (aE aa aa ⟨sm,KC,F',aa,td,BJ,BK⟩))
end Go.Ev.Rp
namespace Go.Ev.Rp
open Go Go.Ev.Pp
theorem insC{T:bC}(F:FT T){a0 a1 a2:DC}{K:List (List DC)}(QX:0≤K.length)(KD:K=[]→a0= .nil)(L:aR K a0)(ed:K.length≤1000000000)(cW:aH fK K)(da:tJ.ok a1)(dE:tJ.ok a2):Sound T 208 [.d a0,.agg [.d a1,.d a2]] fun r=>∃(y0:DC)(cQ:List (List DC)),r= .d y0∧aR cQ y0∧(cQ.length:Int)≤K.length+1∧aH fK cQ∧1≤(cQ.length:Int)∧(cQ=[]→y0= .nil):=by
 refine ch F.q208 aa ?_
 obtain⟨aB,rfl,eS,eT⟩:=Ty.az da
 obtain⟨bk,rfl,pA,pB⟩:=Ty.az dE
 refine aj (af 2 aa (aj (af 1 aa (aj (af 1 aa (aA (bj (ki 5 90 46 16 2 aa aa (cb (fun k VE B=>∃(J:Int)(G:List (List DC)),(0≤J∧(J≤(K.length:Int)∨J=0))∧((G.length:Int)≤J)∧(aH fK G)∧k=((K.length:Int) -J).toNat∧aT [(0,.d a0),(1,.agg [.d (dJ aB),.d (dJ bk)]),(3,.vp 3 0),(4,dN),(5,.ac 90 G.length 2),(6,.d (dJ J))] VE∧aT [(3,.one 46 16 [.d (dJ aB),.d (dJ bk)]),(90,.acc 46 16 2 G)] B) ?_ (k:=((K.length:Int) -0).toNat) ⟨0,[],ae,cn,bN,aa,⟨aa,aa,aa,aa,aa,aa,trivial⟩,⟨aa,aa,trivial⟩⟩)))))))))
 rintro _ VE B⟨J,G,c9,fr,vi,rfl,hV,hB⟩
 refine bz _ _ hV hB (aA (cN (aP 2 aa (aU (bu aa L ?_)))))
 refine aP 2 aa (fA (g:=po) aa (fun h1 g1=>?_) (fun h1 g1=>?_))
 ·refine bg aa h1 (bf aa ?_)
  refine bg aa h1 (bf aa ?_)
  obtain⟨r2,dj,dA⟩:=bR J cW
  obtain⟨fR,fh,rfl,ig,ij⟩:=fc dA
  refine bg aa h1 (bo aa aa L ae dj aa ?_)
  refine bg aa h1 (eL aa ?_)
  refine cw aa h1 aa (cF aa aa ?_)
  refine bg aa h1 (bL aa ?_)
  refine cw aa h1 aa (bJ aa aa aa ?_)
  obtain⟨vK,rfl,xM,xN⟩:=Ty.az ij
  refine bg aa h1 (eH aa aa ?_)
  refine aU (aW aa h1 aa ?_)
  refine cU (aN aa (fun h3 g3=>?_) (fun h3 g3=>?_))
  ·refine aG (bj (aj (ak 3 aa (ai (bo aa aa L ae dj aa ?_)))))
   obtain⟨qm,rfl,AZ,xI⟩:=Ty.az ig
   refine ak 2 aa ?_
   refine ai (cr (rows:=G) (ys:=[[(dJ qm),(dJ vK)]]) rfl rfl rfl (.bs (rows:=[[(dJ qm),(dJ vK)]]) rfl) aD ae (fun h=>by rw[h];rfl) (fun h=>by rw[h];rfl) ?_)
   refine af 1 aa (aS (ak 1 aa (ai (br aa aa ae ae ?_))))
   exact af 1 aa (⟨((K.length:Int) -((J+1))).toNat,ae,(J+1),(G++[[(dJ qm),(dJ vK)]]),ae,cn,(bS vi (bX (ao ah (ao ah bm)))),aa,⟨aa,aa,aa,aa,aa,aa,trivial⟩,⟨aa,aa,trivial⟩⟩)
  refine bV (aA (bj (cb (fun k VE B=>∃(I:Int)(Y:DC)(Z:DC),(J≤I∧(I≤(K.length:Int)∨I=J))∧(tJ.ok Y)∧(tJ.ok Z)∧k=((K.length:Int) -I).toNat∧aT [(0,.d a0),(1,.agg [.d (dJ aB),.d (dJ bk)]),(3,.vp 3 0),(4,dN),(5,.ac 90 G.length 2),(6,.d (dJ I)),(20,dB (decide (vK<aB)))] VE∧aT [(3,.one 46 16 [.d Y,.d Z]),(90,.acc 46 16 2 G)] B) ?_ (k:=((K.length:Int) -J).toNat) ⟨J,(dJ aB),(dJ bk),ae,ah,ah,aa,⟨aa,aa,aa,aa,aa,aa,aa,trivial⟩,⟨aa,aa,trivial⟩⟩)))
  rintro _ VE B⟨I,Y,Z,jj,M,Dw,rfl,hV,hB⟩
  refine bz _ _ hV hB (aA (cN (aP 2 aa (aU (bu aa L ?_)))))
  refine aP 2 aa (fA (g:=ox) aa (fun h4 g4=>?_) (fun h4 g4=>?_))
  ·refine bg aa h4 (bf aa ?_)
   refine bg aa h4 (bf aa ?_)
   obtain⟨r5,iq,jo⟩:=bR I cW
   obtain⟨zn,FZ,rfl,nI,yn⟩:=fc jo
   refine bg aa h4 (bo aa aa L ae iq aa ?_)
   refine bg aa h4 (eL aa ?_)
   refine cw aa h4 aa (cF aa aa ?_)
   refine bg aa h4 (bL aa ?_)
   refine cw aa h4 aa (bJ aa aa aa ?_)
   obtain⟨EU,rfl,IK,IL⟩:=Ty.az nI
   obtain⟨A,rfl,L7,L8⟩:=Ty.az Dw
   refine bg aa h4 (qc aa aa ?_)
   refine aU (aW aa h4 aa ?_)
   refine cU (aN aa (fun h6 g6=>?_) (fun h6 g6=>?_))
   ·refine aG (bj (cN (aP 4 aa (aU (bo aa aa L ae iq aa ?_)))))
    refine aP 1 aa (de aa aa (cF aa aa ?_))
    obtain⟨p,rfl,O,U⟩:=Ty.az M
    refine aU (Dt aa aa (fun z7 hz7=>?_))
    refine cP 2 aa (cN (aP 4 aa (aU (bo aa aa L ae iq aa ?_))))
    refine aP 1 aa (de aa aa (cF aa aa ?_))
    obtain⟨ZF,rfl,Nm,Nn⟩:=Ty.az yn
    refine aU (sS aa aa (fun z8 hz8=>?_))
    refine cP 2 aa (aS (ak 1 aa (ai (br aa aa ae ae ?_))))
    exact af 1 aa (⟨((K.length:Int) -((I+1))).toNat,ae,(I+1),(dJ z7),(dJ z8),ae,ah,ah,aa,⟨aa,aa,aa,aa,aa,aa,aa,trivial⟩,⟨aa,aa,trivial⟩⟩)
   refine bV (cN ?_)
   obtain⟨p,rfl,O,U⟩:=Ty.az M
   refine aP 3 aa ?_
   refine bP rfl (cr (rows:=G) (ys:=[[(dJ p),(dJ A)]]) rfl rfl rfl (.bs (rows:=[[(dJ p),(dJ A)]]) rfl) aD ae (fun h=>by rw[h];rfl) (fun h=>by rw[h];rfl) ?_)
   refine aP 2 aa ?_
   obtain⟨j9,Ak,uF⟩:=cE (z:=I) (n:=K.length+1) ae ae
   refine aU (fI (l:=j9) (h:=K.length) rfl L cW rfl KD rfl ⟨_,(by rw[←Ak];rfl)⟩ ae ae (fun d10 uH Rl hl10 gM=>?_))
   refine bP aa (cr (rows:=(G++[[(dJ p),(dJ A)]])) (ys:=uH) aa aa aa (.sD Rl (el gM aa)) aD ae (fun h=>absurd h bx) (fun h=>absurd h bx) ?_)
   refine cP 1 aa (fm 4 90 aa aa (fun _=>⟨aa,aa⟩) (ay ?_))
   exact aE rfl rfl ⟨(.cS ((G++[[(dJ p),(dJ A)]])++uH)),((G++[[(dJ p),(dJ A)]])++uH),rfl,(.acc _),hH,(bS (bS vi (bX (ao ah (ao ah bm)))) gM),ae,(fun h=>by rw[h];rfl)⟩
  refine bh aa h4 (bh aa h4 (bh aa h4 (bh aa h4 (ca aa h4 (bh aa h4 (ca aa h4 (bh aa h4 (aU (bd aa h4 aa ?_)))))))))
  refine cU (cH aa aa (bV (cN ?_)))
  obtain⟨p,rfl,O,U⟩:=Ty.az M
  obtain⟨A,rfl,L7,L8⟩:=Ty.az Dw
  refine aP 3 aa ?_
  refine bP rfl (cr (rows:=G) (ys:=[[(dJ p),(dJ A)]]) rfl rfl rfl (.bs (rows:=[[(dJ p),(dJ A)]]) rfl) aD ae (fun h=>by rw[h];rfl) (fun h=>by rw[h];rfl) ?_)
  refine aP 2 aa ?_
  obtain⟨uz,zp,aa9⟩:=cE (z:=I) (n:=K.length+1) ae ae
  refine aU (fI (l:=uz) (h:=K.length) rfl L cW rfl KD rfl ⟨_,(by rw[←zp];rfl)⟩ ae ae (fun d12 uI Rm hl12 jy=>?_))
  refine bP aa (cr (rows:=(G++[[(dJ p),(dJ A)]])) (ys:=uI) aa aa aa (.sD Rm (el jy aa)) aD ae (fun h=>absurd h bx) (fun h=>absurd h bx) ?_)
  refine cP 1 aa (fm 4 90 aa aa (fun _=>⟨aa,aa⟩) (ay ?_))
  exact aE rfl rfl ⟨(.cS ((G++[[(dJ p),(dJ A)]])++uI)),((G++[[(dJ p),(dJ A)]])++uI),rfl,(.acc _),hH,(bS (bS vi (bX (ao ah (ao ah bm)))) jy),ae,(fun h=>by rw[h];rfl)⟩
 refine bh aa h1 (bh aa h1 (bh aa h1 (bh aa h1 (ca aa h1 (bh aa h1 (ca aa h1 (bh aa h1 (aU (bd aa h1 aa ?_)))))))))
 refine cU (cH aa aa (bV (aA (bj (cb (fun k VE B=>∃(I:Int)(Y:DC)(Z:DC),(J≤I∧(I≤(K.length:Int)∨I=J))∧(tJ.ok Y)∧(tJ.ok Z)∧k=((K.length:Int) -I).toNat∧aT [(0,.d a0),(1,.agg [.d (dJ aB),.d (dJ bk)]),(3,.vp 3 0),(4,dN),(5,.ac 90 G.length 2),(6,.d (dJ I)),(20,dB false)] VE∧aT [(3,.one 46 16 [.d Y,.d Z]),(90,.acc 46 16 2 G)] B) ?_ (k:=((K.length:Int) -J).toNat) ⟨J,(dJ aB),(dJ bk),ae,ah,ah,aa,⟨aa,aa,aa,aa,aa,aa,aa,trivial⟩,⟨aa,aa,trivial⟩⟩)))))
 rintro _ VE B⟨I,Y,Z,jj,M,Dw,rfl,hV,hB⟩
 refine bz _ _ hV hB (aA (cN (aP 2 aa (aU (bu aa L ?_)))))
 refine aP 2 aa (fA (g:=ox) aa (fun eD iv=>?_) (fun eD iv=>?_))
 ·refine bg aa eD (bf aa ?_)
  refine bg aa eD (bf aa ?_)
  obtain⟨sB,lv,lQ⟩:=bR I cW
  obtain⟨yl,ET,rfl,o8,xU⟩:=fc lQ
  refine bg aa eD (bo aa aa L ae lv aa ?_)
  refine bg aa eD (eL aa ?_)
  refine cw aa eD aa (cF aa aa ?_)
  refine bg aa eD (bL aa ?_)
  refine cw aa eD aa (bJ aa aa aa ?_)
  obtain⟨IM,rfl,VZ,V0⟩:=Ty.az o8
  obtain⟨A,rfl,L7,L8⟩:=Ty.az Dw
  refine bg aa eD (qc aa aa ?_)
  refine aU (aW aa eD aa ?_)
  refine cU (aN aa (fun nj kI=>?_) (fun nj kI=>?_))
  ·refine aG (bj (cN (aP 4 aa (aU (bo aa aa L ae lv aa ?_)))))
   refine aP 1 aa (de aa aa (cF aa aa ?_))
   obtain⟨p,rfl,O,U⟩:=Ty.az M
   refine aU (Dt aa aa (fun SD hz16=>?_))
   refine cP 2 aa (cN (aP 4 aa (aU (bo aa aa L ae lv aa ?_))))
   refine aP 1 aa (de aa aa (cF aa aa ?_))
   obtain⟨zx14_1,rfl,hzx14_1,kzx14_1⟩:=Ty.az xU
   refine aU (sS aa aa (fun z17 hz17=>?_))
   refine cP 2 aa (aS (ak 1 aa (ai (br aa aa ae ae ?_))))
   exact af 1 aa (⟨((K.length:Int) -((I+1))).toNat,ae,(I+1),(dJ SD),(dJ z17),ae,ah,ah,aa,⟨aa,aa,aa,aa,aa,aa,aa,trivial⟩,⟨aa,aa,trivial⟩⟩)
  refine bV (cN ?_)
  obtain⟨p,rfl,O,U⟩:=Ty.az M
  refine aP 3 aa ?_
  refine bP rfl (cr (rows:=G) (ys:=[[(dJ p),(dJ A)]]) rfl rfl rfl (.bs (rows:=[[(dJ p),(dJ A)]]) rfl) aD ae (fun h=>by rw[h];rfl) (fun h=>by rw[h];rfl) ?_)
  refine aP 2 aa ?_
  obtain⟨Ai,zu,zw⟩:=cE (z:=I) (n:=K.length+1) ae ae
  refine aU (fI (l:=Ai) (h:=K.length) rfl L cW rfl KD rfl ⟨_,(by rw[←zu];rfl)⟩ ae ae (fun d19 GZ Rn hl19 lR=>?_))
  refine bP aa (cr (rows:=(G++[[(dJ p),(dJ A)]])) (ys:=GZ) aa aa aa (.sD Rn (el lR aa)) aD ae (fun h=>absurd h bx) (fun h=>absurd h bx) ?_)
  refine cP 1 aa (fm 4 90 aa aa (fun _=>⟨aa,aa⟩) (ay ?_))
  exact aE rfl rfl ⟨(.cS ((G++[[(dJ p),(dJ A)]])++GZ)),((G++[[(dJ p),(dJ A)]])++GZ),rfl,(.acc _),hH,(bS (bS vi (bX (ao ah (ao ah bm)))) lR),ae,(fun h=>by rw[h];rfl)⟩
 refine bh aa eD (bh aa eD (bh aa eD (bh aa eD (ca aa eD (bh aa eD (ca aa eD (bh aa eD (aU (bd aa eD aa ?_)))))))))
 refine cU (cH aa aa (bV (cN ?_)))
 obtain⟨p,rfl,O,U⟩:=Ty.az M
 obtain⟨A,rfl,L7,L8⟩:=Ty.az Dw
 refine aP 3 aa ?_
 refine bP rfl (cr (rows:=G) (ys:=[[(dJ p),(dJ A)]]) rfl rfl rfl (.bs (rows:=[[(dJ p),(dJ A)]]) rfl) aD ae (fun h=>by rw[h];rfl) (fun h=>by rw[h];rfl) ?_)
 refine aP 2 aa ?_
 obtain⟨j20,Q',KB⟩:=cE (z:=I) (n:=K.length+1) ae ae
 refine aU (fI (l:=j20) (h:=K.length) rfl L cW rfl KD rfl ⟨_,(by rw[←Q'];rfl)⟩ ae ae (fun d21 SE hd21 hl21 pE=>?_))
 refine bP aa (cr (rows:=(G++[[(dJ p),(dJ A)]])) (ys:=SE) aa aa aa (.sD hd21 (el pE aa)) aD ae (fun h=>absurd h bx) (fun h=>absurd h bx) ?_)
 refine cP 1 aa (fm 4 90 aa aa (fun _=>⟨aa,aa⟩) (ay ?_))
 exact aE rfl rfl ⟨(.cS ((G++[[(dJ p),(dJ A)]])++SE)),((G++[[(dJ p),(dJ A)]])++SE),rfl,(.acc _),hH,(bS (bS vi (bX (ao ah (ao ah bm)))) pE),ae,(fun h=>by rw[h];rfl)⟩
theorem normC{T:bC}(F:FT T){a0:DC}{G:List (List DC)}(L:aR G a0)(ed:G.length≤1000000000)(cW:aH fK G):Sound T 150 [.d a0] fun r=>∃(y0:DC)(M:List (List DC)),r= .d y0∧aR M y0∧(M.length:Int)≤G.length∧aH fK M∧0≤(M.length:Int)∧(M=[]→y0= .nil):=by
 refine ch F.q150 aa (aj (af 1 aa (aj (af 1 aa (aA (aj (af 1 aa (bj (cb (fun k VE B=>∃(A:DC)(z:List (List DC))(p:Int),(aR z A)∧((z.length:Int)≤p)∧(aH fK z)∧(z=[]→A= .nil)∧(0≤p∧(p≤(G.length:Int)∨p=0))∧k=((G.length:Int) -p).toNat∧aT [(0,.d a0),(2,dN),(3,.d A),(4,.d (dJ p))] VE∧aT [] B) ?_ (k:=((G.length:Int) -0).toNat) ⟨DC.nil,[],0,(.inr ⟨aa,aa⟩),ae,bN,(fun _=>aa),ae,aa,⟨aa,aa,aa,aa,trivial⟩,trivial⟩)))))))))
 rintro _ VE B⟨A,z,p,I,fr,J,K,KE,rfl,hV,hB⟩
 refine bz _ _ hV hB (aA (aj (ak 2 aa (ai (bu aa L ?_)))))
 refine af 1 aa (aN aa (fun h1 g1=>?_) (fun h1 g1=>?_))
 ·refine aG (aA (bj (aj (ak 2 aa ?_))))
  obtain⟨r2,dj,dA⟩:=bR p cW
  obtain⟨fR,fh,rfl,O,U⟩:=fc dA
  refine ai (bo aa aa L ae dj aa ?_)
  refine ak 1 aa (ai (aY aa (aV aa) (sX F O U) (fun r3 _ fv=>?_)))
  obtain⟨iG,rfl,kx⟩:=fv
  refine bn ?_
  obtain⟨EV,rfl⟩:=Ty.bQ kx
  refine db aa (fun h4=>?_) (fun h4=>?_)
  ·refine aS (ak 3 aa (ai (bo aa aa L ae dj aa ?_)))
   refine ak 1 aa (ai (aY aa (aV aa) (insC F ae K I ae J O U) (fun r5 _ dL=>?_)))
   obtain⟨il,mO,rfl,Y,vk,Z,vl,ru⟩:=dL
   refine af 1 aa (aS (ak 1 aa (ai (br aa aa ae ae ?_))))
   exact af 1 aa (⟨((G.length:Int) -((p+1))).toNat,ae,il,mO,(p+1),Y,ae,Z,ru,ae,aa,⟨aa,aa,aa,aa,trivial⟩,trivial⟩)
  refine aG (aS (ak 1 aa (ai (br aa aa ae ae ?_))))
  exact af 1 aa (⟨((G.length:Int) -((p+1))).toNat,ae,A,z,(p+1),I,ae,J,K,ae,aa,⟨aa,aa,aa,aa,trivial⟩,trivial⟩)
 exact bV (aj (af 2 aa (ay (aE aa aa ⟨A,z,aa,I,ae,J,ae,K⟩))))
theorem covC{T:bC}(F:FT T){a0:DC}{A:List (List DC)}(U:aR A a0)(ed:A.length≤1000000000)(cW:aH jv A):Sound T 166 [.d a0] fun r=>∃(y0:DC)(K:List (List DC)),r= .d y0∧aR K y0∧(K.length:Int)≤A.length∧aH fK K∧0≤(K.length:Int)∧(K=[]→y0= .nil):=by
 refine ch F.q166 aa (aj (af 1 aa (aj (af 1 aa (aA (aj (ak 1 aa (ai (bu aa U ?_)))))))))
 refine af 1 aa (bj (ki 3 90 46 16 2 aa aa (cb (fun k VE B=>∃(p:Int)(z:List (List DC)),(0≤p∧(p≤(A.length:Int)∨p=0))∧((z.length:Int)≤p)∧(aH fK z)∧k=((A.length:Int) -p).toNat∧aT [(0,.d a0),(2,dN),(3,.ac 90 z.length 2),(6,.d a0),(7,.d (dJ (A.length:Int))),(8,.d (dJ p))] VE∧aT [(90,.acc 46 16 2 z)] B) ?_ (k:=((A.length:Int) -0).toNat) ⟨0,[],ae,cn,bN,aa,⟨aa,aa,aa,aa,aa,aa,trivial⟩,⟨aa,trivial⟩⟩)))
 rintro _ VE B⟨p,z,c9,fr,J,rfl,hV,hB⟩
 refine bz _ _ hV hB (aj (af 1 aa (aA (aN aa (fun h1 g1=>?_) (fun h1 g1=>?_)))))
 ·refine aG (aA (bj (aj ?_)))
  obtain⟨r2,dj,dA⟩:=bR p cW
  obtain⟨fR,fh,gn,lu,rfl,ig,Y,Z,gC⟩:=vg dA
  refine ai (bo aa aa U ae dj aa ?_)
  refine af 3 aa (aS ?_)
  obtain⟨G,rfl,xM,xN⟩:=Ty.az Y
  obtain⟨I,rfl,xJ,xK⟩:=Ty.az Z
  refine ak 4 aa ?_
  refine ai (cr (rows:=z) (ys:=[[(dJ G),(dJ I)]]) rfl rfl rfl (.bs (rows:=[[(dJ G),(dJ I)]]) rfl) aD ae (fun h=>by rw[h];rfl) (fun h=>by rw[h];rfl) ?_)
  refine af 1 aa (aS (ai (br aa aa ae ae ?_)))
  exact af 1 aa (⟨((A.length:Int) -((p+1))).toNat,ae,(p+1),(z++[[(dJ G),(dJ I)]]),ae,cn,(bS J (bX (ao ah (ao ah bm)))),aa,⟨aa,aa,aa,aa,aa,aa,trivial⟩,⟨aa,trivial⟩⟩)
 refine bV (fm 3 90 aa aa (fun _=>⟨aa,aa⟩) (aj (ak 1 aa (ai (aY aa (aV aa) (normC F (.acc _) ae J) (fun r3 _ fv=>?_))))))
 obtain⟨iG,wy3_0,rfl,L,hny3_0,M,hmy3_0,O⟩:=fv
 exact af 1 aa (ay (aE aa aa ⟨iG,wy3_0,aa,L,ae,M,ae,O⟩))
end Go.Ev.Rp
