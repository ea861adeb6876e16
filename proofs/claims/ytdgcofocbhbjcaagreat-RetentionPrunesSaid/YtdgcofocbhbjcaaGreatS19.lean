/- Part 19 of rules for walks through the code of a program, and of such walks; what each part proves is said by its theorems. -/
import Derived.Test.YtdgcofocbhbjcaaGreatS18
set_option linter.unusedVariables false
set_option linter.unusedSimpArgs false
noncomputable section
set_option maxRecDepth 100000
set_option maxHeartbeats 4000000
namespace Go.Ev.Rp
open Go Go.Ev.Pp
theorem vm{T:bC}(F:FT T){a0 a1:DC}{Z:List (List DC)}(dW:aR Z a0)(ed:Z.length≤4000000000)(cW:aH cl Z){dn:List (List DC)}(eI:aR dn a1)(fS:dn.length≤4000000000)(du:aH cl dn):Sound T 164 [.d a0,.d a1] fun r=>∃(y0:DC)(cQ:List (List DC)),r= .d y0∧aR cQ y0∧(cQ.length:Int)≤Z.length+dn.length∧aH cl cQ∧0≤(cQ.length:Int)∧(cQ=[]→y0= .nil):=by
 refine ch F.q164 aa (aj (af 1 aa (aj (af 1 aa (aA (aj (af 4 aa (bj (cb (fun k VE B=>∃(jz:DC)(Y:List (List DC))(M:Int),(aR Y jz)∧((Y.length:Int)≤8000000000)∧(aH cl Y)∧(Y=[]→jz= .nil)∧(0≤M∧(M≤2∨M=0))∧((M=0→(Y.length:Int)≤0)∧(M=1→Y.length≤Z.length)∧(M=2→Y.length≤Z.length+dn.length))∧k=((2:Int) -M).toNat∧aT [(0,.d a0),(1,.d a1),(4,dN),(5,.d jz),(13,.agg [.d a0,.d a1]),(14,.d (dJ M))] VE∧aT [] B) ?_ (k:=((2:Int) -0).toNat) ⟨DC.nil,[],0,(.inr ⟨aa,aa⟩),ae,bN,(fun _=>aa),ae,ae,aa,⟨aa,aa,aa,aa,aa,aa,trivial⟩,trivial⟩)))))))))
 rintro _ VE B⟨jz,Y,M,N4,fr,N5,N6,KE,QY,rfl,hV,hB⟩
 refine bz _ _ hV hB (aj (af 1 aa (aA (aN aa (fun h1 g1=>?_) (fun h1 g1=>?_)))))
 ·refine aG (aA (bj (aj ?_)))
  rcases(by omega:M=0∨M=1) with qP|qP
  ·refine ai (Uy (j:=0) rfl (by rw[qP];rfl) aD rfl ?_)
   refine af 1 aa (aj (ak 1 aa (ai (bu aa dW ?_))))
   refine af 1 aa (bj (cb (fun k VE B=>∃(U:DC)(p:List (List DC))(A:Int),(aR p U)∧((p.length:Int)≤8000000000)∧(aH cl p)∧(p=[]→U= .nil)∧(0≤A∧(A≤(Z.length:Int)∨A=0))∧((M=0→(p.length:Int)≤A)∧(M=1→(p.length:Int)≤Z.length+A))∧k=((Z.length:Int) -A).toNat∧aT [(0,.d a0),(1,.d a1),(4,dN),(5,.d U),(7,.d a0),(13,.agg [.d a0,.d a1]),(14,.d (dJ M)),(15,dB (decide (M<2))),(17,.d a0),(18,.d (dJ (Z.length:Int))),(19,.d (dJ A))] VE∧aT [] B) ?_ (k:=((Z.length:Int) -0).toNat) ⟨jz,Y,0,N4,ae,N5,N6,ae,ae,aa,⟨aa,aa,aa,aa,aa,aa,aa,aa,aa,aa,aa,trivial⟩,trivial⟩))
   rintro _ VE B⟨U,p,A,G,pw,J,K,abj,f1_5,rfl,hV,hB⟩
   refine bz _ _ hV hB (aj (af 1 aa (aA (aN aa (fun h3 g3=>?_) (fun h3 g3=>?_)))))
   ·refine aG (aA (bj (aj ?_)))
    obtain⟨r4,eg,eZ⟩:=bR A cW
    obtain⟨jw,_,rfl,gB,eZ⟩:=b0 eZ
    obtain rfl:=dy eZ
    refine ai (bo aa aa dW ae eg aa ?_)
    refine af 2 aa (aj (af 1 aa (aA (bj (cb (fun k VE B=>∃(I:Int),(0≤I∧(I≤(p.length:Int)∨I=0))∧k=((p.length:Int) -I).toNat∧aT [(0,.d a0),(1,.d a1),(4,dN),(5,.d U),(7,.d a0),(9,.d jw),(10,.d (dJ I)),(13,.agg [.d a0,.d a1]),(14,.d (dJ M)),(15,dB (decide (M<2))),(17,.d a0),(18,.d (dJ (Z.length:Int))),(19,.d (dJ A)),(20,dB (decide (A<(Z.length:Int))))] VE∧aT [] B) ?_ (k:=((p.length:Int) -0).toNat) ⟨0,ae,aa,⟨aa,aa,aa,aa,aa,aa,aa,aa,aa,aa,aa,aa,aa,aa,trivial⟩,trivial⟩)))))
    rintro _ VE B⟨I,wq,rfl,hV,hB⟩
    refine bz _ _ hV hB (aA (aj (ak 2 aa (ai (bu aa G ?_)))))
    refine ak 2 aa (bZ (g:=lI) aa (fun h5 g5=>?_) (fun h5 g5=>?_))
    ·refine aq aa h5 (bf aa ?_)
     refine aq aa h5 (bf aa ?_)
     obtain⟨r6,gO,gP⟩:=bR I J
     obtain⟨tP,_,rfl,mg,gP⟩:=b0 gP
     obtain rfl:=dy gP
     refine aq aa h5 (bo aa aa G ae gO aa ?_)
     refine aq aa h5 (cF aa aa ?_)
     refine aq aa h5 (bf aa ?_)
     obtain⟨yo,rfl,IN,IP⟩:=Ty.az mg
     obtain⟨O,rfl,rl,rm⟩:=Ty.az gB
     refine aq aa h5 (eH aa aa ?_)
     refine ai (aW aa h5 aa ?_)
     refine bn (aN aa (fun h7 g7=>?_) (fun h7 g7=>?_))
     ·refine aG (bj (aS (ak 1 aa (ai (br aa aa ae ae ?_)))))
      exact af 1 aa (⟨((p.length:Int) -((I+1))).toNat,ae,(I+1),ae,aa,⟨aa,aa,aa,aa,aa,aa,aa,aa,aa,aa,aa,aa,aa,aa,trivial⟩,trivial⟩)
     refine bV (aj (ak 2 aa (ai (bu aa G ?_))))
     refine ak 2 aa (bZ (g:=gE) aa (fun h8 g8=>?_) (fun h8 g8=>?_))
     ·refine an aa h8 (an aa h8 (an aa h8 (an aa h8 (an aa h8 (an aa h8 (ai (aW aa h8 aa ?_)))))))
      refine bn (cg aa aa (fB (aP 2 aa ?_)))
      obtain⟨j9,Ak,uF⟩:=cE (z:=I) (n:=p.length+1) ae ae
      refine aU (fI (l:=0) (h:=j9) rfl G J rfl K ⟨_,(by rw[←Ak];rfl)⟩ rfl ae ae (fun d10 uH Rl hl10 gM=>?_))
      refine bP aa (VI.fresh aa (iK (ys:=uH) 52 aa aa aa aa aa (.sD Rl (el gM aa)) aD ae ?_))
      refine aP 2 aa (bP aa (cr (rows:=uH) (ys:=[[(dJ O)]]) aa aa aa (.bs (rows:=[[(dJ O)]]) aa) aD ae dF dF ?_))
      refine aP 2 aa ?_
      obtain⟨uz,zp,aa9⟩:=cE (z:=I) (n:=p.length+1) ae ae
      refine aU (fI (l:=uz) (h:=p.length) rfl G J rfl K rfl ⟨_,(by rw[←zp];rfl)⟩ ae ae (fun d12 uI Rm hl12 jy=>?_))
      refine bP aa (cr (rows:=(uH++[[(dJ O)]])) (ys:=uI) aa aa aa (.sD Rm (el jy aa)) aD ae (fun h=>absurd h bx) (fun h=>absurd h bx) ?_)
      refine cP 1 aa (fm 5 52 aa aa (fun _=>⟨aa,aa⟩) (aS (ai (br aa aa ae ae ?_))))
      refine af 1 aa ?_
      exact⟨((Z.length:Int) -((A+1))).toNat,ae,(.cS ((uH++[[(dJ O)]])++uI)),((uH++[[(dJ O)]])++uI),(A+1),(.acc _),hH,(bS (bS gM (bX (ao ah bm))) jy),(fun h=>by rw[h];rfl),ae,ae,rfl,⟨rfl,rfl,rfl,rfl,rfl,rfl,rfl,rfl,rfl,rfl,rfl,trivial⟩,trivial⟩
     refine aq aa h8 (bf aa ?_)
     refine aq aa h8 (bf aa ?_)
     refine aq aa h8 (bo aa aa G ae gO aa ?_)
     refine aq aa h8 (cF aa aa ?_)
     refine aq aa h8 (bf aa ?_)
     refine aq aa h8 (eR aa aa ?_)
     refine ai (bd aa h8 aa ?_)
     refine bn (aN aa (fun eD iv=>?_) (fun eD iv=>?_))
     ·refine fB (aP 2 aa ?_)
      obtain⟨SF,Ga,Co⟩:=cE (z:=I) (n:=p.length+1) ae ae
      refine aU (fI (l:=0) (h:=SF) rfl G J rfl K ⟨_,(by rw[←Ga];rfl)⟩ rfl ae ae (fun d15 qZ hd15 abk sg=>?_))
      refine bP aa (VI.fresh aa (iK (ys:=qZ) 52 aa aa aa aa aa (.sD hd15 (el sg aa)) aD ae ?_))
      refine aP 2 aa (bP aa (cr (rows:=qZ) (ys:=[[(dJ O)]]) aa aa aa (.bs (rows:=[[(dJ O)]]) aa) aD ae dF dF ?_))
      refine aP 2 aa ?_
      obtain⟨GN,zs,wz⟩:=cE (z:=I) (n:=p.length+1) ae ae
      refine aU (fI (l:=GN) (h:=p.length) rfl G J rfl K rfl ⟨_,(by rw[←zs];rfl)⟩ ae ae (fun d17 sF Ro Rq oL=>?_))
      refine bP aa (cr (rows:=(qZ++[[(dJ O)]])) (ys:=sF) aa aa aa (.sD Ro (el oL aa)) aD ae (fun h=>absurd h bx) (fun h=>absurd h bx) ?_)
      refine cP 1 aa (fm 5 52 aa aa (fun _=>⟨aa,aa⟩) (aS (ai (br aa aa ae ae ?_))))
      refine af 1 aa ?_
      exact⟨((Z.length:Int) -((A+1))).toNat,ae,(.cS ((qZ++[[(dJ O)]])++sF)),((qZ++[[(dJ O)]])++sF),(A+1),(.acc _),hH,(bS (bS sg (bX (ao ah bm))) oL),(fun h=>by rw[h];rfl),ae,ae,rfl,⟨rfl,rfl,rfl,rfl,rfl,rfl,rfl,rfl,rfl,rfl,rfl,trivial⟩,trivial⟩
     refine aG (aS (ai (br aa aa ae ae ?_)))
     exact af 1 aa (⟨((Z.length:Int) -((A+1))).toNat,ae,U,p,(A+1),G,ae,J,K,ae,ae,aa,⟨aa,aa,aa,aa,aa,aa,aa,aa,aa,aa,aa,trivial⟩,trivial⟩)
    refine an aa h5 (an aa h5 (an aa h5 (an aa h5 (an aa h5 (an aa h5 (ai (bd aa h5 aa ?_)))))))
    refine bn (cH aa aa (bV (aj (ak 2 aa (ai (bu aa G ?_))))))
    refine ak 2 aa (bZ (g:=gE) aa (fun eO ni=>?_) (fun eO ni=>?_))
    ·refine an aa eO (an aa eO (an aa eO (an aa eO (an aa eO (an aa eO (ai (aW aa eO aa ?_)))))))
     refine bn (cg aa aa (fB (aP 2 aa ?_)))
     obtain⟨SG,Gb,Cp⟩:=cE (z:=I) (n:=p.length+1) ae ae
     refine aU (fI (l:=0) (h:=SG) rfl G J rfl K ⟨_,(by rw[←Gb];rfl)⟩ rfl ae ae (fun d20 lE hd20 Cq nQ=>?_))
     refine bP aa (VI.fresh aa (iK (ys:=lE) 52 aa aa aa aa aa (.sD hd20 (el nQ aa)) aD ae ?_))
     obtain⟨O,rfl,rl,rm⟩:=Ty.az gB
     refine aP 2 aa (bP aa (cr (rows:=lE) (ys:=[[(dJ O)]]) aa aa aa (.bs (rows:=[[(dJ O)]]) aa) aD ae dF dF ?_))
     refine aP 2 aa ?_
     obtain⟨Sp,F3,zy⟩:=cE (z:=I) (n:=p.length+1) ae ae
     refine aU (fI (l:=Sp) (h:=p.length) rfl G J rfl K rfl ⟨_,(by rw[←F3];rfl)⟩ ae ae (fun d22 SH hd22 hl22 Cr=>?_))
     refine bP aa (cr (rows:=(lE++[[(dJ O)]])) (ys:=SH) aa aa aa (.sD hd22 (el Cr aa)) aD ae (fun h=>absurd h bx) (fun h=>absurd h bx) ?_)
     refine cP 1 aa (fm 5 52 aa aa (fun _=>⟨aa,aa⟩) (aS (ai (br aa aa ae ae ?_))))
     refine af 1 aa ?_
     exact⟨((Z.length:Int) -((A+1))).toNat,ae,(.cS ((lE++[[(dJ O)]])++SH)),((lE++[[(dJ O)]])++SH),(A+1),(.acc _),hH,(bS (bS nQ (bX (ao ah bm))) Cr),(fun h=>by rw[h];rfl),ae,ae,rfl,⟨rfl,rfl,rfl,rfl,rfl,rfl,rfl,rfl,rfl,rfl,rfl,trivial⟩,trivial⟩
    refine aq aa eO (bf aa ?_)
    refine aq aa eO (bf aa ?_)
    obtain⟨CS,Rr,Gc⟩:=bR I J
    obtain⟨x23_0,_,rfl,N7,Gc⟩:=b0 Gc
    obtain rfl:=dy Gc
    refine aq aa eO (bo aa aa G ae Rr aa ?_)
    refine aq aa eO (cF aa aa ?_)
    refine aq aa eO (bf aa ?_)
    obtain⟨zx23_0,rfl,hzx23_0,kzx23_0⟩:=Ty.az N7
    obtain⟨O,rfl,rl,rm⟩:=Ty.az gB
    refine aq aa eO (eR aa aa ?_)
    refine ai (bd aa eO aa ?_)
    refine bn (aN aa (fun gy Am=>?_) (fun gy Am=>?_))
    ·refine fB (aP 2 aa ?_)
     obtain⟨Lc,Rt,abl⟩:=cE (z:=I) (n:=p.length+1) ae ae
     refine aU (fI (l:=0) (h:=Lc) rfl G J rfl K ⟨_,(by rw[←Rt];rfl)⟩ rfl ae ae (fun d26 G0 hd26 hl26 Cs=>?_))
     refine bP aa (VI.fresh aa (iK (ys:=G0) 52 aa aa aa aa aa (.sD hd26 (el Cs aa)) aD ae ?_))
     refine aP 2 aa (bP aa (cr (rows:=G0) (ys:=[[(dJ O)]]) aa aa aa (.bs (rows:=[[(dJ O)]]) aa) aD ae dF dF ?_))
     refine aP 2 aa ?_
     obtain⟨j27,hj27,kj27⟩:=cE (z:=I) (n:=p.length+1) ae ae
     refine aU (fI (l:=j27) (h:=p.length) rfl G J rfl K rfl ⟨_,(by rw[←hj27];rfl)⟩ ae ae (fun d28 sG hd28 abm Ct=>?_))
     refine bP aa (cr (rows:=(G0++[[(dJ O)]])) (ys:=sG) aa aa aa (.sD hd28 (el Ct aa)) aD ae (fun h=>absurd h bx) (fun h=>absurd h bx) ?_)
     refine cP 1 aa (fm 5 52 aa aa (fun _=>⟨aa,aa⟩) (aS (ai (br aa aa ae ae ?_))))
     refine af 1 aa ?_
     exact⟨((Z.length:Int) -((A+1))).toNat,ae,(.cS ((G0++[[(dJ O)]])++sG)),((G0++[[(dJ O)]])++sG),(A+1),(.acc _),hH,(bS (bS Cs (bX (ao ah bm))) Ct),(fun h=>by rw[h];rfl),ae,ae,rfl,⟨rfl,rfl,rfl,rfl,rfl,rfl,rfl,rfl,rfl,rfl,rfl,trivial⟩,trivial⟩
    refine aG (aS (ai (br aa aa ae ae ?_)))
    exact af 1 aa (⟨((Z.length:Int) -((A+1))).toNat,ae,U,p,(A+1),G,ae,J,K,ae,ae,aa,⟨aa,aa,aa,aa,aa,aa,aa,aa,aa,aa,aa,trivial⟩,trivial⟩)
   refine bV (aS (ai (br aa aa ae ae ?_)))
   exact af 1 aa (⟨((2:Int) -((M+1))).toNat,ae,U,p,(M+1),G,ae,J,K,ae,ae,aa,⟨aa,aa,aa,aa,aa,aa,trivial⟩,trivial⟩)
  refine ai (Uy (j:=1) rfl (by rw[qP];rfl) aD rfl ?_)
  refine af 1 aa (aj (ak 1 aa (ai (bu aa eI ?_))))
  refine af 1 aa (bj (cb (fun k VE B=>∃(U:DC)(p:List (List DC))(A:Int),(aR p U)∧((p.length:Int)≤8000000000)∧(aH cl p)∧(p=[]→U= .nil)∧(0≤A∧(A≤(dn.length:Int)∨A=0))∧((M=0→(p.length:Int)≤A)∧(M=1→(p.length:Int)≤Z.length+A))∧k=((dn.length:Int) -A).toNat∧aT [(0,.d a0),(1,.d a1),(4,dN),(5,.d U),(7,.d a1),(13,.agg [.d a0,.d a1]),(14,.d (dJ M)),(15,dB (decide (M<2))),(17,.d a1),(18,.d (dJ (dn.length:Int))),(19,.d (dJ A))] VE∧aT [] B) ?_ (k:=((dn.length:Int) -0).toNat) ⟨jz,Y,0,N4,ae,N5,N6,ae,ae,aa,⟨aa,aa,aa,aa,aa,aa,aa,aa,aa,aa,aa,trivial⟩,trivial⟩))
  rintro _ VE B⟨U,p,A,G,pw,J,K,abj,f1_5,rfl,hV,hB⟩
  refine bz _ _ hV hB (aj (af 1 aa (aA (aN aa (fun kJ GV=>?_) (fun kJ GV=>?_)))))
  ·refine aG (aA (bj (aj ?_)))
   obtain⟨wX,Ru,zG⟩:=bR A du
   obtain⟨ZG,_,rfl,DV,zG⟩:=b0 zG
   obtain rfl:=dy zG
   refine ai (bo aa aa eI ae Ru aa ?_)
   refine af 2 aa (aj (af 1 aa (aA (bj (cb (fun k VE B=>∃(I:Int),(0≤I∧(I≤(p.length:Int)∨I=0))∧k=((p.length:Int) -I).toNat∧aT [(0,.d a0),(1,.d a1),(4,dN),(5,.d U),(7,.d a1),(9,.d ZG),(10,.d (dJ I)),(13,.agg [.d a0,.d a1]),(14,.d (dJ M)),(15,dB (decide (M<2))),(17,.d a1),(18,.d (dJ (dn.length:Int))),(19,.d (dJ A)),(20,dB (decide (A<(dn.length:Int))))] VE∧aT [] B) ?_ (k:=((p.length:Int) -0).toNat) ⟨0,ae,aa,⟨aa,aa,aa,aa,aa,aa,aa,aa,aa,aa,aa,aa,aa,aa,trivial⟩,trivial⟩)))))
   rintro _ VE B⟨I,wq,rfl,hV,hB⟩
   refine bz _ _ hV hB (aA (aj (ak 2 aa (ai (bu aa G ?_)))))
   refine ak 2 aa (bZ (g:=lI) aa (fun gU SI=>?_) (fun gU SI=>?_))
   ·refine aq aa gU (bf aa ?_)
    refine aq aa gU (bf aa ?_)
    obtain⟨Lb,abn,Rv⟩:=bR I J
    obtain⟨x32_0,_,rfl,hx32_0,Rv⟩:=b0 Rv
    obtain rfl:=dy Rv
    refine aq aa gU (bo aa aa G ae abn aa ?_)
    refine aq aa gU (cF aa aa ?_)
    refine aq aa gU (bf aa ?_)
    obtain⟨zx32_0,rfl,hzx32_0,kzx32_0⟩:=Ty.az hx32_0
    obtain⟨L,rfl,Mr,Ms⟩:=Ty.az DV
    refine aq aa gU (eH aa aa ?_)
    refine ai (aW aa gU aa ?_)
    refine bn (aN aa (fun q6 uJ=>?_) (fun q6 uJ=>?_))
    ·refine aG (bj (aS (ak 1 aa (ai (br aa aa ae ae ?_)))))
     exact af 1 aa (⟨((p.length:Int) -((I+1))).toNat,ae,(I+1),ae,aa,⟨aa,aa,aa,aa,aa,aa,aa,aa,aa,aa,aa,aa,aa,aa,trivial⟩,trivial⟩)
    refine bV (aj (ak 2 aa (ai (bu aa G ?_))))
    refine ak 2 aa (bZ (g:=gE) aa (fun jG G1=>?_) (fun jG G1=>?_))
    ·refine an aa jG (an aa jG (an aa jG (an aa jG (an aa jG (an aa jG (ai (aW aa jG aa ?_)))))))
     refine bn (cg aa aa (fB (aP 2 aa ?_)))
     obtain⟨j35,hj35,kj35⟩:=cE (z:=I) (n:=p.length+1) ae ae
     refine aU (fI (l:=0) (h:=j35) rfl G J rfl K ⟨_,(by rw[←hj35];rfl)⟩ rfl ae ae (fun d36 G2 hd36 hl36 abo=>?_))
     refine bP aa (VI.fresh aa (iK (ys:=G2) 52 aa aa aa aa aa (.sD hd36 (el abo aa)) aD ae ?_))
     refine aP 2 aa (bP aa (cr (rows:=G2) (ys:=[[(dJ L)]]) aa aa aa (.bs (rows:=[[(dJ L)]]) aa) aD ae dF dF ?_))
     refine aP 2 aa ?_
     obtain⟨j37,hj37,kj37⟩:=cE (z:=I) (n:=p.length+1) ae ae
     refine aU (fI (l:=j37) (h:=p.length) rfl G J rfl K rfl ⟨_,(by rw[←hj37];rfl)⟩ ae ae (fun d38 SJ hd38 hl38 abp=>?_))
     refine bP aa (cr (rows:=(G2++[[(dJ L)]])) (ys:=SJ) aa aa aa (.sD hd38 (el abp aa)) aD ae (fun h=>absurd h bx) (fun h=>absurd h bx) ?_)
     refine cP 1 aa (fm 5 52 aa aa (fun _=>⟨aa,aa⟩) (aS (ai (br aa aa ae ae ?_))))
     refine af 1 aa ?_
     exact⟨((dn.length:Int) -((A+1))).toNat,ae,(.cS ((G2++[[(dJ L)]])++SJ)),((G2++[[(dJ L)]])++SJ),(A+1),(.acc _),hH,(bS (bS abo (bX (ao ah bm))) abp),(fun h=>by rw[h];rfl),ae,ae,rfl,⟨rfl,rfl,rfl,rfl,rfl,rfl,rfl,rfl,rfl,rfl,rfl,trivial⟩,trivial⟩
    refine aq aa jG (bf aa ?_)
    refine aq aa jG (bf aa ?_)
    refine aq aa jG (bo aa aa G ae abn aa ?_)
    refine aq aa jG (cF aa aa ?_)
    refine aq aa jG (bf aa ?_)
    refine aq aa jG (eR aa aa ?_)
    refine ai (bd aa jG aa ?_)
    refine bn (aN aa (fun Ss g39=>?_) (fun Ss g39=>?_))
    ·refine fB (aP 2 aa ?_)
     obtain⟨j40,hj40,kj40⟩:=cE (z:=I) (n:=p.length+1) ae ae
     refine aU (fI (l:=0) (h:=j40) rfl G J rfl K ⟨_,(by rw[←hj40];rfl)⟩ rfl ae ae (fun d41 G3 hd41 hl41 abq=>?_))
     refine bP aa (VI.fresh aa (iK (ys:=G3) 52 aa aa aa aa aa (.sD hd41 (el abq aa)) aD ae ?_))
     refine aP 2 aa (bP aa (cr (rows:=G3) (ys:=[[(dJ L)]]) aa aa aa (.bs (rows:=[[(dJ L)]]) aa) aD ae dF dF ?_))
     refine aP 2 aa ?_
     obtain⟨j42,hj42,kj42⟩:=cE (z:=I) (n:=p.length+1) ae ae
     refine aU (fI (l:=j42) (h:=p.length) rfl G J rfl K rfl ⟨_,(by rw[←hj42];rfl)⟩ ae ae (fun d43 SK hd43 hl43 abr=>?_))
     refine bP aa (cr (rows:=(G3++[[(dJ L)]])) (ys:=SK) aa aa aa (.sD hd43 (el abr aa)) aD ae (fun h=>absurd h bx) (fun h=>absurd h bx) ?_)
     refine cP 1 aa (fm 5 52 aa aa (fun _=>⟨aa,aa⟩) (aS (ai (br aa aa ae ae ?_))))
     refine af 1 aa ?_
     exact⟨((dn.length:Int) -((A+1))).toNat,ae,(.cS ((G3++[[(dJ L)]])++SK)),((G3++[[(dJ L)]])++SK),(A+1),(.acc _),hH,(bS (bS abq (bX (ao ah bm))) abr),(fun h=>by rw[h];rfl),ae,ae,rfl,⟨rfl,rfl,rfl,rfl,rfl,rfl,rfl,rfl,rfl,rfl,rfl,trivial⟩,trivial⟩
    refine aG (aS (ai (br aa aa ae ae ?_)))
    exact af 1 aa (⟨((dn.length:Int) -((A+1))).toNat,ae,U,p,(A+1),G,ae,J,K,ae,ae,aa,⟨aa,aa,aa,aa,aa,aa,aa,aa,aa,aa,aa,trivial⟩,trivial⟩)
   refine an aa gU (an aa gU (an aa gU (an aa gU (an aa gU (an aa gU (ai (bd aa gU aa ?_)))))))
   refine bn (cH aa aa (bV (aj (ak 2 aa (ai (bu aa G ?_))))))
   refine ak 2 aa (bZ (g:=gE) aa (fun fH GU=>?_) (fun fH GU=>?_))
   ·refine an aa fH (an aa fH (an aa fH (an aa fH (an aa fH (an aa fH (ai (aW aa fH aa ?_)))))))
    refine bn (cg aa aa (fB (aP 2 aa ?_)))
    obtain⟨j45,hj45,kj45⟩:=cE (z:=I) (n:=p.length+1) ae ae
    refine aU (fI (l:=0) (h:=j45) rfl G J rfl K ⟨_,(by rw[←hj45];rfl)⟩ rfl ae ae (fun d46 G4 hd46 hl46 abt=>?_))
    refine bP aa (VI.fresh aa (iK (ys:=G4) 52 aa aa aa aa aa (.sD hd46 (el abt aa)) aD ae ?_))
    obtain⟨L,rfl,Mr,Ms⟩:=Ty.az DV
    refine aP 2 aa (bP aa (cr (rows:=G4) (ys:=[[(dJ L)]]) aa aa aa (.bs (rows:=[[(dJ L)]]) aa) aD ae dF dF ?_))
    refine aP 2 aa ?_
    obtain⟨j47,hj47,kj47⟩:=cE (z:=I) (n:=p.length+1) ae ae
    refine aU (fI (l:=j47) (h:=p.length) rfl G J rfl K rfl ⟨_,(by rw[←hj47];rfl)⟩ ae ae (fun d48 SL hd48 hl48 abu=>?_))
    refine bP aa (cr (rows:=(G4++[[(dJ L)]])) (ys:=SL) aa aa aa (.sD hd48 (el abu aa)) aD ae (fun h=>absurd h bx) (fun h=>absurd h bx) ?_)
    refine cP 1 aa (fm 5 52 aa aa (fun _=>⟨aa,aa⟩) (aS (ai (br aa aa ae ae ?_))))
    refine af 1 aa ?_
    exact⟨((dn.length:Int) -((A+1))).toNat,ae,(.cS ((G4++[[(dJ L)]])++SL)),((G4++[[(dJ L)]])++SL),(A+1),(.acc _),hH,(bS (bS abt (bX (ao ah bm))) abu),(fun h=>by rw[h];rfl),ae,ae,rfl,⟨rfl,rfl,rfl,rfl,rfl,rfl,rfl,rfl,rfl,rfl,rfl,trivial⟩,trivial⟩
   refine aq aa fH (bf aa ?_)
   refine aq aa fH (bf aa ?_)
   obtain⟨r49,hg49,Rw⟩:=bR I J
   obtain⟨x49_0,_,rfl,hx49_0,Rw⟩:=b0 Rw
   obtain rfl:=dy Rw
   refine aq aa fH (bo aa aa G ae hg49 aa ?_)
   refine aq aa fH (cF aa aa ?_)
   refine aq aa fH (bf aa ?_)
   obtain⟨zx49_0,rfl,hzx49_0,kzx49_0⟩:=Ty.az hx49_0
   obtain⟨L,rfl,Mr,Ms⟩:=Ty.az DV
   refine aq aa fH (eR aa aa ?_)
   refine ai (bd aa fH aa ?_)
   refine bn (aN aa (fun oT SM=>?_) (fun oT SM=>?_))
   ·refine fB (aP 2 aa ?_)
    obtain⟨j51,hj51,kj51⟩:=cE (z:=I) (n:=p.length+1) ae ae
    refine aU (fI (l:=0) (h:=j51) rfl G J rfl K ⟨_,(by rw[←hj51];rfl)⟩ rfl ae ae (fun d52 G5 hd52 hl52 abv=>?_))
    refine bP aa (VI.fresh aa (iK (ys:=G5) 52 aa aa aa aa aa (.sD hd52 (el abv aa)) aD ae ?_))
    refine aP 2 aa (bP aa (cr (rows:=G5) (ys:=[[(dJ L)]]) aa aa aa (.bs (rows:=[[(dJ L)]]) aa) aD ae dF dF ?_))
    refine aP 2 aa ?_
    obtain⟨j53,hj53,kj53⟩:=cE (z:=I) (n:=p.length+1) ae ae
    refine aU (fI (l:=j53) (h:=p.length) rfl G J rfl K rfl ⟨_,(by rw[←hj53];rfl)⟩ ae ae (fun d54 SN hd54 hl54 abw=>?_))
    refine bP aa (cr (rows:=(G5++[[(dJ L)]])) (ys:=SN) aa aa aa (.sD hd54 (el abw aa)) aD ae (fun h=>absurd h bx) (fun h=>absurd h bx) ?_)
    refine cP 1 aa (fm 5 52 aa aa (fun _=>⟨aa,aa⟩) (aS (ai (br aa aa ae ae ?_))))
    refine af 1 aa ?_
    exact⟨((dn.length:Int) -((A+1))).toNat,ae,(.cS ((G5++[[(dJ L)]])++SN)),((G5++[[(dJ L)]])++SN),(A+1),(.acc _),hH,(bS (bS abv (bX (ao ah bm))) abw),(fun h=>by rw[h];rfl),ae,ae,rfl,⟨rfl,rfl,rfl,rfl,rfl,rfl,rfl,rfl,rfl,rfl,rfl,trivial⟩,trivial⟩
   refine aG (aS (ai (br aa aa ae ae ?_)))
   exact af 1 aa (⟨((dn.length:Int) -((A+1))).toNat,ae,U,p,(A+1),G,ae,J,K,ae,ae,aa,⟨aa,aa,aa,aa,aa,aa,aa,aa,aa,aa,aa,trivial⟩,trivial⟩)
  refine bV (aS (ai (br aa aa ae ae ?_)))
  exact af 1 aa (⟨((2:Int) -((M+1))).toNat,ae,U,p,(M+1),G,ae,J,K,ae,ae,aa,⟨aa,aa,aa,aa,aa,aa,trivial⟩,trivial⟩)
 exact bV (aj (af 2 aa (ay (aE aa aa ⟨jz,Y,aa,N4,ae,N5,ae,N6⟩))))
theorem sortC_{T:bC}(F:FT T)(N:Nat):∀{a0:DC}{Z:List (List DC)}(dW:aR Z a0)(ed:Z.length≤1000000000)(cW:aH pc Z)(hN:Z.length≤N),Sound T 195 [.d a0] fun r=>∃(y0:DC)(cQ:List (List DC)),r= .d y0∧aR cQ y0∧(cQ.length:Int)≤Z.length∧aH pc cQ∧0≤(cQ.length:Int)∧(cQ=[]→y0= .nil):=by
 induction N using Nat.strongRecOn with
 |_ N ih=>
 intro a0 Z dW ed cW hN
 refine ch F.q195 aa (aj (af 1 aa (aA (aj (ak 1 aa (ai (bu aa dW ?_)))))))
 refine af 1 aa (aN aa (fun h1 g1=>?_) (fun h1 g1=>?_))
 ·refine aj (ak 1 aa (ai (iK (ys:=Z) 12 aa aa aa aa aa (.sD dW (el cW aa)) aD ae ?_)))
  refine af 1 aa (fm 2 12 aa aa (fun _=>⟨aa,aa⟩) (ay ?_))
  exact aE rfl rfl ⟨(.cS Z),Z,rfl,(.acc _),ae,cW,ae,(fun h=>by rw[h];rfl)⟩
 refine aG (cN (aP 2 aa (aU (bu aa dW ?_))))
 refine aU (Du aa aa aa aa ae ae ae aD ?_)
 obtain⟨j2,ux,uK⟩:=cE (z:=((Z.length:Int)/2)) (n:=Z.length+1) ae ae
 refine aU (fI (l:=0) (h:=j2) rfl dW cW rfl (vC ae) ⟨_,(by rw[←ux];rfl)⟩ rfl ae ae (fun d3 w3 hd3 SB gQ=>?_))
 refine bP aa (aY aa (aV aa) (ih (w3).length ae hd3 ae gQ (bM _)) (fun r4 _ eo=>?_))
 obtain⟨fk,L,rfl,I,xO,oj,A2,DW⟩:=eo
 refine aP 2 aa (aU (bu aa dW ?_))
 refine aU (Du aa aa aa aa ae ae ae aD ?_)
 obtain⟨j5,Ao,wY⟩:=cE (z:=((Z.length:Int)/2)) (n:=Z.length+1) ae ae
 refine aU (fI (l:=j5) (h:=Z.length) rfl dW cW rfl (vC ae) rfl ⟨_,(by rw[←Ao];rfl)⟩ ae ae (fun d6 w6 hd6 hl6 gP=>?_))
 refine bP aa (aY aa (aV aa) (ih (w6).length ae hd6 ae gP (bM _)) (fun r7 _ nc=>?_))
 obtain⟨wu,M,rfl,J,hny7_0,IQ,hmy7_0,hey7_0⟩:=nc
 refine cP 2 aa (aj (af 1 aa (aj (af 2 aa (aA (bj (ki 5 90 143 48 2 aa aa (cb (fun k VE B=>∃(p:Int)(A:Int)(G:List (List DC)),(0≤p∧p≤(L.length:Int))∧(0≤A∧A≤(M.length:Int))∧((G.length:Int)≤p+A)∧(aH pc G)∧k=((L.length:Int)+M.length-p-A).toNat∧aT [(0,.d a0),(2,dN),(3,.d fk),(4,.d wu),(5,.ac 90 G.length 2),(6,.d (dJ p)),(7,.d (dJ A)),(10,dB (decide ((Z.length:Int)<2)))] VE∧aT [(90,.acc 143 48 2 G)] B) ?_ (k:=((L.length:Int)+M.length-0-0).toNat) ⟨0,0,[],ae,ae,cn,bN,aa,⟨aa,aa,aa,aa,aa,aa,aa,aa,trivial⟩,⟨aa,trivial⟩⟩))))))))
 rintro _ VE B⟨p,A,G,c9,fr,wC,K,rfl,hV,hB⟩
 refine bz _ _ hV hB (aA (aj (ak 2 aa (ai (bu aa I ?_)))))
 refine ak 2 aa (bZ (g:=yT) aa (fun h8 g8=>?_) (fun h8 g8=>?_))
 ·refine an aa h8 (an aa h8 (an aa h8 (an aa h8 (ai (aW aa h8 aa ?_)))))
  refine bn (cg aa aa (aG (bj (cN (aP 2 aa (aU (bu aa J ?_)))))))
  refine aP 2 aa (fA (g:=tA) aa (fun h9 g9=>?_) (fun h9 g9=>?_))
  ·refine bh aa h9 (bh aa h9 (bh aa h9 (bh aa h9 (bh aa h9 (dD aa (dD aa (dD aa (iA aa (dD aa ?_)))))))))
   refine dD aa (dD aa (iA aa (iA aa (dD aa (bh aa h9 (aU (aW aa h9 aa ?_)))))))
   refine cU (cg aa aa (aj (ak 3 aa ?_)))
   obtain⟨mA,gL,gM⟩:=bR p oj
   obtain⟨mh,oq,rfl,ko,o6⟩:=fc gM
   refine ai (bo aa aa I ae gL aa ?_)
   obtain⟨wx10_0,hdx10_0,hnx10_0,hrx10_0⟩:=Ty.au ko
   obtain⟨wx10_1,Mm,hnx10_1,Mn⟩:=Ty.au o6
   refine ak 2 aa ?_
   refine ai (cr (rows:=G) (ys:=[[mh,oq]]) rfl rfl rfl (.bs (rows:=[[mh,oq]]) rfl) aD ae (fun h=>by rw[h];rfl) (fun h=>by rw[h];rfl) ?_)
   refine af 1 aa (aS (ak 1 aa (ai (br aa aa ae ae ?_))))
   exact af 1 aa (⟨((L.length:Int)+M.length-((p+1)) -A).toNat,ae,(p+1),A,(G++[[mh,oq]]),ae,ae,cn,(bS K (bX (ao (au hdx10_0 ae hrx10_0) (ao (au Mm ae Mn) bm)))),aa,⟨aa,aa,aa,aa,aa,aa,aa,aa,trivial⟩,⟨aa,trivial⟩⟩)
  refine bg aa h9 (bf aa ?_)
  refine bg aa h9 (bf aa ?_)
  refine bg aa h9 (bu aa I ?_)
  refine bg aa h9 (eH aa aa ?_)
  refine bg aa h9 (bf aa ?_)
  refine fA (g:=tB) aa (fun O fT=>?_) (fun O fT=>?_)
  ·refine bg aa O (bf aa ?_)
   refine bg aa O (bf aa ?_)
   obtain⟨nW,nR,jy⟩:=bR A IQ
   obtain⟨rL,vJ,rfl,qd,xT⟩:=fc jy
   refine bg aa O (bo aa aa J ae nR aa ?_)
   refine cw aa O aa (eF aa (aX aa) (aX aa) ?_)
   refine bg aa O (bf aa ?_)
   refine bg aa O (bf aa ?_)
   obtain⟨qQ,sk,qH⟩:=bR p oj
   obtain⟨rK,yk,rfl,sY,A4⟩:=fc qH
   refine bg aa O (bo aa aa I ae sk aa ?_)
   refine cw aa O aa (eF aa (aX aa) (aX aa) ?_)
   obtain⟨wx12_1,V1,hnx12_1,V2⟩:=Ty.au xT
   obtain⟨wx13_1,H7,hnx13_1,H8⟩:=Ty.au A4
   refine cw aa O aa (aY aa (aV aa) (Zm F qd (au V1 ae V2) sY (au H7 ae H8)) (fun sB _ zH=>?_))
   obtain⟨EW,rfl,N8⟩:=zH
   obtain⟨by14_0,rfl⟩:=Ty.bQ N8
   refine bg aa O (eQ aa ?_)
   refine bg aa h9 (aW aa O aa ?_)
   refine aU (bd aa h9 aa ?_)
   refine cU (db aa (fun nj=>?_) (fun nj=>?_))
   ·refine aj (ak 3 aa (ai (bo aa aa I ae sk aa ?_)))
    obtain⟨wx13_0,hdx13_0,hnx13_0,hrx13_0⟩:=Ty.au sY
    refine ak 2 aa ?_
    refine ai (cr (rows:=G) (ys:=[[rK,yk]]) rfl rfl rfl (.bs (rows:=[[rK,yk]]) rfl) aD ae (fun h=>by rw[h];rfl) (fun h=>by rw[h];rfl) ?_)
    refine af 1 aa (aS (ak 1 aa (ai (br aa aa ae ae ?_))))
    exact af 1 aa (⟨((L.length:Int)+M.length-((p+1)) -A).toNat,ae,(p+1),A,(G++[[rK,yk]]),ae,ae,cn,(bS K (bX (ao (au hdx13_0 ae hrx13_0) (ao (au H7 ae H8) bm)))),aa,⟨aa,aa,aa,aa,aa,aa,aa,aa,trivial⟩,⟨aa,trivial⟩⟩)
   refine aj (ak 3 aa (ai (bo aa aa J ae nR aa ?_)))
   obtain⟨wx12_0,hdx12_0,hnx12_0,hrx12_0⟩:=Ty.au qd
   refine ak 2 aa ?_
   refine ai (cr (rows:=G) (ys:=[[rL,vJ]]) rfl rfl rfl (.bs (rows:=[[rL,vJ]]) rfl) aD ae (fun h=>by rw[h];rfl) (fun h=>by rw[h];rfl) ?_)
   refine af 1 aa (aS (ak 1 aa (ai (br aa aa ae ae ?_))))
   exact af 1 aa (⟨((L.length:Int)+M.length-p-((A+1))).toNat,ae,p,(A+1),(G++[[rL,vJ]]),ae,ae,cn,(bS K (bX (ao (au hdx12_0 ae hrx12_0) (ao (au V1 ae V2) bm)))),aa,⟨aa,aa,aa,aa,aa,aa,aa,aa,trivial⟩,⟨aa,trivial⟩⟩)
  refine bh aa O (bh aa O (bh aa O (ca aa O (bh aa O (bh aa O (bh aa O (ca aa O (ca aa O (bh aa O ?_)))))))))
  refine bg aa h9 (bd aa O aa ?_)
  refine aU (bd aa h9 aa ?_)
  refine cU (cH aa aa (aj (ak 3 aa ?_)))
  obtain⟨CL,tR,zt⟩:=bR A IQ
  obtain⟨EO,EP,rfl,IJ,NH⟩:=fc zt
  refine ai (bo aa aa J ae tR aa ?_)
  obtain⟨wx16_0,hdx16_0,hnx16_0,hrx16_0⟩:=Ty.au IJ
  obtain⟨wx16_1,hdx16_1,hnx16_1,hrx16_1⟩:=Ty.au NH
  refine ak 2 aa ?_
  refine ai (cr (rows:=G) (ys:=[[EO,EP]]) rfl rfl rfl (.bs (rows:=[[EO,EP]]) rfl) aD ae (fun h=>by rw[h];rfl) (fun h=>by rw[h];rfl) ?_)
  refine af 1 aa (aS (ak 1 aa (ai (br aa aa ae ae ?_))))
  exact af 1 aa (⟨((L.length:Int)+M.length-p-((A+1))).toNat,ae,p,(A+1),(G++[[EO,EP]]),ae,ae,cn,(bS K (bX (ao (au hdx16_0 ae hrx16_0) (ao (au hdx16_1 ae hrx16_1) bm)))),aa,⟨aa,aa,aa,aa,aa,aa,aa,aa,trivial⟩,⟨aa,trivial⟩⟩)
 refine aq aa h8 (bf aa ?_)
 refine aq aa h8 (bf aa ?_)
 refine aq aa h8 (bu aa J ?_)
 refine aq aa h8 (eH aa aa ?_)
 refine ai (bd aa h8 aa ?_)
 refine bn (aN aa (fun gR jF=>?_) (fun gR jF=>?_))
 ·refine aG (bj (cN (aP 2 aa (aU (bu aa J ?_)))))
  refine aP 2 aa (fA (g:=tA) aa (fun Y ni=>?_) (fun Y ni=>?_))
  ·refine bh aa Y (bh aa Y (bh aa Y (bh aa Y (bh aa Y (dD aa (dD aa (dD aa (iA aa (dD aa ?_)))))))))
   refine dD aa (dD aa (iA aa (iA aa (dD aa (bh aa Y (aU (aW aa Y aa ?_)))))))
   refine cU (cg aa aa (aj (ak 3 aa ?_)))
   obtain⟨Al,zI,lR⟩:=bR p oj
   obtain⟨BL,JJ,rfl,DX,XI⟩:=fc lR
   refine ai (bo aa aa I ae zI aa ?_)
   obtain⟨wx19_0,hdx19_0,hnx19_0,hrx19_0⟩:=Ty.au DX
   obtain⟨wx19_1,hdx19_1,hnx19_1,hrx19_1⟩:=Ty.au XI
   refine ak 2 aa ?_
   refine ai (cr (rows:=G) (ys:=[[BL,JJ]]) rfl rfl rfl (.bs (rows:=[[BL,JJ]]) rfl) aD ae (fun h=>by rw[h];rfl) (fun h=>by rw[h];rfl) ?_)
   refine af 1 aa (aS (ak 1 aa (ai (br aa aa ae ae ?_))))
   exact af 1 aa (⟨((L.length:Int)+M.length-((p+1)) -A).toNat,ae,(p+1),A,(G++[[BL,JJ]]),ae,ae,cn,(bS K (bX (ao (au hdx19_0 ae hrx19_0) (ao (au hdx19_1 ae hrx19_1) bm)))),aa,⟨aa,aa,aa,aa,aa,aa,aa,aa,trivial⟩,⟨aa,trivial⟩⟩)
  refine bg aa Y (bf aa ?_)
  refine bg aa Y (bf aa ?_)
  refine bg aa Y (bu aa I ?_)
  refine bg aa Y (eH aa aa ?_)
  refine bg aa Y (bf aa ?_)
  refine fA (g:=tB) aa (fun U uD=>?_) (fun U uD=>?_)
  ·refine bg aa U (bf aa ?_)
   refine bg aa U (bf aa ?_)
   obtain⟨CR,wB,pE⟩:=bR A IQ
   obtain⟨BF,ER,rfl,xQ,NJ⟩:=fc pE
   refine bg aa U (bo aa aa J ae wB aa ?_)
   refine cw aa U aa (eF aa (aX aa) (aX aa) ?_)
   refine bg aa U (bf aa ?_)
   refine bg aa U (bf aa ?_)
   obtain⟨CT,KF,Cr⟩:=bR p oj
   obtain⟨JK,JL,rfl,N9,XJ⟩:=fc Cr
   refine bg aa U (bo aa aa I ae KF aa ?_)
   refine cw aa U aa (eF aa (aX aa) (aX aa) ?_)
   obtain⟨wx21_1,V3,hnx21_1,V4⟩:=Ty.au NJ
   obtain⟨wx22_1,V5,hnx22_1,V6⟩:=Ty.au XJ
   refine cw aa U aa (aY aa (aV aa) (Zm F xQ (au V3 ae V4) N9 (au V5 ae V6)) (fun CS _ tX=>?_))
   obtain⟨BM,rfl,hy23_0⟩:=tX
   obtain⟨by23_0,rfl⟩:=Ty.bQ hy23_0
   refine bg aa U (eQ aa ?_)
   refine bg aa Y (aW aa U aa ?_)
   refine aU (bd aa Y aa ?_)
   refine cU (db aa (fun gy=>?_) (fun gy=>?_))
   ·refine aj (ak 3 aa (ai (bo aa aa I ae KF aa ?_)))
    obtain⟨wx22_0,hdx22_0,hnx22_0,hrx22_0⟩:=Ty.au N9
    refine ak 2 aa ?_
    refine ai (cr (rows:=G) (ys:=[[JK,JL]]) rfl rfl rfl (.bs (rows:=[[JK,JL]]) rfl) aD ae (fun h=>by rw[h];rfl) (fun h=>by rw[h];rfl) ?_)
    refine af 1 aa (aS (ak 1 aa (ai (br aa aa ae ae ?_))))
    exact af 1 aa (⟨((L.length:Int)+M.length-((p+1)) -A).toNat,ae,(p+1),A,(G++[[JK,JL]]),ae,ae,cn,(bS K (bX (ao (au hdx22_0 ae hrx22_0) (ao (au V5 ae V6) bm)))),aa,⟨aa,aa,aa,aa,aa,aa,aa,aa,trivial⟩,⟨aa,trivial⟩⟩)
   refine aj (ak 3 aa (ai (bo aa aa J ae wB aa ?_)))
   obtain⟨wx21_0,hdx21_0,hnx21_0,hrx21_0⟩:=Ty.au xQ
   refine ak 2 aa ?_
   refine ai (cr (rows:=G) (ys:=[[BF,ER]]) rfl rfl rfl (.bs (rows:=[[BF,ER]]) rfl) aD ae (fun h=>by rw[h];rfl) (fun h=>by rw[h];rfl) ?_)
   refine af 1 aa (aS (ak 1 aa (ai (br aa aa ae ae ?_))))
   exact af 1 aa (⟨((L.length:Int)+M.length-p-((A+1))).toNat,ae,p,(A+1),(G++[[BF,ER]]),ae,ae,cn,(bS K (bX (ao (au hdx21_0 ae hrx21_0) (ao (au V3 ae V4) bm)))),aa,⟨aa,aa,aa,aa,aa,aa,aa,aa,trivial⟩,⟨aa,trivial⟩⟩)
  refine bh aa U (bh aa U (bh aa U (ca aa U (bh aa U (bh aa U (bh aa U (ca aa U (ca aa U (bh aa U ?_)))))))))
  refine bg aa Y (bd aa U aa ?_)
  refine aU (bd aa Y aa ?_)
  refine cU (cH aa aa (aj (ak 3 aa ?_)))
  obtain⟨r25,Gd,Cu⟩:=bR A IQ
  obtain⟨JM,JN,rfl,XK,N'⟩:=fc Cu
  refine ai (bo aa aa J ae Gd aa ?_)
  obtain⟨wx25_0,hdx25_0,hnx25_0,hrx25_0⟩:=Ty.au XK
  obtain⟨wx25_1,hdx25_1,hnx25_1,hrx25_1⟩:=Ty.au N'
  refine ak 2 aa ?_
  refine ai (cr (rows:=G) (ys:=[[JM,JN]]) rfl rfl rfl (.bs (rows:=[[JM,JN]]) rfl) aD ae (fun h=>by rw[h];rfl) (fun h=>by rw[h];rfl) ?_)
  refine af 1 aa (aS (ak 1 aa (ai (br aa aa ae ae ?_))))
  exact af 1 aa (⟨((L.length:Int)+M.length-p-((A+1))).toNat,ae,p,(A+1),(G++[[JM,JN]]),ae,ae,cn,(bS K (bX (ao (au hdx25_0 ae hrx25_0) (ao (au hdx25_1 ae hrx25_1) bm)))),aa,⟨aa,aa,aa,aa,aa,aa,aa,aa,trivial⟩,⟨aa,trivial⟩⟩)
 refine bV (aj (af 2 aa (fm 2 90 aa aa (fun _=>⟨aa,aa⟩) (ay ?_))))
 exact aE rfl rfl ⟨(.cS G),G,rfl,(.acc _),ae,K,ae,(fun h=>by rw[h];rfl)⟩
theorem sortC{T:bC}(F:FT T){K:DC}{z:List (List DC)}(A:aR z K)(G:z.length≤1000000000)(I:aH pc z):Sound T 195 [.d K] fun r=>∃(J:DC)(p:List (List DC)),r= .d J∧aR p J∧(p.length:Int)≤z.length∧aH pc p∧0≤(p.length:Int)∧(p=[]→J= .nil):=sortC_ F _ A G I (bM _)
end Go.Ev.Rp
namespace Go.Ev.Rp
open Go Go.Ev.Pp
theorem Oa{T:bC}(F:FT T){a0:DC}(Y:(Ty.s 1000).ok a0):Sound T 156 [.d a0] fun r=>∃y0,r= .d y0∧(Ty.b).ok y0:=by
 refine ch F.q156 aa ?_
 obtain⟨A,rfl,kD⟩:=Ty.aJ Y
 refine aj (af 1 aa (aA (aj (ak 4 aa (bZ (g:=qM) aa (fun M g1=>?_) (fun M g1=>?_))))))
 ·refine an aa M (an aa M (an aa M (ai (aW aa M aa ?_))))
  refine ak 1 aa (an aa aa (an aa aa (an aa aa (ai (aW aa aa aa ?_)))))
  refine ak 1 aa (an aa aa (an aa aa (an aa aa (ai (aW aa aa aa ?_)))))
  exact bn (cg aa aa (aj (af 1 aa (ay (aE aa aa ⟨(.b false),aa,bQ⟩)))))
 refine aq aa M (bf aa ?_)
 refine aq aa M (Uv aa ?_)
 refine aq aa M (je aa aa ?_)
 refine ai (bd aa M aa ?_)
 refine ak 1 aa (bZ (g:=lj) aa (fun h2 g2=>?_) (fun h2 g2=>?_))
 ·refine an aa h2 (an aa h2 (an aa h2 (ai (aW aa h2 aa ?_))))
  refine ak 1 aa (an aa aa (an aa aa (an aa aa (ai (aW aa aa aa ?_)))))
  exact bn (cg aa aa (aj (af 1 aa (ay (aE aa aa ⟨(.b false),aa,bQ⟩)))))
 refine aq aa h2 (bf aa ?_)
 obtain⟨j3,Z,Ld⟩:=cE (z:=0) (n:=A.length) ae ae
 obtain⟨c3,hc3⟩:∃c,A[j3]?=some c:=⟨_,dz Ld⟩
 refine aq rfl h2 (LJ rfl (by rw[←Z];rfl) hc3 ?_)
 refine aq aa h2 (eH aa aa ?_)
 refine ai (bd aa h2 aa ?_)
 refine ak 1 aa (bZ (g:=rV) aa (fun O g4=>?_) (fun O g4=>?_))
 ·refine an aa O (an aa O (an aa O (ai (aW aa O aa ?_))))
  exact bn (cg aa aa (aj (af 1 aa (ay (aE aa aa ⟨(.b false),aa,bQ⟩)))))
 refine aq aa O (bf aa ?_)
 obtain⟨j5,Ao,wY⟩:=cE (z:=0) (n:=A.length) ae ae
 obtain⟨c5,Sk⟩:∃c,A[j5]?=some c:=⟨_,dz wY⟩
 refine aq rfl O (LJ rfl (by rw[←Ao];rfl) Sk ?_)
 refine aq aa O (je aa aa ?_)
 refine ai (bd aa O aa ?_)
 refine bn (aN aa (fun h6 g6=>?_) (fun h6 g6=>?_))
 ·exact aj (af 1 aa (ay (aE aa aa ⟨(.b false),aa,bQ⟩)))
 refine aG (aA (aj (af 1 aa (bj (cb (fun k VE B=>∃(p:Int),(0≤p∧(p≤(A.length:Int)∨p=0))∧k=((A.length:Int) -p).toNat∧aT [(0,dS A),(2,dB false),(3,.d (dJ p)),(22,dB (decide (122<((c5.toNat:Nat):Int))))] VE∧aT [] B) ?_ (k:=((A.length:Int) -0).toNat) ⟨0,ae,aa,⟨aa,aa,aa,aa,trivial⟩,trivial⟩)))))
 rintro _ VE B⟨p,c9,rfl,hV,hB⟩
 refine bz _ _ hV hB (aA (aj (af 4 aa (aN aa (fun h7 g7=>?_) (fun h7 g7=>?_)))))
 ·refine aG (aA (bj (aj (ak 2 aa ?_))))
  obtain⟨j8,SC,kj8⟩:=cE (z:=p) (n:=A.length) ae ae
  obtain⟨c8,hc8⟩:∃c,A[j8]?=some c:=⟨_,dz kj8⟩
  refine ai (LJ rfl (by rw[←SC];rfl) hc8 ?_)
  refine af 1 aa (aj (ak 3 aa (bZ (g:=ox) aa (fun U g9=>?_) (fun U g9=>?_))))
  ·refine an aa U (an aa U (ai (aW aa U aa ?_)))
   refine ak 1 aa (aq aa aa (bf aa ?_))
   refine aq aa aa (eH aa aa ?_)
   refine aq aa aa (bf aa ?_)
   refine bZ (g:=gE) aa (fun I fV=>?_) (fun I fV=>?_)
   ·refine an aa I (an aa I (aq aa aa (aW aa I aa ?_)))
    refine ai (aW aa aa aa ?_)
    refine ak 1 aa (aq aa aa (bf aa ?_))
    refine aq aa aa (eR aa aa ?_)
    refine ai (aW aa aa aa ?_)
    refine bn (aN aa (fun ir fT=>?_) (fun ir fT=>?_))
    ·exact aj (af 1 aa (ay (aE aa aa ⟨(.b false),aa,bQ⟩)))
    refine aG (aS (ak 1 aa (ai (br aa aa ae ae ?_))))
    exact af 1 aa (⟨((A.length:Int) -((p+1))).toNat,ae,(p+1),ae,aa,⟨aa,aa,aa,aa,trivial⟩,trivial⟩)
   refine aq aa I (bf aa ?_)
   refine aq aa I (je aa aa ?_)
   refine aq aa aa (bd aa I aa ?_)
   refine ai (aW aa aa aa ?_)
   refine ak 1 aa (bZ (g:=jh) aa (fun J gS=>?_) (fun J gS=>?_))
   ·refine aq aa J (bf aa ?_)
    refine aq aa J (eR aa aa ?_)
    refine ai (aW aa J aa ?_)
    refine bn (aN aa (fun eD iv=>?_) (fun eD iv=>?_))
    ·exact aj (af 1 aa (ay (aE aa aa ⟨(.b false),aa,bQ⟩)))
    refine aG (aS (ak 1 aa (ai (br aa aa ae ae ?_))))
    exact af 1 aa (⟨((A.length:Int) -((p+1))).toNat,ae,(p+1),ae,aa,⟨aa,aa,aa,aa,trivial⟩,trivial⟩)
   refine an aa J (an aa J (ai (bd aa J aa ?_)))
   refine bn (cH aa aa (aG (aS (ak 1 aa (ai (br aa aa ae ae ?_))))))
   exact af 1 aa (⟨((A.length:Int) -((p+1))).toNat,ae,(p+1),ae,aa,⟨aa,aa,aa,aa,trivial⟩,trivial⟩)
  refine aq aa U (bf aa ?_)
  refine aq aa U (je aa aa ?_)
  refine ai (bd aa U aa ?_)
  refine ak 1 aa (bZ (g:=rW) aa (fun G kG=>?_) (fun G kG=>?_))
  ·refine aq aa G (bf aa ?_)
   refine aq aa G (eH aa aa ?_)
   refine aq aa G (bf aa ?_)
   refine bZ (g:=gE) aa (fun K kI=>?_) (fun K kI=>?_)
   ·refine an aa K (an aa K (aq aa G (aW aa K aa ?_)))
    refine ai (aW aa G aa ?_)
    refine ak 1 aa (aq aa aa (bf aa ?_))
    refine aq aa aa (eR aa aa ?_)
    refine ai (aW aa aa aa ?_)
    refine bn (aN aa (fun eE jE=>?_) (fun eE jE=>?_))
    ·exact aj (af 1 aa (ay (aE aa aa ⟨(.b false),aa,bQ⟩)))
    refine aG (aS (ak 1 aa (ai (br aa aa ae ae ?_))))
    exact af 1 aa (⟨((A.length:Int) -((p+1))).toNat,ae,(p+1),ae,aa,⟨aa,aa,aa,aa,trivial⟩,trivial⟩)
   refine aq aa K (bf aa ?_)
   refine aq aa K (je aa aa ?_)
   refine aq aa G (bd aa K aa ?_)
   refine ai (aW aa G aa ?_)
   refine ak 1 aa (bZ (g:=jh) aa (fun L jF=>?_) (fun L jF=>?_))
   ·refine aq aa L (bf aa ?_)
    refine aq aa L (eR aa aa ?_)
    refine ai (aW aa L aa ?_)
    refine bn (aN aa (fun eO ni=>?_) (fun eO ni=>?_))
    ·exact aj (af 1 aa (ay (aE aa aa ⟨(.b false),aa,bQ⟩)))
    refine aG (aS (ak 1 aa (ai (br aa aa ae ae ?_))))
    exact af 1 aa (⟨((A.length:Int) -((p+1))).toNat,ae,(p+1),ae,aa,⟨aa,aa,aa,aa,trivial⟩,trivial⟩)
   refine an aa L (an aa L (ai (bd aa L aa ?_)))
   refine bn (cH aa aa (aG (aS (ak 1 aa (ai (br aa aa ae ae ?_))))))
   exact af 1 aa (⟨((A.length:Int) -((p+1))).toNat,ae,(p+1),ae,aa,⟨aa,aa,aa,aa,trivial⟩,trivial⟩)
  refine an aa G (an aa G (an aa G (bG aa (bG aa (an aa G (ai (bd aa G aa ?_)))))))
  refine ak 1 aa (an aa aa (an aa aa (ai (bd aa aa aa ?_))))
  refine bn (cH aa aa (aG (aS (ak 1 aa (ai (br aa aa ae ae ?_))))))
  exact af 1 aa (⟨((A.length:Int) -((p+1))).toNat,ae,(p+1),ae,aa,⟨aa,aa,aa,aa,trivial⟩,trivial⟩)
 exact bV (aj (af 1 aa (ay (aE aa aa ⟨(.b true),aa,bQ⟩))))
theorem IS{T:bC}(F:FT T){a0 a1 a2 a3 a4 a5:DC}(cV:(Ty.s 1000).ok a0)(da:(Ty.l 100 eB).ok a1)(dE:(Ty.l 200 cl).ok a2)(dk:(Ty.l 4 fu).ok a3)(dg:(Ty.l 4 ez).ok a4)(dm:(Ty.l 200 cl).ok a5):Sound T 212 [.agg [.d a0,.d a1,.d a2,.d a3,.d a4],.d a5] fun r=>∃y0,r= .d y0∧(Ty.b).ok y0:=by
 refine ch F.q212 aa ?_
 obtain⟨G,rfl,kD⟩:=Ty.aJ cV
 obtain⟨A,L,fS,du⟩:=Ty.au da
 obtain⟨cu,cO,et,cK⟩:=Ty.au dE
 obtain⟨e5,eC,iS,ef⟩:=Ty.au dk
 obtain⟨eU,cT,fo,dc⟩:=Ty.au dg
 obtain⟨I,M,nN,fi⟩:=Ty.au dm
 refine aj (af 2 aa (aA (aj (af 1 aa (bj (cb (fun k VE B=>∃(p:Int),(0≤p∧(p≤(A.length:Int)∨p=0))∧k=((A.length:Int) -p).toNat∧aT [(0,.agg [dS G,.d a1,.d a2,.d a3,.d a4]),(1,.d a5),(2,.vp 2 0),(4,dB false),(5,.d (dJ p))] VE∧aT [(2,.one 40 112 [dS G,.d a1,.d a2,.d a3,.d a4])] B) ?_ (k:=((A.length:Int) -0).toNat) ⟨0,ae,aa,⟨aa,aa,aa,aa,aa,trivial⟩,⟨aa,trivial⟩⟩))))))
 rintro _ VE B⟨p,c9,rfl,hV,hB⟩
 refine bz _ _ hV hB (aA (aj (ak 3 aa (ai (bu aa L ?_)))))
 refine af 1 aa (aN aa (fun h1 g1=>?_) (fun h1 g1=>?_))
 ·refine aG (aA (bj (aj (af 1 aa (bj (cb (fun k VE B=>∃(z:Int),(0≤z∧(z≤(I.length:Int)∨z=0))∧k=((I.length:Int) -z).toNat∧aT [(0,.agg [dS G,.d a1,.d a2,.d a3,.d a4]),(1,.d a5),(2,.vp 2 0),(4,dB false),(5,.d (dJ p)),(6,.d (dJ z)),(11,dB (decide (p<(A.length:Int))))] VE∧aT [(2,.one 40 112 [dS G,.d a1,.d a2,.d a3,.d a4])] B) ?_ (k:=((I.length:Int) -0).toNat) ⟨0,ae,aa,⟨aa,aa,aa,aa,aa,aa,aa,trivial⟩,⟨aa,trivial⟩⟩))))))
  rintro _ VE B⟨z,jj,rfl,hV,hB⟩
  refine bz _ _ hV hB (aA (aj (ak 2 aa (ai (bu aa M ?_)))))
  refine af 1 aa (aN aa (fun h2 g2=>?_) (fun h2 g2=>?_))
  ·refine aG (aA (bj (cN (aP 3 aa ?_))))
   obtain⟨r3,fG,gQ⟩:=bR p du
   obtain⟨oD,qC,wo,rfl,O,U,Y⟩:=c4 gQ
   refine aU (bo aa aa L ae fG aa ?_)
   refine de aa aa (eF aa (aX aa) (aX aa) ?_)
   refine aP 2 aa ?_
   obtain⟨r4,eg,Z⟩:=bR z fi
   obtain⟨jw,_,rfl,gB,Z⟩:=b0 Z
   obtain rfl:=dy Z
   refine aU (bo aa aa M ae eg aa ?_)
   refine de aa aa (cF aa aa ?_)
   obtain⟨Za,J,Xs,K⟩:=Ty.au Y
   refine bP aa (aY aa (aV aa) (Ky F O U J ae K gB) (fun r5 _ dL=>?_))
   obtain⟨il,rfl,jS⟩:=dL
   refine cP 1 aa (aN aa (fun h6 g6=>?_) (fun h6 g6=>?_))
   ·exact aj (af 1 aa (ay (aE aa aa ⟨(.b false),aa,bQ⟩)))
   refine aG (aS (ak 1 aa (ai (br aa aa ae ae ?_))))
   exact af 1 aa (⟨((I.length:Int) -((z+1))).toNat,ae,(z+1),ae,aa,⟨aa,aa,aa,aa,aa,aa,aa,trivial⟩,⟨aa,trivial⟩⟩)
  refine bV (aS (ak 1 aa (ai (br aa aa ae ae ?_))))
  exact af 1 aa (⟨((A.length:Int) -((p+1))).toNat,ae,(p+1),ae,aa,⟨aa,aa,aa,aa,aa,trivial⟩,⟨aa,trivial⟩⟩)
 exact bV (aj (af 1 aa (ay (aE aa aa ⟨(.b true),aa,bQ⟩))))
theorem folC{T:bC}(F:FT T){a0 a1 a2 a3 a4 a5 a6:DC}(cV:tJ.ok a0)(da:tJ.ok a1)(dE:(Ty.l 13 mo).ok a2)(dk:tJ.ok a3)(dg:tJ.ok a4)(dm:(Ty.l 13 mo).ok a5)(iX:tJ.ok a6):Sound T 210 [.agg [.d a0,.d a1,.d a2],.agg [.d a3,.d a4,.d a5],.d a6] fun r=>∃y0,r= .d y0∧(Ty.b).ok y0:=by
 refine ch F.q210 aa ?_
 obtain⟨aQ,rfl,iF,hJ⟩:=Ty.az cV
 obtain⟨aB,rfl,eS,eT⟩:=Ty.az da
 obtain⟨cu,O,et,U⟩:=Ty.au dE
 obtain⟨aO,rfl,lM,lN⟩:=Ty.az dk
 obtain⟨bc,rfl,sh,si⟩:=Ty.az dg
 obtain⟨J,I,nN,fi⟩:=Ty.au dm
 obtain⟨bA,rfl,Cj,Ck⟩:=Ty.az iX
 refine aj (af 3 aa (aA (aj (af 7 aa (aN aa (fun h1 g1=>?_) (fun h1 g1=>?_))))))
 ·exact aj (af 1 aa (ay (aE aa aa ⟨(.b false),aa,bQ⟩)))
 refine aG (aA (aj (af 1 aa (bj (cb (fun k VE B=>∃(z:Int),(0≤z∧(z≤(J.length:Int)∨z=0))∧k=((J.length:Int) -z).toNat∧aT [(0,.agg [.d (dJ aQ),.d (dJ aB),.d a2]),(1,.agg [.d (dJ aO),.d (dJ bc),.d a5]),(2,.d (dJ bA)),(3,.vp 3 0),(4,.vp 4 0),(6,dB false),(7,.d (dJ z)),(15,dB ((!decide (aB=aO))))] VE∧aT [(3,.one 135 40 [.d (dJ aQ),.d (dJ aB),.d a2]),(4,.one 135 40 [.d (dJ aO),.d (dJ bc),.d a5])] B) ?_ (k:=((J.length:Int) -0).toNat) ⟨0,ae,aa,⟨aa,aa,aa,aa,aa,aa,aa,aa,trivial⟩,⟨aa,aa,trivial⟩⟩)))))
 rintro _ VE B⟨z,c9,rfl,hV,hB⟩
 refine bz _ _ hV hB (aA (aj (ak 3 aa (ai (bu aa I ?_)))))
 refine af 1 aa (aN aa (fun h2 g2=>?_) (fun h2 g2=>?_))
 ·refine aG (aA (bj (cN (aP 4 aa ?_))))
  obtain⟨r3,fG,gQ⟩:=bR z fi
  obtain⟨oD,qC,wo,rfl,kt,Y,Z⟩:=c4 gQ
  refine aU (bo aa aa I ae fG aa ?_)
  refine aP 1 aa (de aa aa (cF aa aa ?_))
  obtain⟨vI,rfl,Ny,Nz⟩:=Ty.az kt
  refine bP aa (aY aa (aV aa) (Ky F ah ah O ae U ah) (fun r4 _ eo=>?_))
  obtain⟨fk,rfl,mN⟩:=eo
  refine cP 1 aa (cN (aP 3 aa (fA (g:=mS) aa (fun G g5=>?_) (fun G g5=>?_))))
  ·refine bg aa G (bL aa ?_)
   refine cw aa G aa (bJ aa aa aa ?_)
   refine bg aa G (bf aa ?_)
   refine bg aa G (bo aa aa I ae fG aa ?_)
   refine bg aa G (eL aa ?_)
   refine cw aa G aa (cF aa aa ?_)
   refine bg aa G (bf aa ?_)
   refine bg aa G (qc aa aa ?_)
   refine aU (aW aa G aa ?_)
   refine aP 1 aa (fA (g:=qA) aa (fun M g6=>?_) (fun M g6=>?_))
   ·refine bh aa M (bh aa M (bh aa M (dD aa (iA aa (dD aa (dD aa (iA aa (dD aa (iA aa ?_)))))))))
    refine dD aa (dD aa (iA aa (dD aa (bh aa M (aU (aW aa M aa ?_))))))
    exact cU (cg aa aa (aj (af 1 aa (ay (aE aa aa ⟨(.b false),aa,bQ⟩)))))
   refine bg aa M (bf aa ?_)
   refine bg aa M (jr aa aa ?_)
   refine bg aa M (bf aa ?_)
   refine fA (g:=jh) aa (fun A g7=>?_) (fun A g7=>?_)
   ·refine bg aa A (bL aa ?_)
    refine cw aa A aa (bJ aa aa aa ?_)
    refine bg aa A (bf aa ?_)
    obtain⟨r8,qX,qY⟩:=bR fk U
    obtain⟨sm,KC,F',rfl,td,BJ,BK⟩:=c4 qY
    refine bg aa A (bo aa aa O ae qX aa ?_)
    refine cw aa A aa (eF aa (aX aa) (aX aa) ?_)
    refine bg aa A (bL aa ?_)
    refine cw aa A aa (bJ aa aa aa ?_)
    refine bg aa A (bf aa ?_)
    refine bg aa A (bo aa aa I ae fG aa ?_)
    refine cw aa A aa (eF aa (aX aa) (aX aa) ?_)
    obtain⟨BN,rfl,XL,XM⟩:=Ty.az td
    obtain⟨BO,rfl,hsx8_1⟩:=Ty.aJ BJ
    obtain⟨zx8_2,rfl,hzx8_2,kzx8_2⟩:=Ty.az BK
    obtain⟨K,rfl,hsx3_1⟩:=Ty.aJ Y
    obtain⟨L,rfl,XN,XO⟩:=Ty.az Z
    refine bg aa A (uZ (r:=[(dJ BN),(al BO),(dJ zx8_2)]) (r':=[(dJ vI),(al K),(dJ L)]) aa aa aa aa (fun b9=>?_))
    refine bg aa M (aW aa A aa ?_)
    refine aU (bd aa M aa ?_)
    refine cU (db aa (fun gx=>?_) (fun gx=>?_))
    ·exact aj (af 1 aa (ay (aE aa aa ⟨(.b false),aa,bQ⟩)))
    refine aG (aS (ak 1 aa (ai (br aa aa ae ae ?_))))
    exact af 1 aa (⟨((J.length:Int) -((z+1))).toNat,ae,(z+1),ae,aa,⟨aa,aa,aa,aa,aa,aa,aa,aa,trivial⟩,⟨aa,aa,trivial⟩⟩)
   refine bh aa A (ca aa A (bh aa A (bh aa A (ca aa A (bh aa A (ca aa A (bh aa A (bh aa A (ca aa A ?_)))))))))
   refine bh aa A (bg aa M (bd aa A aa ?_))
   refine aU (bd aa M aa ?_)
   refine cU (cH aa aa (aG (aS (ak 1 aa (ai (br aa aa ae ae ?_))))))
   exact af 1 aa (⟨((J.length:Int) -((z+1))).toNat,ae,(z+1),ae,aa,⟨aa,aa,aa,aa,aa,aa,aa,aa,trivial⟩,⟨aa,aa,trivial⟩⟩)
  refine bh aa G (ca aa G (bh aa G (bh aa G (bh aa G (ca aa G (bh aa G (bh aa G (aU (bd aa G aa ?_)))))))))
  refine aP 1 aa (bg aa aa (bf aa ?_))
  refine bg aa aa (jr aa aa ?_)
  refine bg aa aa (bf aa ?_)
  refine fA (g:=jh) aa (fun p fT=>?_) (fun p fT=>?_)
  ·refine bg aa p (bL aa ?_)
   refine cw aa p aa (bJ aa aa aa ?_)
   refine bg aa p (bf aa ?_)
   obtain⟨nW,nR,jy⟩:=bR fk U
   obtain⟨rL,vJ,ZH,rfl,qd,xT,IT⟩:=c4 jy
   refine bg aa p (bo aa aa O ae nR aa ?_)
   refine cw aa p aa (eF aa (aX aa) (aX aa) ?_)
   refine bg aa p (bL aa ?_)
   refine cw aa p aa (bJ aa aa aa ?_)
   refine bg aa p (bf aa ?_)
   refine bg aa p (bo aa aa I ae fG aa ?_)
   refine cw aa p aa (eF aa (aX aa) (aX aa) ?_)
   obtain⟨Ob,rfl,hzx12_0,kzx12_0⟩:=Ty.az qd
   obtain⟨sx12_1,rfl,hsx12_1⟩:=Ty.aJ xT
   obtain⟨zx12_2,rfl,hzx12_2,kzx12_2⟩:=Ty.az IT
   obtain⟨K,rfl,hsx3_1⟩:=Ty.aJ Y
   obtain⟨L,rfl,XN,XO⟩:=Ty.az Z
   refine bg aa p (uZ (r:=[(dJ Ob),(al sx12_1),(dJ zx12_2)]) (r':=[(dJ vI),(al K),(dJ L)]) aa aa aa aa (fun b13=>?_))
   refine bg aa aa (aW aa p aa ?_)
   refine aU (bd aa aa aa ?_)
   refine cU (db aa (fun fw=>?_) (fun fw=>?_))
   ·exact aj (af 1 aa (ay (aE aa aa ⟨(.b false),aa,bQ⟩)))
   refine aG (aS (ak 1 aa (ai (br aa aa ae ae ?_))))
   exact af 1 aa (⟨((J.length:Int) -((z+1))).toNat,ae,(z+1),ae,aa,⟨aa,aa,aa,aa,aa,aa,aa,aa,trivial⟩,⟨aa,aa,trivial⟩⟩)
  refine bh aa p (ca aa p (bh aa p (bh aa p (ca aa p (bh aa p (ca aa p (bh aa p (bh aa p (ca aa p ?_)))))))))
  refine bh aa p (bg aa aa (bd aa p aa ?_))
  refine aU (bd aa aa aa ?_)
  refine cU (cH aa aa (aG (aS (ak 1 aa (ai (br aa aa ae ae ?_))))))
  exact af 1 aa (⟨((J.length:Int) -((z+1))).toNat,ae,(z+1),ae,aa,⟨aa,aa,aa,aa,aa,aa,aa,aa,trivial⟩,⟨aa,aa,trivial⟩⟩)
 exact bV (aj (af 1 aa (ay (aE aa aa ⟨(.b true),aa,bQ⟩))))
theorem PO{T:bC}(F:FT T){a0 a1 a2 a3 a4 a5:DC}(cV:(Ty.s 1000).ok a0)(da:(Ty.l 100 eB).ok a1)(dE:(Ty.l 200 cl).ok a2)(dk:(Ty.l 4 fu).ok a3)(dg:(Ty.l 4 ez).ok a4)(dm:tJ.ok a5):Sound T 115 [.agg [.d a0,.d a1,.d a2,.d a3,.d a4],.d a5] fun r=>∃y0,r= .d y0∧(Ty.b).ok y0:=by
 refine ch F.q115 aa ?_
 obtain⟨M,rfl,kD⟩:=Ty.aJ cV
 obtain⟨dn,eI,fS,du⟩:=Ty.au da
 obtain⟨cu,cO,et,cK⟩:=Ty.au dE
 obtain⟨G,Z,iS,ef⟩:=Ty.au dk
 obtain⟨O,cT,fo,dc⟩:=Ty.au dg
 obtain⟨bH,rfl,pC,pD⟩:=Ty.az dm
 refine aj (af 2 aa (aA (aj (ak 3 aa (ai (aY aa (aV aa) (BB F cO ae cK ah) (fun r1 _ dh=>?_)))))))
 obtain⟨dV,rfl,dY⟩:=dh
 refine bn ?_
 obtain⟨I,rfl⟩:=Ty.bQ dY
 refine db aa (fun h2=>?_) (fun h2=>?_)
 ·exact aj (af 1 aa (ay (aE aa aa ⟨(.b true),aa,bQ⟩)))
 refine aG (aA (aj (af 1 aa (bj (cb (fun k VE B=>∃(p:Int),(0≤p∧(p≤(G.length:Int)∨p=0))∧k=((G.length:Int) -p).toNat∧aT [(0,.agg [dS M,.d a1,.d a2,.d a3,.d a4]),(1,.d (dJ bH)),(2,.vp 2 0),(4,dB false),(5,.d (dJ p)),(11,dB I)] VE∧aT [(2,.one 40 112 [dS M,.d a1,.d a2,.d a3,.d a4])] B) ?_ (k:=((G.length:Int) -0).toNat) ⟨0,ae,aa,⟨aa,aa,aa,aa,aa,aa,trivial⟩,⟨aa,trivial⟩⟩)))))
 rintro _ VE B⟨p,c9,rfl,hV,hB⟩
 refine bz _ _ hV hB (aA (aj (ak 3 aa (ai (bu aa Z ?_)))))
 refine af 1 aa (aN aa (fun h3 g3=>?_) (fun h3 g3=>?_))
 ·refine aG (aA (bj (aj (ak 3 aa ?_))))
  obtain⟨r4,eg,eZ⟩:=bR p ef
  obtain⟨jw,mr,oG,rfl,gB,jR,ot⟩:=c4 eZ
  refine ai (bo aa aa Z ae eg aa ?_)
  refine af 3 aa (aj (ak 3 aa ?_))
  obtain rfl:=Ty.gm gB
  refine ai (aY aa (aV aa) (BB F (.inl aa) ae o5 ah) (fun r5 _ dL=>?_))
  obtain⟨il,rfl,jS⟩:=dL
  obtain⟨EN,rfl⟩:=Ty.bQ jS
  refine ak 1 aa (e6 (g:=lk) aa (fun A=>?_) (fun A=>?_))
  ·refine an aa A (an aa A (an aa A (an aa A (an aa A (an aa A (bG aa (bG aa (bG aa (bG aa ?_)))))))))
   refine an aa A (ai (aW aa A aa ?_))
   exact bn (cg aa aa (aj (af 1 aa (ay (aE aa aa ⟨(.b true),aa,bQ⟩)))))
  refine aq aa A (bL aa ?_)
  refine aq aa A (bJ aa aa aa ?_)
  refine aq aa A (bL aa ?_)
  refine aq aa A (bJ aa aa aa ?_)
  obtain⟨sx4_1,rfl,hsx4_1⟩:=Ty.aJ jR
  refine aq aa A (uW aa aa ?_)
  refine aq aa A (bf aa ?_)
  refine bZ (g:=ox) aa (fun J g8=>?_) (fun J g8=>?_)
  ·refine aq aa J (bL aa ?_)
   refine aq aa J (bJ aa aa aa ?_)
   refine aq aa J (bf aa ?_)
   obtain rfl:=Ty.gm ot
   refine aq aa J (aY aa (aV aa) (BB F (.inl aa) ae o5 ah) (fun r9 _ oU=>?_))
   obtain⟨jk,rfl,kX⟩:=oU
   refine aq aa A (aW aa J aa ?_)
   refine ai (bd aa A aa ?_)
   refine bn ?_
   obtain⟨by9_0,rfl⟩:=Ty.bQ kX
   refine db aa (fun gx=>?_) (fun gx=>?_)
   ·exact aj (af 1 aa (ay (aE aa aa ⟨(.b true),aa,bQ⟩)))
   refine aG (aS (ak 1 aa (ai (br aa aa ae ae ?_))))
   exact af 1 aa (⟨((G.length:Int) -((p+1))).toNat,ae,(p+1),ae,aa,⟨aa,aa,aa,aa,aa,aa,trivial⟩,⟨aa,trivial⟩⟩)
  refine an aa J (an aa J (an aa J (an aa J (aq aa A (bd aa J aa ?_)))))
  refine ai (bd aa A aa ?_)
  refine bn (cH aa aa (aG (aS (ak 1 aa (ai (br aa aa ae ae ?_))))))
  exact af 1 aa (⟨((G.length:Int) -((p+1))).toNat,ae,(p+1),ae,aa,⟨aa,aa,aa,aa,aa,aa,trivial⟩,⟨aa,trivial⟩⟩)
 refine bV (aA (aj (af 1 aa (bj (cb (fun k VE B=>∃(z:Int),(0≤z∧(z≤(O.length:Int)∨z=0))∧k=((O.length:Int) -z).toNat∧aT [(0,.agg [dS M,.d a1,.d a2,.d a3,.d a4]),(1,.d (dJ bH)),(2,.vp 2 0),(4,dB false),(5,.d (dJ p)),(7,.d (dJ z)),(11,dB I),(16,dB (decide (p<(G.length:Int))))] VE∧aT [(2,.one 40 112 [dS M,.d a1,.d a2,.d a3,.d a4])] B) ?_ (k:=((O.length:Int) -0).toNat) ⟨0,ae,aa,⟨aa,aa,aa,aa,aa,aa,aa,aa,trivial⟩,⟨aa,trivial⟩⟩)))))
 rintro _ VE B⟨z,jj,rfl,hV,hB⟩
 refine bz _ _ hV hB (aA (aj (ak 3 aa (ai (bu aa cT ?_)))))
 refine af 1 aa (aN aa (fun ir fT=>?_) (fun ir fT=>?_))
 ·refine aG (aA (bj (aj (ak 3 aa ?_))))
  obtain⟨nW,nR,jy⟩:=bR z dc
  obtain⟨rL,vJ,rfl,qd,U⟩:=fc jy
  refine ai (bo aa aa cT ae nR aa ?_)
  refine ak 3 aa ?_
  obtain⟨wx12_1,K,hnx12_1,L⟩:=Ty.au U
  refine ai (aY aa (aV aa) (BB F K ae L ah) (fun qQ _ oF=>?_))
  obtain⟨rM,rfl,Y⟩:=oF
  refine bn ?_
  obtain⟨by13_0,rfl⟩:=Ty.bQ Y
  refine db aa (fun fw=>?_) (fun fw=>?_)
  ·exact aj (af 1 aa (ay (aE aa aa ⟨(.b true),aa,bQ⟩)))
  refine aG (aS (ak 1 aa (ai (br aa aa ae ae ?_))))
  exact af 1 aa (⟨((O.length:Int) -((z+1))).toNat,ae,(z+1),ae,aa,⟨aa,aa,aa,aa,aa,aa,aa,aa,trivial⟩,⟨aa,trivial⟩⟩)
 exact bV (aj (af 1 aa (ay (aE aa aa ⟨(.b false),aa,bQ⟩))))
theorem UD{T:bC}(F:FT T){K Z:DC}{z:List (List DC)}(A:aR z K)(ed:z.length≤1000000000)(J:aH cl z)(O:tJ.ok Z):Sound T 161 [.d K,.d Z] fun r=>∃y0,r= .d y0∧(Ty.b).ok y0:=by
 refine ch F.q161 aa ?_
 obtain⟨aB,rfl,eS,eT⟩:=Ty.az O
 refine aj (af 1 aa (aA (aj (ak 1 aa (ai (bu aa A ?_))))))
 refine af 1 aa (bj (cb (fun k VE B=>∃(p:Int),(0≤p∧(p≤(z.length:Int)∨p=0))∧k=((z.length:Int) -p).toNat∧aT [(0,.d K),(1,.d (dJ aB)),(4,dB false),(7,.d K),(8,.d (dJ (z.length:Int))),(9,.d (dJ p))] VE∧aT [] B) ?_ (k:=((z.length:Int) -0).toNat) ⟨0,ae,aa,⟨aa,aa,aa,aa,aa,aa,trivial⟩,trivial⟩))
 rintro _ VE B⟨p,c9,rfl,hV,hB⟩
 refine bz _ _ hV hB (aj (af 1 aa (aA (aN aa (fun h1 g1=>?_) (fun h1 g1=>?_)))))
 ·refine aG (aA (bj (aj ?_)))
  obtain⟨r2,U,G⟩:=bR p J
  obtain⟨fR,_,rfl,I,G⟩:=b0 G
  obtain rfl:=dy G
  refine ai (bo aa aa A ae U aa ?_)
  refine af 2 aa (aj ?_)
  obtain⟨Y,rfl,L,M⟩:=Ty.az I
  refine af 3 aa (aN aa (fun h3 g3=>?_) (fun h3 g3=>?_))
  ·exact aj (af 1 aa (ay (aE aa aa ⟨(.b true),aa,bQ⟩)))
  refine aG (aS (ai (br aa aa ae ae ?_)))
  exact af 1 aa (⟨((z.length:Int) -((p+1))).toNat,ae,(p+1),ae,aa,⟨aa,aa,aa,aa,aa,aa,trivial⟩,trivial⟩)
 exact bV (aj (af 1 aa (ay (aE aa aa ⟨(.b false),aa,bQ⟩))))
theorem InsertC{T:bC}(F:FT T){G Z a2:DC}(K:(Ty.l 1000000000 ee).ok G)(L:tJ.ok Z)(M:tJ.ok a2):Sound T 119 [.d G,.agg [.d Z,.d a2]] fun r=>∃(y0:DC)(p:List (List DC))(y2:DC)(z:List (List DC)),r= .agg [.d y0,.d y2]∧aR p y0∧(p.length:Int)≤0∧aH cl p∧aR z y2∧(z.length:Int)≤1∧aH jv z:=by
 refine ch F.q119 aa ?_
 obtain⟨dP,I,ed,J⟩:=Ty.au K
 obtain⟨aB,rfl,eS,eT⟩:=Ty.az L
 obtain⟨bk,rfl,pA,pB⟩:=Ty.az M
 refine aj (af 2 aa (aA (aj (ak 1 aa (ai (aY aa (aV aa) (II F ah ah) (fun r1 _ O=>?_)))))))
 obtain⟨dV,rfl,A⟩:=O
 obtain⟨U,rfl⟩:=Ty.bQ A
 refine af 1 aa (db aa (fun h2=>?_) (fun h2=>?_))
 ·exact aj (af 2 aa (ay (aE aa aa ⟨.nil,[],.nil,[],aa,(.inr ⟨aa,aa⟩),ae,bN,(.inr ⟨aa,aa⟩),ae,bN⟩)))
 refine aG (aj (ak 4 aa ?_))
 have Y:aH jv [[G,(dJ aB),(dJ bk),.nil]]:=(cY (ao (au I ae J) (ao ah (ao ah (ao bl bm)))) bN)
 exact eV 12 12 aa aa (fun _=>⟨aa,aa⟩) (af 2 aa (ay (aE aa aa ⟨.nil,[],(.sl [[G,(dJ aB),(dJ bk),.nil]]),[[G,(dJ aB),(dJ bk),.nil]],aa,(.inr ⟨aa,aa⟩),ae,bN,(.inl aa),hH,Y⟩)))
theorem XP{T:bC}(F:FT T){a0:DC}{A:List (List DC)}(dW:aR A a0)(ed:A.length≤1000000000)(cW:aH jv A):Sound T 127 [.d a0] fun r=>∃(y0:DC)(L:List (List DC)),r= .d y0∧aR L y0∧(L.length:Int)≤2*(A.length:Int)∧aH cl L∧0≤(L.length:Int)∧(L=[]→y0= .nil):=by
 refine ch F.q127 aa (aj (af 1 aa (aj (af 1 aa (aA (aj (ak 1 aa (ai (bu aa dW ?_)))))))))
 refine af 1 aa (bj (cb (fun k VE B=>∃(G:DC)(z:List (List DC))(p:Int),(aR z G)∧((z.length:Int)≤2*p)∧(aH cl z)∧(z=[]→G= .nil)∧(0≤p∧(p≤(A.length:Int)∨p=0))∧k=((A.length:Int) -p).toNat∧aT [(0,.d a0),(2,dN),(3,.d G),(6,.d a0),(7,.d (dJ (A.length:Int))),(8,.d (dJ p))] VE∧aT [] B) ?_ (k:=((A.length:Int) -0).toNat) ⟨DC.nil,[],0,(.inr ⟨aa,aa⟩),ae,bN,(fun _=>aa),ae,aa,⟨aa,aa,aa,aa,aa,aa,trivial⟩,trivial⟩))
 rintro _ VE B⟨G,z,p,I,fr,J,K,KE,rfl,hV,hB⟩
 refine bz _ _ hV hB (aj (af 1 aa (aA (aN aa (fun h1 g1=>?_) (fun h1 g1=>?_)))))
 ·refine aG (aA (bj (aj ?_)))
  obtain⟨r2,dj,dA⟩:=bR p cW
  obtain⟨fR,fh,gn,lu,rfl,ig,M,O,gC⟩:=vg dA
  refine ai (bo aa aa dW ae dj aa ?_)
  refine af 3 aa (aj (ak 2 aa (ai (aY aa (aV aa) (sX F M O) (fun r3 _ fv=>?_)))))
  obtain⟨iG,rfl,kx⟩:=fv
  refine bn ?_
  obtain⟨EV,rfl⟩:=Ty.bQ kx
  refine db aa (fun h4=>?_) (fun h4=>?_)
  ·refine aS ?_
   obtain⟨vK,rfl,xM,xN⟩:=Ty.az M
   obtain⟨Pq,rfl,xJ,xK⟩:=Ty.az O
   refine ak 8 aa ?_
   have uB:aH cl [[(dJ vK)],[(dJ Pq)]]:=(cY (ao ah bm) (cY (ao ah bm) bN))
   refine eV 22 22 aa aa (fun _=>⟨aa,aa⟩) (ai (aY aa (aV aa) (vm F I ae J (.inl aa) ae uB) (fun r6 _ iW=>?_)))
   obtain⟨oH,JO,rfl,U,Oc,Y,XQ,Z⟩:=iW
   refine af 1 aa (aS (ai (br aa aa ae ae ?_)))
   exact af 1 aa (⟨((A.length:Int) -((p+1))).toNat,ae,oH,JO,(p+1),U,ae,Y,Z,ae,aa,⟨aa,aa,aa,aa,aa,aa,trivial⟩,trivial⟩)
  refine aG (aS (ai (br aa aa ae ae ?_)))
  exact af 1 aa (⟨((A.length:Int) -((p+1))).toNat,ae,G,z,(p+1),I,ae,J,K,ae,aa,⟨aa,aa,aa,aa,aa,aa,trivial⟩,trivial⟩)
 exact bV (aj (af 2 aa (ay (aE aa aa ⟨G,z,aa,I,ae,J,ae,K⟩))))
theorem EX{T:bC}(F:FT T){M:DC}{A:List (List DC)}(G:aR A M)(ed:A.length≤1000000000)(I:aH cl A):Sound T 211 [.d M] fun r=>∃y0,r= .d y0∧(Ty.b).ok y0:=by
 refine ch F.q211 aa (aj (af 1 aa (aA (aj (af 1 aa (bj (cb (fun k VE B=>∃(p:Int),(0≤p∧(p≤(A.length:Int)∨p=0))∧k=((A.length:Int) -p).toNat∧aT [(0,.d M),(2,dB false),(3,.d (dJ p))] VE∧aT [] B) ?_ (k:=((A.length:Int) -0).toNat) ⟨0,ae,aa,⟨aa,aa,aa,trivial⟩,trivial⟩)))))))
 rintro _ VE B⟨p,c9,rfl,hV,hB⟩
 refine bz _ _ hV hB (aA (aj (ak 2 aa (ai (bu aa G ?_)))))
 refine af 1 aa (aN aa (fun h1 g1=>?_) (fun h1 g1=>?_))
 ·refine aG (aA (bj (cN (aP 2 aa ?_))))
  obtain⟨j2,O,uK⟩:=cE (z:=p) (n:=A.length+1) ae ae
  refine aU (fI (l:=0) (h:=j2) rfl G I rfl (vC ae) ⟨_,(by rw[←O];rfl)⟩ rfl ae ae (fun d3 w3 U SB Y=>?_))
  refine aP 2 aa ?_
  obtain⟨r4,Z,J⟩:=bR p I
  obtain⟨jw,_,rfl,K,J⟩:=b0 J
  obtain rfl:=dy J
  refine aU (bo aa aa G ae Z aa ?_)
  refine de aa aa (cF aa aa ?_)
  refine bP aa (aY aa (aV aa) (BB F U ae Y K) (fun r5 _ dL=>?_))
  obtain⟨il,rfl,L⟩:=dL
  refine cU ?_
  obtain⟨EN,rfl⟩:=Ty.bQ L
  refine db aa (fun h6=>?_) (fun h6=>?_)
  ·exact aj (af 1 aa (ay (aE aa aa ⟨(.b false),aa,bQ⟩)))
  refine aG (aS (ak 1 aa (ai (br aa aa ae ae ?_))))
  exact af 1 aa (⟨((A.length:Int) -((p+1))).toNat,ae,(p+1),ae,aa,⟨aa,aa,aa,trivial⟩,trivial⟩)
 exact bV (aj (af 1 aa (ay (aE aa aa ⟨(.b true),aa,bQ⟩))))
end Go.Ev.Rp
