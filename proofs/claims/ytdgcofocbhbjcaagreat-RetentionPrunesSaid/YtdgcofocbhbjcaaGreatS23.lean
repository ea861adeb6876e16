/- Part 23 of rules for walks through the code of a program, and of such walks; what each part proves is said by its theorems. -/
import Derived.Test.YtdgcofocbhbjcaaGreatS22
set_option linter.unusedVariables false
set_option linter.unusedSimpArgs false
noncomputable section
set_option maxRecDepth 100000
set_option maxHeartbeats 4000000
namespace Go.Ev.Rp
open Go Go.Ev.Pp
theorem Wl{T:bC}(F:FT T){a2 a3 J:DC}{p:List (List DC)}(A:aH mq p)(ed:(p.length:Int)≤100000000000){aB:Int}(nd:0≤aB)(mB:aB≤100000000000)(dE:tJ.ok a2)(dk:tJ.ok a3){U:List (List DC)}(K:aR U J)(fo:U.length≤1000000000)(L:aH cl U):fW T 129 [.ac 1050 p.length 3,.d (dJ aB),.agg [.d a2,.d a3],.d J] [(1050,.acc 268 40 3 p)] fun r B=>∃wr:List (List DC),r= .ac 1050 wr.length 3∧B=[(1050,.acc 268 40 3 wr)]∧aH mq wr∧(wr.length:Int)≤p.length+1:=by
 refine lF F.aaX aa ?_
 obtain⟨bk,rfl,pA,pB⟩:=Ty.az dE
 obtain⟨aO,rfl,lM,lN⟩:=Ty.az dk
 refine aj (af 2 aa (aj (ak 2 aa (ai (eb aa aa ae ae ?_)))))
 refine af 1 aa (aA (cN (aP 4 aa (fA (g:=rU) aa (fun G g1=>?_) (fun G g1=>?_)))))
 ·refine bg aa G (bf aa ?_)
  refine bg aa G (bf aa ?_)
  obtain⟨j2,ux,uK⟩:=cE (z:=((p.length:Int) -1)) (n:=p.length) ae ae
  obtain⟨r2,dj,dA⟩:=dX uK A
  obtain⟨fR,fh,gn,rfl,ig,Y,iP⟩:=c4 dA
  refine bg rfl G (gk rfl (by rw[←ux];rfl) uK ?_)
  refine bg aa G (sN aa ?_)
  refine bg aa G (sN aa ?_)
  refine cw aa G aa (n6 (rows:=p) aa aa dj aa ?_)
  refine bg aa G (bL aa ?_)
  refine cw aa G aa (bJ aa aa aa ?_)
  obtain⟨vK,rfl,xM,xN⟩:=Ty.az Y
  refine bg aa G (en aa aa ?_)
  refine aU (aW aa G aa ?_)
  refine aP 1 aa (fA (g:=lI) aa (fun I g3=>?_) (fun I g3=>?_))
  ·refine bg aa I (bf aa ?_)
   refine bg aa I (bf aa ?_)
   obtain⟨j4,uy,pO⟩:=cE (z:=((p.length:Int) -1)) (n:=p.length) ae ae
   obtain⟨r4,eg,eZ⟩:=dX pO A
   obtain⟨jw,mr,oG,rfl,gB,jR,Z⟩:=c4 eZ
   refine bg rfl I (gk rfl (by rw[←uy];rfl) pO ?_)
   refine bg aa I (sN aa ?_)
   refine cw aa I aa (n6 (rows:=p) aa aa eg aa ?_)
   refine bg aa I (bf aa ?_)
   obtain⟨Y8,M,Nf,O⟩:=Ty.au Z
   refine cw aa I aa (aY aa (aV aa) (Zj F M ae O K ae L) (fun r5 _ dL=>?_))
   obtain⟨il,rfl,jS⟩:=dL
   refine aU (aW aa I aa ?_)
   refine cU ?_
   obtain⟨EN,rfl⟩:=Ty.bQ jS
   refine db aa (fun h6=>?_) (fun h6=>?_)
   ·refine aj (ak 4 aa ?_)
    obtain⟨j7,lD,gu⟩:=cE (z:=((p.length:Int) -1)) (n:=p.length) ae ae
    obtain⟨r7,eY,gv⟩:=dX gu A
    obtain⟨nP,qF,wx,rfl,ku,mj,nJ⟩:=c4 gv
    refine ai (gk rfl (by rw[←lD];rfl) gu ?_)
    refine ak 2 aa (jd (mC aa aa aa aa aa aa aD aD eY (fun w8 nh qS=>?_)))
    have oP:aH mq w8:=by rw[nh];exact hZ A (ao ku (ao ah (ao nJ bm)))
    rw[←qS]
    exact bn (aj (af 2 aa (ay (⟨_,[(1050,.acc 268 40 3 w8)],aa,⟨aa,trivial⟩,⟨w8,aa,aa,oP,wk⟩⟩))))
   refine aG (aj (ak 5 aa (ai (cr (rows:=p) (ys:=[[(dJ bk),(dJ aO),J]]) aa aa aa (.bs (rows:=[[(dJ bk),(dJ aO),J]]) aa) aD ae dF dF ?_))))
   exact af 1 aa (ay (⟨_,[(1050,.acc 268 40 3 (p++[[(dJ bk),(dJ aO),J]]))],aa,⟨aa,trivial⟩,⟨(p++[[(dJ bk),(dJ aO),J]]),aa,aa,(bS A (bX (ao ah (ao ah (ao (au K ae L) bm))))),wk⟩⟩))
  refine bh aa I (bh aa I (bh aa I (bh aa I (ca aa I (bh aa I (ca aa I (aU (bd aa I aa ?_))))))))
  refine cU (cH aa aa (aG (aj (ak 5 aa (ai (cr (rows:=p) (ys:=[[(dJ bk),(dJ aO),J]]) aa aa aa (.bs (rows:=[[(dJ bk),(dJ aO),J]]) aa) aD ae dF dF ?_))))))
  exact af 1 aa (ay (⟨_,[(1050,.acc 268 40 3 (p++[[(dJ bk),(dJ aO),J]]))],aa,⟨aa,trivial⟩,⟨(p++[[(dJ bk),(dJ aO),J]]),aa,aa,(bS A (bX (ao ah (ao ah (ao (au K ae L) bm))))),wk⟩⟩))
 refine bh aa G (bh aa G (bh aa G (bh aa G (bh aa G (ca aa G (bh aa G (ca aa G (bh aa G (aU (bd aa G aa ?_))))))))))
 refine aP 1 aa (bh aa aa (bh aa aa (bh aa aa (bh aa aa (ca aa aa (bh aa aa (ca aa aa (aU (bd aa aa aa ?_)))))))))
 refine cU (cH aa aa (aG (aj (ak 5 aa (ai (cr (rows:=p) (ys:=[[(dJ bk),(dJ aO),J]]) aa aa aa (.bs (rows:=[[(dJ bk),(dJ aO),J]]) aa) aD ae dF dF ?_))))))
 exact af 1 aa (ay (⟨_,[(1050,.acc 268 40 3 (p++[[(dJ bk),(dJ aO),J]]))],aa,⟨aa,trivial⟩,⟨(p++[[(dJ bk),(dJ aO),J]]),aa,aa,(bS A (bX (ao ah (ao ah (ao (au K ae L) bm))))),wk⟩⟩))
theorem Wm{T:bC}(F:FT T){a2 a3 J:DC}{p:List (List DC)}(A:aH mq p)(ed:(p.length:Int)≤100000000000)(QX:1≤(p.length:Int)){aB:Int}(nd:0≤aB)(mB:aB≤100000000000)(dE:tJ.ok a2)(dk:tJ.ok a3){U:List (List DC)}(K:aR U J)(fo:U.length≤1000000000)(L:aH cl U):fW T 129 [.ac 1001 p.length 3,.d (dJ aB),.agg [.d a2,.d a3],.d J] [(1001,.acc 268 40 3 p)] fun r B=>∃wr:List (List DC),r= .ac 1001 wr.length 3∧B=[(1001,.acc 268 40 3 wr)]∧aH mq wr∧(wr.length:Int)≤p.length+1:=by
 refine lF F.aaX aa ?_
 obtain⟨bk,rfl,pA,pB⟩:=Ty.az dE
 obtain⟨aO,rfl,lM,lN⟩:=Ty.az dk
 refine aj (af 2 aa (aj (ak 2 aa (ai (eb aa aa ae ae ?_)))))
 refine af 1 aa (aA (cN (aP 4 aa (fA (g:=rU) aa (fun G g1=>?_) (fun G g1=>?_)))))
 ·refine bg aa G (bf aa ?_)
  refine bg aa G (bf aa ?_)
  obtain⟨j2,ux,uK⟩:=cE (z:=((p.length:Int) -1)) (n:=p.length) ae ae
  obtain⟨r2,dj,dA⟩:=dX uK A
  obtain⟨fR,fh,gn,rfl,ig,Y,iP⟩:=c4 dA
  refine bg rfl G (gk rfl (by rw[←ux];rfl) uK ?_)
  refine bg aa G (sN aa ?_)
  refine bg aa G (sN aa ?_)
  refine cw aa G aa (n6 (rows:=p) aa aa dj aa ?_)
  refine bg aa G (bL aa ?_)
  refine cw aa G aa (bJ aa aa aa ?_)
  obtain⟨vK,rfl,xM,xN⟩:=Ty.az Y
  refine bg aa G (en aa aa ?_)
  refine aU (aW aa G aa ?_)
  refine aP 1 aa (fA (g:=lI) aa (fun I g3=>?_) (fun I g3=>?_))
  ·refine bg aa I (bf aa ?_)
   refine bg aa I (bf aa ?_)
   obtain⟨j4,uy,pO⟩:=cE (z:=((p.length:Int) -1)) (n:=p.length) ae ae
   obtain⟨r4,eg,eZ⟩:=dX pO A
   obtain⟨jw,mr,oG,rfl,gB,jR,Z⟩:=c4 eZ
   refine bg rfl I (gk rfl (by rw[←uy];rfl) pO ?_)
   refine bg aa I (sN aa ?_)
   refine cw aa I aa (n6 (rows:=p) aa aa eg aa ?_)
   refine bg aa I (bf aa ?_)
   obtain⟨Y8,M,Nf,O⟩:=Ty.au Z
   refine cw aa I aa (aY aa (aV aa) (Zj F M ae O K ae L) (fun r5 _ dL=>?_))
   obtain⟨il,rfl,jS⟩:=dL
   refine aU (aW aa I aa ?_)
   refine cU ?_
   obtain⟨EN,rfl⟩:=Ty.bQ jS
   refine db aa (fun h6=>?_) (fun h6=>?_)
   ·refine aj (ak 4 aa ?_)
    obtain⟨j7,lD,gu⟩:=cE (z:=((p.length:Int) -1)) (n:=p.length) ae ae
    obtain⟨r7,eY,gv⟩:=dX gu A
    obtain⟨nP,qF,wx,rfl,ku,mj,nJ⟩:=c4 gv
    refine ai (gk rfl (by rw[←lD];rfl) gu ?_)
    refine ak 2 aa (jd (mC aa aa aa aa aa aa aD aD eY (fun w8 nh qS=>?_)))
    have oP:aH mq w8:=by rw[nh];exact hZ A (ao ku (ao ah (ao nJ bm)))
    rw[←qS]
    exact bn (aj (af 2 aa (ay (⟨_,[(1001,.acc 268 40 3 w8)],aa,⟨aa,trivial⟩,⟨w8,aa,aa,oP,wk⟩⟩))))
   refine aG (aj (ak 5 aa (ai (cr (rows:=p) (ys:=[[(dJ bk),(dJ aO),J]]) aa aa aa (.bs (rows:=[[(dJ bk),(dJ aO),J]]) aa) aD ae dF dF ?_))))
   exact af 1 aa (ay (⟨_,[(1001,.acc 268 40 3 (p++[[(dJ bk),(dJ aO),J]]))],aa,⟨aa,trivial⟩,⟨(p++[[(dJ bk),(dJ aO),J]]),aa,aa,(bS A (bX (ao ah (ao ah (ao (au K ae L) bm))))),wk⟩⟩))
  refine bh aa I (bh aa I (bh aa I (bh aa I (ca aa I (bh aa I (ca aa I (aU (bd aa I aa ?_))))))))
  refine cU (cH aa aa (aG (aj (ak 5 aa (ai (cr (rows:=p) (ys:=[[(dJ bk),(dJ aO),J]]) aa aa aa (.bs (rows:=[[(dJ bk),(dJ aO),J]]) aa) aD ae dF dF ?_))))))
  exact af 1 aa (ay (⟨_,[(1001,.acc 268 40 3 (p++[[(dJ bk),(dJ aO),J]]))],aa,⟨aa,trivial⟩,⟨(p++[[(dJ bk),(dJ aO),J]]),aa,aa,(bS A (bX (ao ah (ao ah (ao (au K ae L) bm))))),wk⟩⟩))
 refine bh aa G (bh aa G (bh aa G (bh aa G (bh aa G (ca aa G (bh aa G (ca aa G (bh aa G (aU (bd aa G aa ?_))))))))))
 refine aP 1 aa (bh aa aa (bh aa aa (bh aa aa (bh aa aa (ca aa aa (bh aa aa (ca aa aa (aU (bd aa aa aa ?_)))))))))
 refine cU (cH aa aa (aG (aj (ak 5 aa (ai (cr (rows:=p) (ys:=[[(dJ bk),(dJ aO),J]]) aa aa aa (.bs (rows:=[[(dJ bk),(dJ aO),J]]) aa) aD ae dF dF ?_))))))
 exact af 1 aa (ay (⟨_,[(1001,.acc 268 40 3 (p++[[(dJ bk),(dJ aO),J]]))],aa,⟨aa,trivial⟩,⟨(p++[[(dJ bk),(dJ aO),J]]),aa,aa,(bS A (bX (ao ah (ao ah (ao (au K ae L) bm))))),wk⟩⟩))
theorem Wo{T:bC}(F:FT T){a0 a1:DC}{dP:List (List DC)}(dW:aR dP a0)(ed:dP.length≤100000)(cW:aH jv dP){dn:List (List DC)}(eI:aR dn a1)(fS:dn.length≤1000000000)(du:aH cl dn):Sound T 82 [.d a0,.d a1] fun r=>∃(y0:DC)(cQ:List (List DC)),r= .d y0∧aR cQ y0∧(cQ.length:Int)≤100000000000∧aH mq cQ:=by
 refine ch F.q82 aa (aj (af 1 aa (aj (af 1 aa (aj (ak 2 aa (ai (aY aa (aV aa) (MB F dW ae cW eI ae du) (fun r1 _ dh=>?_)))))))))
 obtain⟨dV,L,rfl,O,rn,oi,vh,D3⟩:=dh
 refine af 1 aa (aA (aj (af 1 aa (bj (ki 5 90 268 40 3 aa aa (cb (fun k VE B=>∃(z:Int)(A:List (List DC)),(0≤z∧(z≤(L.length:Int)∨z=0))∧((A.length:Int)≤z*200000)∧(aH mq A)∧k=((L.length:Int) -z).toNat∧aT [(0,.d a0),(1,.d a1),(4,dN),(5,.ac 90 A.length 3),(6,.d dV),(7,.d (dJ z))] VE∧aT [(90,.acc 268 40 3 A)] B) ?_ (k:=((L.length:Int) -0).toNat) ⟨0,[],ae,cn,bN,aa,⟨aa,aa,aa,aa,aa,aa,trivial⟩,⟨aa,trivial⟩⟩))))))
 rintro _ VE B⟨z,A,c9,fr,U,rfl,hV,hB⟩
 refine bz _ _ hV hB (aA (aj (ak 2 aa (ai (bu aa O ?_)))))
 refine af 1 aa (aN aa (fun h2 g2=>?_) (fun h2 g2=>?_))
 ·refine aG (aA (bj (aj (af 3 aa (aj (ak 4 aa ?_))))))
  obtain⟨r3,fG,gQ⟩:=bR z oi
  obtain⟨oD,qC,rfl,kt,mM⟩:=fc gQ
  refine ai (bo aa aa O ae fG aa ?_)
  refine ak 2 aa ?_
  obtain⟨P1,A9,Ov,A'⟩:=Ty.au kt
  refine ai (aY aa (aV aa) (Le F dW ae cW eI ae du A9 ae A') (fun r4 _ eo=>?_))
  obtain⟨fk,rI,rfl,Y,xO,Z,A2,DW⟩:=eo
  refine af 1 aa (aj (ak 1 aa (ai (aY aa (aV aa) (XP F Y ae Z) (fun r5 _ dL=>?_)))))
  obtain⟨il,I,rfl,J,vk,qe,vl,ru⟩:=dL
  refine af 1 aa (aj (af 1 aa (bj (cb (fun k VE B=>∃(p:Int)(G:List (List DC)),(0≤p∧(p≤((I.length:Int) -1)∨p=0))∧((G.length:Int)≤z*200000+p)∧(aH mq G)∧k=((((I.length:Int) -1):Int) -p).toNat∧aT [(0,.d a0),(1,.d a1),(4,dN),(5,.ac 90 G.length 3),(6,.d dV),(7,.d (dJ z)),(8,.d (dJ (A.length:Int))),(9,.d fk),(10,.d il),(11,.d (dJ p)),(20,dB (decide (z<(L.length:Int))))] VE∧aT [(90,.acc 268 40 3 G)] B) ?_ (k:=((((I.length:Int) -1):Int) -0).toNat) ⟨0,A,ae,ae,U,aa,⟨aa,aa,aa,aa,aa,aa,aa,aa,aa,aa,aa,trivial⟩,⟨aa,trivial⟩⟩))))
  rintro _ VE B⟨p,G,jj,pw,K,rfl,hV,hB⟩
  refine bz _ _ hV hB (aA (aj (ak 1 aa (ai (br aa aa ae ae ?_)))))
  refine ak 1 aa (ai (bu aa J ?_))
  refine af 1 aa (aN aa (fun h6 g6=>?_) (fun h6 g6=>?_))
  ·refine aG (aA (bj (aj (ak 3 aa ?_))))
   obtain⟨r7,eY,gv⟩:=bR p qe
   obtain⟨nP,_,rfl,M,gv⟩:=b0 gv
   obtain rfl:=dy gv
   refine ai (bo aa aa J ae eY aa ?_)
   refine ak 1 aa (ai (aY aa (aV aa) (PQ F Y ae Z M) (fun r8 _ lW=>?_)))
   obtain⟨qE,RH,wy8_1,rfl,tc,X7,hny8_1,X8,hmy8_1,hey8_1⟩:=lW
   refine af 5 aa (aj ?_)
   obtain⟨vO,rfl,hzy8_0,kzy8_0⟩:=Ty.az tc
   refine af 2 aa (aN aa (fun h9 g9=>?_) (fun h9 g9=>?_))
   ·refine fB (aP 4 aa (aU (bo aa aa J ae eY aa ?_)))
    refine de aa aa (cF aa aa ?_)
    refine aP 2 aa (aU (br aa aa ae ae ?_))
    obtain⟨mA,gL,gM⟩:=bR (p+1) qe
    obtain⟨mh,_,rfl,ko,gM⟩:=b0 gM
    obtain rfl:=dy gM
    refine aU (bo aa aa J ae gL aa ?_)
    refine de aa aa (cF aa aa ?_)
    refine aP 2 aa ?_
    by_cases RI:G=[]
    ·refine bP rfl (ns (dx:=[.ac 1050 G.length 3,.d (dJ (A.length:Int)),.agg [.d nP,.d mh],.d RH]) (Bi:=[(1050,.acc 268 40 3 G)]) [(1050,90)] 2000 rfl rfl rfl rfl rfl (by rw[RI];rfl) rfl ⟨rfl,rfl,trivial⟩ (Wl (aB:=(A.length:Int)) F K ae ae ae M ko X7 ae X8) (fun nW Bn12 mV=>?_))
     obtain⟨uI,rfl,rfl,zP,hn12⟩:=mV
     refine cP 1 aa (aS (ak 1 aa (ai (br aa aa ae ae ?_))))
     exact af 1 aa (⟨((((I.length:Int) -1):Int) -((p+1))).toNat,ae,(p+1),uI,ae,ae,zP,aa,⟨aa,aa,aa,aa,aa,aa,aa,aa,aa,aa,aa,trivial⟩,⟨aa,trivial⟩⟩)
    refine bP aa (ns (dx:=[.ac 1001 G.length 3,.d (dJ (A.length:Int)),.agg [.d nP,.d mh],.d RH]) (Bi:=[(1001,.acc 268 40 3 G)]) [(1001,90)] 2000 aa aa aa aa aa aa aa ⟨aa,aa,trivial⟩ (Wm (aB:=(A.length:Int)) F K ae (Int.ofNat_le.2 (List.length_pos_iff.2 RI)) ae ae M ko X7 ae X8) (fun qQ Bn13 oF=>?_))
    obtain⟨Lg,rfl,rfl,zR,hn13⟩:=oF
    refine cP 1 aa (aS (ak 1 aa (ai (br aa aa ae ae ?_))))
    exact af 1 aa (⟨((((I.length:Int) -1):Int) -((p+1))).toNat,ae,(p+1),Lg,ae,ae,zR,aa,⟨aa,aa,aa,aa,aa,aa,aa,aa,aa,aa,aa,trivial⟩,⟨aa,trivial⟩⟩)
   refine aG (aS (ak 1 aa (ai (br aa aa ae ae ?_))))
   exact af 1 aa (⟨((((I.length:Int) -1):Int) -((p+1))).toNat,ae,(p+1),G,ae,ae,K,aa,⟨aa,aa,aa,aa,aa,aa,aa,aa,aa,aa,aa,trivial⟩,⟨aa,trivial⟩⟩)
  refine bV (aS (ak 1 aa (ai (br aa aa ae ae ?_))))
  exact af 1 aa (⟨((L.length:Int) -((z+1))).toNat,ae,(z+1),G,ae,ae,K,aa,⟨aa,aa,aa,aa,aa,aa,trivial⟩,⟨aa,trivial⟩⟩)
 exact bV (aj (af 2 aa (fm 4 90 aa aa (fun _=>⟨aa,aa⟩) (ay (aE aa aa ⟨(.cS A),A,aa,(.acc _),ae,U⟩)))))
theorem X9{T:bC}(F:FT T){a0 a1 a2 a3:DC}{dP:List (List DC)}(dW:aR dP a0)(ed:dP.length≤100000)(cW:aH jv dP){dn:List (List DC)}(eI:aR dn a1)(fS:dn.length≤100000)(du:aH jv dn){cu:List (List DC)}(cO:aR cu a2)(et:cu.length≤1000000000)(cK:aH cl cu){e5:List (List DC)}(eC:aR e5 a3)(iS:e5.length≤1000000000)(ef:aH cl e5):Sound T 85 [.d a0,.d a1,.d a2,.d a3] fun r=>∃(y0:DC)(cQ:List (List DC)),r= .d y0∧aR cQ y0∧(cQ.length:Int)≤100000000000∧aH mq cQ:=by
 refine ch F.q85 aa (aj (af 1 aa (aj (af 1 aa (aj (ak 2 aa (ai (aY aa (aV aa) (MB F dW ae cW cO ae cK) (fun r1 _ dh=>?_)))))))))
 obtain⟨dV,L,rfl,M,rn,oi,vh,D3⟩:=dh
 refine af 1 aa (aA (aj (af 1 aa (bj (ki 9 90 268 40 3 aa aa (cb (fun k VE B=>∃(z:Int)(A:List (List DC)),(0≤z∧(z≤(L.length:Int)∨z=0))∧((A.length:Int)≤z*400000)∧(aH mq A)∧k=((L.length:Int) -z).toNat∧aT [(0,.d a0),(1,.d a1),(2,.d a2),(3,.d a3),(8,dN),(9,.ac 90 A.length 3),(10,.d dV),(11,.d (dJ z))] VE∧aT [(90,.acc 268 40 3 A)] B) ?_ (k:=((L.length:Int) -0).toNat) ⟨0,[],ae,cn,bN,aa,⟨aa,aa,aa,aa,aa,aa,aa,aa,trivial⟩,⟨aa,trivial⟩⟩))))))
 rintro _ VE B⟨z,A,c9,fr,Ya,rfl,hV,hB⟩
 refine bz _ _ hV hB (aA (aj (ak 2 aa (ai (bu aa M ?_)))))
 refine af 1 aa (aN aa (fun h2 g2=>?_) (fun h2 g2=>?_))
 ·refine aG (aA (bj (aj (af 3 aa (cN (aP 4 aa ?_))))))
  obtain⟨r3,fG,gQ⟩:=bR z oi
  obtain⟨oD,qC,rfl,kt,mM⟩:=fc gQ
  refine aU (bo aa aa M ae fG aa ?_)
  refine aP 1 aa (de aa aa (cF aa aa ?_))
  obtain⟨P1,A9,Ov,A'⟩:=Ty.au kt
  refine bP aa (aY aa (aV aa) (Le F dW ae cW cO ae cK A9 ae A') (fun r4 _ eo=>?_))
  obtain⟨fk,rI,rfl,A1,xO,O,A2,DW⟩:=eo
  refine aP 4 aa (aU (bo aa aa M ae fG aa ?_))
  refine aP 1 aa (de aa aa (cF aa aa ?_))
  refine bP aa (aY aa (aV aa) (Le F eI ae du eC ae ef A9 ae A') (fun r5 _ dL=>?_))
  obtain⟨il,mO,rfl,ry,vk,U,vl,ru⟩:=dL
  refine cP 2 aa (aj (ak 1 aa (ai (iK (ys:=rI) 49 aa aa aa aa aa (.sD A1 (el O aa)) aD ae ?_))))
  refine ak 1 aa ?_
  refine ai (cr (rows:=rI) (ys:=mO) rfl rfl rfl (.sD ry (el U rfl)) aD ae (fun h=>by rw[h];rfl) (fun h=>by rw[h];rfl) ?_)
  refine fO 51 49 aa aa (fun _=>⟨aa,aa⟩) (ai (aY aa (aV aa) (XP F (.acc _) Bs (bS O U)) (fun r6 _ iW=>?_)))
  obtain⟨oH,I,rfl,J,Oc,Ow,XQ,X6⟩:=iW
  refine af 1 aa (aj (af 1 aa (bj (cb (fun k VE B=>∃(p:Int)(G:List (List DC)),(0≤p∧(p≤((I.length:Int) -1)∨p=0))∧((G.length:Int)≤z*400000+p)∧(aH mq G)∧k=((((I.length:Int) -1):Int) -p).toNat∧aT [(0,.d a0),(1,.d a1),(2,.d a2),(3,.d a3),(8,dN),(9,.ac 90 G.length 3),(10,.d dV),(11,.d (dJ z)),(12,.d (dJ (A.length:Int))),(13,.d fk),(14,.d il),(15,.d oH),(16,.d (dJ p)),(27,dB (decide (z<(L.length:Int))))] VE∧aT [(90,.acc 268 40 3 G)] B) ?_ (k:=((((I.length:Int) -1):Int) -0).toNat) ⟨0,A,ae,ae,Ya,aa,⟨aa,aa,aa,aa,aa,aa,aa,aa,aa,aa,aa,aa,aa,aa,trivial⟩,⟨aa,trivial⟩⟩))))
  rintro _ VE B⟨p,G,jj,pw,K,rfl,hV,hB⟩
  refine bz _ _ hV hB (aA (aj (ak 1 aa (ai (br aa aa ae ae ?_)))))
  refine ak 1 aa (ai (bu aa J ?_))
  refine af 1 aa (aN aa (fun h7 g7=>?_) (fun h7 g7=>?_))
  ·refine aG (aA (bj (aj (ak 3 aa ?_))))
   obtain⟨r8,qX,qY⟩:=bR p Ow
   obtain⟨sm,_,rfl,Y,qY⟩:=b0 qY
   obtain rfl:=dy qY
   refine ai (bo aa aa J ae qX aa ?_)
   refine ak 1 aa (ai (aY aa (aV aa) (PQ F A1 ae O Y) (fun r9 _ oU=>?_)))
   obtain⟨jk,lS,wy9_1,rfl,kX,Yb,hny9_1,Yc,hmy9_1,hey9_1⟩:=oU
   refine af 5 aa (aj (ak 3 aa (ai (bo aa aa J ae qX aa ?_))))
   refine ak 1 aa (ai (aY aa (aV aa) (PQ F ry ae U Y) (fun mA _ oI=>?_)))
   obtain⟨vF,By,Yd,rfl,xL,Ia,Wp,Ib,hmy10_1,hey10_1⟩:=oI
   refine af 5 aa (aj ?_)
   obtain⟨kY,rfl,s0,s7⟩:=Ty.az kX
   refine ak 3 aa (bZ (g:=QB) aa (fun Z fT=>?_) (fun Z fT=>?_))
   ·refine aq aa Z (bf aa ?_)
    obtain⟨zy10_0,rfl,hzy10_0,kzy10_0⟩:=Ty.az xL
    refine aq aa Z (en aa aa ?_)
    refine ai (aW aa Z aa ?_)
    refine bn (aN aa (fun eM gS=>?_) (fun eM gS=>?_))
    ·refine fB (aP 4 aa (aU (bo aa aa J ae qX aa ?_)))
     refine de aa aa (cF aa aa ?_)
     refine aP 2 aa (aU (br aa aa ae ae ?_))
     obtain⟨qQ,sk,qH⟩:=bR (p+1) Ow
     obtain⟨rK,_,rfl,sY,qH⟩:=b0 qH
     obtain rfl:=dy qH
     refine aU (bo aa aa J ae sk aa ?_)
     refine de aa aa (cF aa aa ?_)
     refine aP 2 aa ?_
     by_cases KK:G=[]
     ·refine bP rfl (ns (dx:=[.ac 1050 G.length 3,.d (dJ (A.length:Int)),.agg [.d sm,.d rK],.d lS]) (Bi:=[(1050,.acc 268 40 3 G)]) [(1050,90)] 2000 rfl rfl rfl rfl rfl (by rw[KK];rfl) rfl ⟨rfl,rfl,trivial⟩ (Wl (aB:=(A.length:Int)) F K ae ae ae Y sY Yb ae Yc) (fun sw Bn15 oM=>?_))
      obtain⟨qZ,rfl,rfl,zK,hn15⟩:=oM
      refine cP 1 aa (aS (ak 1 aa (ai (br aa aa ae ae ?_))))
      exact af 1 aa (⟨((((I.length:Int) -1):Int) -((p+1))).toNat,ae,(p+1),qZ,ae,ae,zK,aa,⟨aa,aa,aa,aa,aa,aa,aa,aa,aa,aa,aa,aa,aa,aa,trivial⟩,⟨aa,trivial⟩⟩)
     refine bP aa (ns (dx:=[.ac 1001 G.length 3,.d (dJ (A.length:Int)),.agg [.d sm,.d rK],.d lS]) (Bi:=[(1001,.acc 268 40 3 G)]) [(1001,90)] 2000 aa aa aa aa aa aa aa ⟨aa,aa,trivial⟩ (Wm (aB:=(A.length:Int)) F K ae (Int.ofNat_le.2 (List.length_pos_iff.2 KK)) ae ae Y sY Yb ae Yc) (fun CL Bn16 Ge=>?_))
     obtain⟨CM,rfl,rfl,zO,hn16⟩:=Ge
     refine cP 1 aa (aS (ak 1 aa (ai (br aa aa ae ae ?_))))
     exact af 1 aa (⟨((((I.length:Int) -1):Int) -((p+1))).toNat,ae,(p+1),CM,ae,ae,zO,aa,⟨aa,aa,aa,aa,aa,aa,aa,aa,aa,aa,aa,aa,aa,aa,trivial⟩,⟨aa,trivial⟩⟩)
    refine aG (aS (ak 1 aa (ai (br aa aa ae ae ?_))))
    exact af 1 aa (⟨((((I.length:Int) -1):Int) -((p+1))).toNat,ae,(p+1),G,ae,ae,K,aa,⟨aa,aa,aa,aa,aa,aa,aa,aa,aa,aa,aa,aa,aa,aa,trivial⟩,⟨aa,trivial⟩⟩)
   refine an aa Z (an aa Z (ai (bd aa Z aa ?_)))
   refine bn (cH aa aa (aG (aS (ak 1 aa (ai (br aa aa ae ae ?_))))))
   exact af 1 aa (⟨((((I.length:Int) -1):Int) -((p+1))).toNat,ae,(p+1),G,ae,ae,K,aa,⟨aa,aa,aa,aa,aa,aa,aa,aa,aa,aa,aa,aa,aa,aa,trivial⟩,⟨aa,trivial⟩⟩)
  refine bV (aS (ak 1 aa (ai (br aa aa ae ae ?_))))
  exact af 1 aa (⟨((L.length:Int) -((z+1))).toNat,ae,(z+1),G,ae,ae,K,aa,⟨aa,aa,aa,aa,aa,aa,aa,aa,trivial⟩,⟨aa,trivial⟩⟩)
 exact bV (aj (af 2 aa (fm 8 90 aa aa (fun _=>⟨aa,aa⟩) (ay (aE aa aa ⟨(.cS A),A,aa,(.acc _),ae,Ya⟩)))))
theorem GapsC{T:bC}(F:FT T){a0 a1:DC}{dP:List (List DC)}(dW:aR dP a0)(ed:dP.length≤100000)(cW:aH jv dP){dn:List (List DC)}(eI:aR dn a1)(fS:dn.length≤1000000000)(du:aH cl dn):Sound T 130 [.d a0,.d a1] fun r=>∃(y0:DC)(cQ:List (List DC)),r= .d y0∧aR cQ y0∧(cQ.length:Int)≤100000000000∧aH mq cQ:=by
 refine ch F.q130 aa (aj (af 1 aa (aj (af 1 aa (aj (ak 2 aa (ai (aY aa (aV aa) (MB F dW ae cW eI ae du) (fun r1 _ dh=>?_)))))))))
 obtain⟨dV,U,rfl,o7,rn,oi,vh,D3⟩:=dh
 refine af 1 aa (aA (aj (af 1 aa (bj (ki 5 90 268 40 3 aa aa (cb (fun k VE B=>∃(A:Int)(Z:List (List DC)),(0≤A∧(A≤(U.length:Int)∨A=0))∧((Z.length:Int)≤A*200000)∧(aH mq Z)∧k=((U.length:Int) -A).toNat∧aT [(0,.d a0),(1,.d a1),(4,dN),(5,.ac 90 Z.length 3),(6,.d dV),(7,.d (dJ A))] VE∧aT [(90,.acc 268 40 3 Z)] B) ?_ (k:=((U.length:Int) -0).toNat) ⟨0,[],ae,cn,bN,aa,⟨aa,aa,aa,aa,aa,aa,trivial⟩,⟨aa,trivial⟩⟩))))))
 rintro _ VE B⟨A,Z,c9,fr,vi,rfl,hV,hB⟩
 refine bz _ _ hV hB (aA (aj (ak 2 aa (ai (bu aa o7 ?_)))))
 refine af 1 aa (aN aa (fun h2 g2=>?_) (fun h2 g2=>?_))
 ·refine aG (aA (bj (aj (ak 4 aa ?_))))
  obtain⟨r3,fG,gQ⟩:=bR A oi
  obtain⟨oD,qC,rfl,kt,mM⟩:=fc gQ
  refine ai (bo aa aa o7 ae fG aa ?_)
  refine ak 2 aa ?_
  obtain⟨P1,A9,Ov,A'⟩:=Ty.au kt
  refine ai (aY aa (aV aa) (Le F dW ae cW eI ae du A9 ae A') (fun r4 _ eo=>?_))
  obtain⟨fk,Y,rfl,J,xO,oj,A2,DW⟩:=eo
  refine af 1 aa (aj (ak 1 aa (ai (aY aa (aV aa) (covC F J ae oj) (fun r5 _ dL=>?_)))))
  obtain⟨il,mO,rfl,ry,vk,qe,vl,ru⟩:=dL
  refine af 1 aa (aj (af 1 aa (bj (cb (fun k VE B=>∃(z:Int)(L:List (List DC)),(1≤z∧(z≤(mO.length:Int)∨z=1))∧((L.length:Int)≤A*200000+z)∧(aH mq L)∧k=((mO.length:Int) -z).toNat∧aT [(0,.d a0),(1,.d a1),(4,dN),(5,.ac 90 L.length 3),(6,.d dV),(7,.d (dJ A)),(8,.d fk),(9,.d il),(10,.d (dJ z)),(20,dB (decide (A<(U.length:Int))))] VE∧aT [(90,.acc 268 40 3 L)] B) ?_ (k:=((mO.length:Int) -1).toNat) ⟨1,Z,ae,ae,vi,aa,⟨aa,aa,aa,aa,aa,aa,aa,aa,aa,aa,trivial⟩,⟨aa,trivial⟩⟩))))
  rintro _ VE B⟨z,L,jj,pw,Ye,rfl,hV,hB⟩
  refine bz _ _ hV hB (aA (aj (ak 2 aa (ai (bu aa ry ?_)))))
  refine af 1 aa (aN aa (fun h6 g6=>?_) (fun h6 g6=>?_))
  ·refine aG (aA (bj (cN (aP 2 aa (aU (eb aa aa ae ae ?_))))))
   obtain⟨r7,eY,gv⟩:=bR (z-1) qe
   obtain⟨nP,qF,rfl,ku,mj⟩:=fc gv
   refine aU (bo aa aa ry ae eY aa ?_)
   refine aP 1 aa (de aa aa (cF aa aa ?_))
   refine aP 2 aa ?_
   obtain⟨r8,qX,qY⟩:=bR z qe
   obtain⟨sm,KC,rfl,td,BJ⟩:=fc qY
   refine aU (bo aa aa ry ae qX aa ?_)
   refine aP 1 aa (de aa aa (cF aa aa ?_))
   refine cP 3 aa (aj (af 1 aa (aA (aj (af 1 aa (bj (cb (fun k VE B=>∃(I:DC)(K:List (List DC))(p:Int),(aR K I)∧((K.length:Int)≤200*p)∧(aH cl K)∧(K=[]→I= .nil)∧(0≤p∧(p≤(Y.length:Int)∨p=0))∧k=((Y.length:Int) -p).toNat∧aT [(0,.d a0),(1,.d a1),(4,dN),(5,.ac 90 L.length 3),(6,.d dV),(7,.d (dJ A)),(8,.d fk),(9,.d il),(10,.d (dJ z)),(11,.vp 11 0),(12,.d I),(13,.d (dJ p)),(20,dB (decide (A<(U.length:Int)))),(36,dB (decide (z<(mO.length:Int))))] VE∧aT [(11,.one 46 16 [.d qF,.d sm]),(90,.acc 268 40 3 L)] B) ?_ (k:=((Y.length:Int) -0).toNat) ⟨DC.nil,[],0,(.inr ⟨aa,aa⟩),ae,bN,(fun _=>aa),ae,aa,⟨aa,aa,aa,aa,aa,aa,aa,aa,aa,aa,aa,aa,aa,aa,trivial⟩,⟨aa,aa,trivial⟩⟩)))))))
   rintro _ VE B⟨I,K,p,M,aa6,O,hev12_2,f2_4,rfl,hV,hB⟩
   refine bz _ _ hV hB (aA (aj (ak 2 aa (ai (bu aa J ?_)))))
   refine af 1 aa (aN aa (fun h9 g9=>?_) (fun h9 g9=>?_))
   ·refine aG (aA (bj (cN (aP 2 aa ?_))))
    obtain⟨mA,gL,gM⟩:=bR p oj
    obtain⟨mh,oq,vE,x10_3,rfl,ko,o6,oh,Ol⟩:=vg gM
    refine aU (bo aa aa J ae gL aa ?_)
    refine aP 2 aa (de aa aa (cF aa aa ?_))
    obtain⟨zx10_2,rfl,hzx10_2,kzx10_2⟩:=Ty.az oh
    obtain⟨JX,rfl,hzx7_1,kzx7_1⟩:=Ty.az mj
    refine aP 4 aa (fA (g:=Fz) aa (fun G fT=>?_) (fun G fT=>?_))
    ·refine bh aa G (bh aa G (bh aa G (bh aa G (bh aa G (ca aa G (bh aa G (ca aa G (bh aa G (aU (aW aa G aa ?_))))))))))
     refine cU (cg aa aa (aS (ak 3 aa (ai (bo aa aa J ae gL aa ?_)))))
     refine ak 2 aa ?_
     obtain⟨wx10_3,MC,hnx10_3,MD⟩:=Ty.au Ol
     refine ai (aY aa (aV aa) (vm F M ae O MC ae MD) (fun nW _ mV=>?_))
     obtain⟨tf,wy12_0,rfl,hdy12_0,hny12_0,hry12_0,hmy12_0,hey12_0⟩:=mV
     refine af 1 aa (aS (ak 1 aa (ai (br aa aa ae ae ?_))))
     exact af 1 aa (⟨((Y.length:Int) -((p+1))).toNat,ae,tf,wy12_0,(p+1),hdy12_0,ae,hry12_0,hey12_0,ae,aa,⟨aa,aa,aa,aa,aa,aa,aa,aa,aa,aa,aa,aa,aa,aa,trivial⟩,⟨aa,aa,trivial⟩⟩)
    refine bg aa G (bf aa ?_)
    refine bg aa G (bf aa ?_)
    refine bg aa G (bo aa aa J ae gL aa ?_)
    refine bg aa G (eL aa ?_)
    refine bg aa G (eL aa ?_)
    refine cw aa G aa (cF aa aa ?_)
    refine bg aa G (bL aa ?_)
    refine cw aa G aa (bJ aa aa aa ?_)
    obtain⟨zx10_1,rfl,hzx10_1,kzx10_1⟩:=Ty.az o6
    obtain⟨BN,rfl,XL,XM⟩:=Ty.az td
    refine bg aa G (en aa aa ?_)
    refine aU (bd aa G aa ?_)
    refine cU (aN aa (fun eD iv=>?_) (fun eD iv=>?_))
    ·refine aS (ak 3 aa (ai (bo aa aa J ae gL aa ?_)))
     refine ak 2 aa ?_
     obtain⟨wx10_3,MC,hnx10_3,MD⟩:=Ty.au Ol
     refine ai (aY aa (aV aa) (vm F M ae O MC ae MD) (fun sB _ zH=>?_))
     obtain⟨EW,Yf,rfl,ME,hny14_0,MF,hmy14_0,hey14_0⟩:=zH
     refine af 1 aa (aS (ak 1 aa (ai (br aa aa ae ae ?_))))
     exact af 1 aa (⟨((Y.length:Int) -((p+1))).toNat,ae,EW,Yf,(p+1),ME,ae,MF,hey14_0,ae,aa,⟨aa,aa,aa,aa,aa,aa,aa,aa,aa,aa,aa,aa,aa,aa,trivial⟩,⟨aa,aa,trivial⟩⟩)
    refine aG (aS (ak 1 aa (ai (br aa aa ae ae ?_))))
    exact af 1 aa (⟨((Y.length:Int) -((p+1))).toNat,ae,I,K,(p+1),M,ae,O,hev12_2,ae,aa,⟨aa,aa,aa,aa,aa,aa,aa,aa,aa,aa,aa,aa,aa,aa,trivial⟩,⟨aa,aa,trivial⟩⟩)
   refine bV (aS ?_)
   obtain⟨JX,rfl,hzx7_1,kzx7_1⟩:=Ty.az mj
   obtain⟨BN,rfl,XL,XM⟩:=Ty.az td
   refine ak 5 aa ?_
   refine ai (cr (rows:=L) (ys:=[[(dJ JX),(dJ BN),I]]) rfl rfl rfl (.bs (rows:=[[(dJ JX),(dJ BN),I]]) rfl) aD ae (fun h=>by rw[h];rfl) (fun h=>by rw[h];rfl) ?_)
   refine af 1 aa (aS (ak 1 aa (ai (br aa aa ae ae ?_))))
   exact af 1 aa (⟨((mO.length:Int) -((z+1))).toNat,ae,(z+1),(L++[[(dJ JX),(dJ BN),I]]),ae,cn,(bS Ye (bX (ao ah (ao ah (ao (au M ae O) bm))))),aa,⟨aa,aa,aa,aa,aa,aa,aa,aa,aa,aa,trivial⟩,⟨aa,trivial⟩⟩)
  refine bV (aS (ak 1 aa (ai (br aa aa ae ae ?_))))
  exact af 1 aa (⟨((U.length:Int) -((A+1))).toNat,ae,(A+1),L,ae,ae,Ye,aa,⟨aa,aa,aa,aa,aa,aa,trivial⟩,⟨aa,trivial⟩⟩)
 exact bV (aj (af 2 aa (fm 4 90 aa aa (fun _=>⟨aa,aa⟩) (ay (aE aa aa ⟨(.cS Z),Z,aa,(.acc _),ae,vi⟩)))))
theorem ConVioC{T:bC}(F:FT T){a0 a1 a2:DC}{M:List (List DC)}(I:aR M a0)(ed:M.length≤100000)(J:aH jv M)(da:tJ.ok a1){O:List (List DC)}(K:aR O a2)(et:O.length≤1000000000)(L:aH cl O):Sound T 86 [.d a0,.d a1,.d a2] fun r=>∃(y0:DC)(U:List (List DC)),r= .d y0∧aR U y0∧(U.length:Int)≤100000000000∧aH mq U:=by
 refine ch F.q86 aa ?_
 obtain⟨aB,rfl,eS,eT⟩:=Ty.az da
 refine aj (af 1 aa (aA (aj (af 1 aa (bj (aj (af 2 aa (aN aa (fun h1 g1=>?_) (fun h1 g1=>?_)))))))))
 ·refine aj (ak 2 aa (ai (aY aa (aV aa) (GapsC F I ae J K ae L) (fun r2 _ iu=>?_))))
  obtain⟨jx,Y,rfl,p,hny2_0,z⟩:=iu
  exact af 1 aa (ay (aE aa aa ⟨jx,Y,aa,p,ae,z⟩))
 refine aj (af 2 aa (aN aa (fun h3 g3=>?_) (fun h3 g3=>?_)))
 ·refine aj (ak 2 aa (ai (aY aa (aV aa) (Wo F I ae J K ae L) (fun r4 _ eo=>?_))))
  obtain⟨fk,Z,rfl,A,xO,G⟩:=eo
  exact af 1 aa (ay (aE aa aa ⟨fk,Z,aa,A,ae,G⟩))
 exact aG (aj (af 1 aa (ay (aE aa aa ⟨.nil,[],aa,(.inr ⟨aa,aa⟩),ae,bN⟩))))
end Go.Ev.Rp
