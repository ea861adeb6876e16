/- Part 20 of rules for walks through the code of a program, and of such walks; what each part proves is said by its theorems. -/
import Derived.Test.YtdgcofocbhbjcaaGreatS19
set_option linter.unusedVariables false
set_option linter.unusedSimpArgs false
noncomputable section
set_option maxRecDepth 100000
set_option maxHeartbeats 4000000
namespace Go.Ev.Rp
open Go Go.Ev.Pp
theorem Od{T:bC}(F:FT T){M:DC}(I:(Ty.s 1000).ok M):Sound T 110 [.d M] fun r=>∃O,r= .d O∧(Ty.b).ok O:=by
 refine ch F.q110 aa ?_
 obtain⟨J,rfl,U⟩:=Ty.aJ I
 refine aj (af 1 aa (aj (ak 1 aa (ai (aY aa (aV aa) (Oa F (aJ ax)) (fun r1 _ K=>?_))))))
 obtain⟨Y,rfl,p⟩:=K
 obtain⟨L,rfl⟩:=Ty.bQ p
 refine ak 1 aa (e6 (g:=jl) aa (fun h2=>?_) (fun h2=>?_))
 ·refine aq aa h2 (bf aa ?_)
  refine aq aa h2 (xq (b:=[118,102,114,111,109]) aa aa ?_)
  refine ai (aW aa h2 aa ?_)
  refine ak 1 aa (bZ (g:=wI) aa (fun z Z=>?_) (fun z Z=>?_))
  ·refine aq aa z (bf aa ?_)
   refine aq aa z (xq (b:=[118,116,111]) aa aa ?_)
   refine ai (aW aa z aa ?_)
   refine ak 1 aa (bZ (g:=lj) aa (fun A g6=>?_) (fun A g6=>?_))
   ·refine aq aa A (bf aa ?_)
    refine aq aa A (xq (b:=[114,102,114,111,109]) aa aa ?_)
    refine ai (aW aa A aa ?_)
    refine ak 1 aa (bZ (g:=tu) aa (fun G g8=>?_) (fun G g8=>?_))
    ·refine aq aa G (bf aa ?_)
     refine aq aa G (xq (b:=[114,116,111]) aa aa ?_)
     refine ai (aW aa G aa ?_)
     exact af 1 aa (ay (aE aa aa ⟨(.b ((!decide (J=[114,116,111])))),aa,bQ⟩))
    refine an aa G (an aa G (ai (bd aa G aa ?_)))
    exact af 1 aa (ay (aE aa aa ⟨(.b false),aa,bQ⟩))
   refine an aa A (an aa A (ai (bd aa A aa ?_)))
   refine ak 1 aa (an aa aa (an aa aa (ai (bd aa aa aa ?_))))
   exact af 1 aa (ay (aE aa aa ⟨(.b false),aa,bQ⟩))
  refine an aa z (an aa z (ai (bd aa z aa ?_)))
  refine ak 1 aa (an aa aa (an aa aa (ai (bd aa aa aa ?_))))
  refine ak 1 aa (an aa aa (an aa aa (ai (bd aa aa aa ?_))))
  exact af 1 aa (ay (aE aa aa ⟨(.b false),aa,bQ⟩))
 refine an aa h2 (an aa h2 (ai (bd aa h2 aa ?_)))
 refine ak 1 aa (an aa aa (an aa aa (ai (bd aa aa aa ?_))))
 refine ak 1 aa (an aa aa (an aa aa (ai (bd aa aa aa ?_))))
 refine ak 1 aa (an aa aa (an aa aa (ai (bd aa aa aa ?_))))
 exact af 1 aa (ay (aE aa aa ⟨(.b false),aa,bQ⟩))
theorem vverC{T:bC}(F:FT T){a0 a1 a2:DC}(cV:tJ.ok a0)(da:tJ.ok a1){G:List (List DC)}(I:aR G a2)(et:G.length≤13)(Z:aH mo G):Sound T 209 [.agg [.d a0,.d a1,.d a2]] fun r=>∃(y0:Bool),r=dB y0∧(y0=true→1≤(G.length:Int)∧(G.length:Int)≤12):=by
 refine ch F.q209 aa ?_
 obtain⟨aQ,rfl,iF,hJ⟩:=Ty.az cV
 obtain⟨aB,rfl,eS,eT⟩:=Ty.az da
 refine aj (af 2 aa (aA (aj (ak 2 aa (ai (aY aa (aV aa) (sX F ah ah) (fun r1 _ dh=>?_)))))))
 obtain⟨dV,rfl,dY⟩:=dh
 obtain⟨EY,rfl⟩:=Ty.bQ dY
 refine ak 2 aa (e6 (g:=wI) aa (fun h2=>?_) (fun h2=>?_))
 ·refine an aa h2 (an aa h2 (an aa h2 (an aa h2 (ai (aW aa h2 aa ?_)))))
  refine ak 1 aa (an aa aa (an aa aa (an aa aa (an aa aa (ai (aW aa aa aa ?_))))))
  exact bn (cg aa aa (aj (af 1 aa (ay (aE aa aa ⟨false,aa,iQ⟩)))))
 refine aq aa h2 (bL aa ?_)
 refine aq aa h2 (bJ aa aa aa ?_)
 refine aq aa h2 (bu aa I ?_)
 refine aq aa h2 (en aa aa ?_)
 refine ai (bd aa h2 aa ?_)
 refine ak 1 aa (bZ (g:=rT) aa (fun h3 g3=>?_) (fun h3 g3=>?_))
 ·refine an aa h3 (an aa h3 (an aa h3 (an aa h3 (ai (aW aa h3 aa ?_)))))
  exact bn (cg aa aa (aj (af 1 aa (ay (aE aa aa ⟨false,aa,iQ⟩)))))
 refine aq aa h3 (bL aa ?_)
 refine aq aa h3 (bJ aa aa aa ?_)
 refine aq aa h3 (bu aa I ?_)
 refine aq aa h3 (je aa aa ?_)
 refine ai (bd aa h3 aa ?_)
 refine bn (aN aa (fun h4 g4=>?_) (fun h4 g4=>?_))
 ·exact aj (af 1 aa (ay (aE aa aa ⟨false,aa,iQ⟩)))
 refine aG (aA (aj (af 1 aa (bj (cb (fun k VE B=>∃(p:Int),(0≤p∧(p≤(G.length:Int)∨p=0))∧k=((G.length:Int) -p).toNat∧aT [(0,.agg [.d (dJ aQ),.d (dJ aB),.d a2]),(1,.vp 1 0),(2,dB false),(3,.d (dJ p)),(20,dB (decide (12<(G.length:Int))))] VE∧aT [(1,.one 135 40 [.d (dJ aQ),.d (dJ aB),.d a2])] B) ?_ (k:=((G.length:Int) -0).toNat) ⟨0,ae,aa,⟨aa,aa,aa,aa,aa,trivial⟩,⟨aa,trivial⟩⟩)))))
 rintro _ VE B⟨p,c9,rfl,hV,hB⟩
 refine bz _ _ hV hB (aA (aj (ak 3 aa (ai (bu aa I ?_)))))
 refine af 1 aa (aN aa (fun h5 g5=>?_) (fun h5 g5=>?_))
 ·refine aG (aA (bj (aj (ak 3 aa ?_))))
  obtain⟨r6,gO,gP⟩:=bR p Z
  obtain⟨tP,zk,Ci,rfl,mg,L,qn⟩:=c4 gP
  refine ai (bo aa aa I ae gO aa ?_)
  refine af 3 aa (cN ?_)
  obtain⟨yo,rfl,IN,IP⟩:=Ty.az mg
  refine aP 4 aa (fA (g:=ll) aa (fun h7 g7=>?_) (fun h7 g7=>?_))
  ·refine bh aa h7 (ca aa h7 (bh aa h7 (aU (aW aa h7 aa ?_))))
   refine aP 1 aa (bh aa aa (bh aa aa (bh aa aa (dD aa (iA aa (dD aa (iA aa (dD aa (dD aa ?_)))))))))
   refine dD aa (dD aa (iA aa (dD aa (bh aa aa (aU (aW aa aa aa ?_))))))
   refine aP 1 aa (bh aa aa (ca aa aa (ca aa aa (bh aa aa (aU (aW aa aa aa ?_))))))
   refine aP 1 aa (bh aa aa (ca aa aa (bh aa aa (aU (aW aa aa aa ?_)))))
   refine aP 1 aa (bh aa aa (ca aa aa (bh aa aa (aU (aW aa aa aa ?_)))))
   refine aP 1 aa (ca aa aa (bh aa aa (ca aa aa (ca aa aa (bh aa aa (bh aa aa (aU (aW aa aa aa ?_))))))))
   exact cU (cg aa aa (aj (af 1 aa (ay (aE aa aa ⟨false,aa,iQ⟩)))))
  refine bg aa h7 (bL aa ?_)
  refine cw aa h7 aa (bJ aa aa aa ?_)
  refine bg aa h7 (je aa aa ?_)
  refine aU (bd aa h7 aa ?_)
  refine aP 1 aa (fA (g:=gE) aa (fun h8 g8=>?_) (fun h8 g8=>?_))
  ·refine bh aa h8 (bh aa h8 (bh aa h8 (dD aa (iA aa (dD aa (iA aa (dD aa (dD aa (dD aa ?_)))))))))
   refine dD aa (iA aa (dD aa (bh aa h8 (aU (aW aa h8 aa ?_)))))
   refine aP 1 aa (bh aa aa (ca aa aa (ca aa aa (bh aa aa (aU (aW aa aa aa ?_))))))
   refine aP 1 aa (bh aa aa (ca aa aa (bh aa aa (aU (aW aa aa aa ?_)))))
   refine aP 1 aa (bh aa aa (ca aa aa (bh aa aa (aU (aW aa aa aa ?_)))))
   refine aP 1 aa (ca aa aa (bh aa aa (ca aa aa (ca aa aa (bh aa aa (bh aa aa (aU (aW aa aa aa ?_))))))))
   exact cU (cg aa aa (aj (af 1 aa (ay (aE aa aa ⟨false,aa,iQ⟩)))))
  refine bg aa h8 (bf aa ?_)
  refine bg aa h8 (je aa aa ?_)
  refine bg aa h8 (bf aa ?_)
  refine fA (g:=tB) aa (fun J g9=>?_) (fun J g9=>?_)
  ·refine bg aa J (bL aa ?_)
   refine cw aa J aa (bJ aa aa aa ?_)
   refine bg aa J (bL aa ?_)
   refine cw aa J aa (bJ aa aa aa ?_)
   refine bg aa J (bf aa ?_)
   refine bg aa J (eb aa aa ae ae ?_)
   obtain⟨mA,gL,gM⟩:=bR (p-1) Z
   obtain⟨mh,oq,vE,rfl,ko,o6,oh⟩:=c4 gM
   refine bg aa J (bo aa aa I ae gL aa ?_)
   refine bg aa J (eL aa ?_)
   refine cw aa J aa (cF aa aa ?_)
   obtain⟨A3,rfl,Mo,Mp⟩:=Ty.az ko
   refine bg aa J (qc aa aa ?_)
   refine bg aa h8 (aW aa J aa ?_)
   refine aU (bd aa h8 aa ?_)
   refine aP 1 aa (fA (g:=zb) aa (fun K fT=>?_) (fun K fT=>?_))
   ·refine bh aa K (ca aa K (ca aa K (bh aa K (aU (aW aa K aa ?_)))))
    refine aP 1 aa (bh aa aa (ca aa aa (bh aa aa (aU (aW aa aa aa ?_)))))
    refine aP 1 aa (bh aa aa (ca aa aa (bh aa aa (aU (aW aa aa aa ?_)))))
    refine aP 1 aa (ca aa aa (bh aa aa (ca aa aa (ca aa aa (bh aa aa (bh aa aa (aU (aW aa aa aa ?_))))))))
    exact cU (cg aa aa (aj (af 1 aa (ay (aE aa aa ⟨false,aa,iQ⟩)))))
   refine bg aa K (bL aa ?_)
   refine cw aa K aa (bJ aa aa aa ?_)
   refine cw aa K aa (aY aa (aV aa) (Od F L) (fun nW _ mV=>?_))
   obtain⟨tf,rfl,vn⟩:=mV
   obtain⟨by12_0,rfl⟩:=Ty.bQ vn
   refine bg aa K (eQ aa ?_)
   refine aU (bd aa K aa ?_)
   refine aP 1 aa (C7 (g:=B6) aa (fun M=>?_) (fun M=>?_))
   ·refine bh aa M (ca aa M (bh aa M (aU (aW aa M aa ?_))))
    refine aP 1 aa (bh aa aa (ca aa aa (bh aa aa (aU (aW aa aa aa ?_)))))
    refine aP 1 aa (ca aa aa (bh aa aa (ca aa aa (ca aa aa (bh aa aa (bh aa aa (aU (aW aa aa aa ?_))))))))
    exact cU (cg aa aa (aj (af 1 aa (ay (aE aa aa ⟨false,aa,iQ⟩)))))
   refine bg aa M (bL aa ?_)
   refine cw aa M aa (bJ aa aa aa ?_)
   obtain⟨zx6_2,rfl,hzx6_2,kzx6_2⟩:=Ty.az qn
   refine bg aa M (eH aa aa ?_)
   refine aU (bd aa M aa ?_)
   refine aP 1 aa (fA (g:=FB) aa (fun O kG=>?_) (fun O kG=>?_))
   ·refine bh aa O (ca aa O (bh aa O (aU (aW aa O aa ?_))))
    refine aP 1 aa (ca aa aa (bh aa aa (ca aa aa (ca aa aa (bh aa aa (bh aa aa (aU (aW aa aa aa ?_))))))))
    exact cU (cg aa aa (aj (af 1 aa (ay (aE aa aa ⟨false,aa,iQ⟩)))))
   refine bg aa O (bL aa ?_)
   refine cw aa O aa (bJ aa aa aa ?_)
   refine bg aa O (je aa aa ?_)
   refine aU (bd aa O aa ?_)
   refine aP 1 aa (fA (g:=FC) aa (fun z kI=>?_) (fun z kI=>?_))
   ·refine ca aa z (bh aa z (ca aa z (ca aa z (bh aa z (bh aa z (aU (aW aa z aa ?_)))))))
    exact cU (cg aa aa (aj (af 1 aa (ay (aE aa aa ⟨false,aa,iQ⟩)))))
   refine cw aa z aa (iw aa aa (aX aa) (aX aa) ?_)
   refine bg aa z (bL aa ?_)
   refine cw aa z aa (bJ aa aa aa ?_)
   refine cw aa z aa (aY aa (aV aa) (NC F ah ah I ae Z L) (fun CL _ Ge=>?_))
   obtain⟨y16_0,rfl,hy16_0⟩:=Ge
   refine bg aa z (bf aa ?_)
   refine bg aa z (eR aa aa ?_)
   refine aU (bd aa z aa ?_)
   refine cU (aN aa (fun gR jF=>?_) (fun gR jF=>?_))
   ·exact aj (af 1 aa (ay (aE aa aa ⟨false,aa,iQ⟩)))
   refine aG (aS (ak 1 aa (ai (br aa aa ae ae ?_))))
   exact af 1 aa (⟨((G.length:Int) -((p+1))).toNat,ae,(p+1),ae,aa,⟨aa,aa,aa,aa,aa,trivial⟩,⟨aa,trivial⟩⟩)
  refine bh aa J (ca aa J (bh aa J (ca aa J (bh aa J (bh aa J (bh aa J (bh aa J (ca aa J (bh aa J ?_)))))))))
  refine bg aa h8 (bd aa J aa ?_)
  refine aU (bd aa h8 aa ?_)
  refine aP 1 aa (bg aa aa (bL aa ?_))
  refine cw aa aa aa (bJ aa aa aa ?_)
  refine cw aa aa aa (aY aa (aV aa) (Od F L) (fun CP _ F6=>?_))
  obtain⟨Zr,rfl,NQ⟩:=F6
  obtain⟨by18_0,rfl⟩:=Ty.bQ NQ
  refine bg aa aa (eQ aa ?_)
  refine aU (bd aa aa aa ?_)
  refine aP 1 aa (C7 (g:=B6) aa (fun U=>?_) (fun U=>?_))
  ·refine bh aa U (ca aa U (bh aa U (aU (aW aa U aa ?_))))
   refine aP 1 aa (bh aa aa (ca aa aa (bh aa aa (aU (aW aa aa aa ?_)))))
   refine aP 1 aa (ca aa aa (bh aa aa (ca aa aa (ca aa aa (bh aa aa (bh aa aa (aU (aW aa aa aa ?_))))))))
   exact cU (cg aa aa (aj (af 1 aa (ay (aE aa aa ⟨false,aa,iQ⟩)))))
  refine bg aa U (bL aa ?_)
  refine cw aa U aa (bJ aa aa aa ?_)
  obtain⟨zx6_2,rfl,hzx6_2,kzx6_2⟩:=Ty.az qn
  refine bg aa U (eH aa aa ?_)
  refine aU (bd aa U aa ?_)
  refine aP 1 aa (fA (g:=FB) aa (fun Y uD=>?_) (fun Y uD=>?_))
  ·refine bh aa Y (ca aa Y (bh aa Y (aU (aW aa Y aa ?_))))
   refine aP 1 aa (ca aa aa (bh aa aa (ca aa aa (ca aa aa (bh aa aa (bh aa aa (aU (aW aa aa aa ?_))))))))
   exact cU (cg aa aa (aj (af 1 aa (ay (aE aa aa ⟨false,aa,iQ⟩)))))
  refine bg aa Y (bL aa ?_)
  refine cw aa Y aa (bJ aa aa aa ?_)
  refine bg aa Y (je aa aa ?_)
  refine aU (bd aa Y aa ?_)
  refine aP 1 aa (fA (g:=FC) aa (fun A l7=>?_) (fun A l7=>?_))
  ·refine ca aa A (bh aa A (ca aa A (ca aa A (bh aa A (bh aa A (aU (aW aa A aa ?_)))))))
   exact cU (cg aa aa (aj (af 1 aa (ay (aE aa aa ⟨false,aa,iQ⟩)))))
  refine cw aa A aa (iw aa aa (aX aa) (aX aa) ?_)
  refine bg aa A (bL aa ?_)
  refine cw aa A aa (bJ aa aa aa ?_)
  refine cw aa A aa (aY aa (aV aa) (NC F ah ah I ae Z L) (fun CT _ tY=>?_))
  obtain⟨JP,rfl,IU⟩:=tY
  refine bg aa A (bf aa ?_)
  refine bg aa A (eR aa aa ?_)
  refine aU (bd aa A aa ?_)
  refine cU (aN aa (fun fU qU=>?_) (fun fU qU=>?_))
  ·exact aj (af 1 aa (ay (aE aa aa ⟨false,aa,iQ⟩)))
  refine aG (aS (ak 1 aa (ai (br aa aa ae ae ?_))))
  exact af 1 aa (⟨((G.length:Int) -((p+1))).toNat,ae,(p+1),ae,aa,⟨aa,aa,aa,aa,aa,trivial⟩,⟨aa,trivial⟩⟩)
 exact bV (aj (af 1 aa (ay (aE aa aa ⟨true,aa,iQ⟩))))
theorem AG{T:bC}(F:FT T){Y:DC}{A:List (List DC)}(J:aR A Y)(ed:A.length≤1000000000)(M:aH cl A):Sound T 84 [.d Y] fun r=>∃(Z:DC)(I:List (List DC)),r= .d Z∧aR I Z∧(I.length:Int)≤1000000000∧aH cl I∧0≤(I.length:Int)∧(I=[]→Z= .nil):=by
 refine ch F.q84 aa (aj (af 1 aa (aj (af 1 aa (aA (aj (af 1 aa (bj (ki 3 90 3 8 1 aa aa ?_)))))))))
 refine cb (fun k VE B=>∃(p:Int)(z:List (List DC)),(0≤p∧(p≤(A.length:Int)∨p=0))∧((z.length:Int)≤p)∧(aH cl z)∧k=((A.length:Int) -p).toNat∧aT [(0,.d Y),(2,dN),(3,.ac 90 z.length 1),(4,.d (dJ p))] VE∧aT [(90,.acc 3 8 1 z)] B) ?_ (k:=((A.length:Int) -0).toNat) ⟨0,[],ae,cn,bN,aa,⟨aa,aa,aa,aa,trivial⟩,⟨aa,trivial⟩⟩
 rintro _ VE B⟨p,z,c9,fr,G,rfl,hV,hB⟩
 refine bz _ _ hV hB (aA (aj (ak 2 aa (ai (bu aa J ?_)))))
 refine af 1 aa (aN aa (fun h1 g1=>?_) (fun h1 g1=>?_))
 ·refine aG (aA (bj (aS (ak 3 aa ?_))))
  obtain⟨r2,dj,K⟩:=bR p M
  obtain⟨fR,_,rfl,L,K⟩:=b0 K
  obtain rfl:=dy K
  refine ai (bo aa aa J ae dj aa ?_)
  obtain⟨qm,rfl,O,U⟩:=Ty.az L
  refine ak 1 aa (ai (VP aa aa (fun z3 hz3=>?_)))
  refine ak 1 aa ?_
  refine ai (cr (rows:=z) (ys:=[[(dJ z3)]]) rfl rfl rfl (.bs (rows:=[[(dJ z3)]]) rfl) aD ae (fun h=>by rw[h];rfl) (fun h=>by rw[h];rfl) ?_)
  refine af 1 aa (aS (ak 1 aa (ai (br aa aa ae ae ?_))))
  exact af 1 aa (⟨((A.length:Int) -((p+1))).toNat,ae,(p+1),(z++[[(dJ z3)]]),ae,cn,(bS G (bX (ao ah bm))),aa,⟨aa,aa,aa,aa,trivial⟩,⟨aa,trivial⟩⟩)
 refine bV (aj (af 2 aa (fm 2 90 aa aa (fun _=>⟨aa,aa⟩) (ay ?_))))
 exact aE rfl rfl ⟨(.cS z),z,rfl,(.acc _),ae,G,ae,(fun h=>by rw[h];rfl)⟩
theorem abx{T:bC}(F:FT T){K O:DC}{z:List (List DC)}(J:aR z K)(U:z.length≤1000000000)(I:aH ee z)(L:(Ty.i .i64 0 64).ok O):Sound T 121 [.d K,.d O] fun r=>∃(M:DC)(G:List (List DC)),r= .d M∧aR G M∧(G.length:Int)≤max (z.length:Int) 64∧aH ee G∧0≤(G.length:Int)∧(G=[]→M= .nil):=by
 refine ch F.q121 aa ?_
 obtain⟨aB,rfl,Y,Z⟩:=Ty.az L
 refine aj (af 1 aa (aj (ak 1 aa (ai (iK (ys:=z) 7 aa aa aa aa aa (.sD J (el I aa)) aD ae ?_)))))
 refine af 1 aa (aA (bj (cb (fun k VE B=>∃(p:List (List DC)),((p.length:Int)≤max (z.length:Int) 64)∧(aH ee p)∧k=(aB-p.length).toNat∧aT [(0,.d K),(1,.d (dJ aB)),(4,dN),(5,.ac 7 p.length 3)] VE∧aT [(7,.acc 95 32 3 p)] B) ?_ (k:=(aB-z.length).toNat) ⟨z,ae,I,aa,⟨aa,aa,aa,aa,trivial⟩,⟨aa,trivial⟩⟩)))
 rintro _ VE B⟨p,c9,A,rfl,hV,hB⟩
 refine bz _ _ hV hB (aA (aj (af 4 aa (aN aa (fun h1 g1=>?_) (fun h1 g1=>?_)))))
 ·refine aG (bj (aS (ak 3 aa ?_)))
  refine ai (cr (rows:=p) (ys:=[[i0,i0,(al [])]]) rfl rfl rfl (.bs (rows:=[[i0,i0,(al [])]]) rfl) aD ae (fun h=>by rw[h];rfl) (fun h=>by rw[h];rfl) ?_)
  exact af 1 aa (⟨(aB-((p++[[i0,i0,(al [])]])).length).toNat,ae,(p++[[i0,i0,(al [])]]),cn,(bS A (bX (ao ah (ao ah (ao (aJ (s:=[]) aD) bm))))),aa,⟨aa,aa,aa,aa,trivial⟩,⟨aa,trivial⟩⟩)
 refine bV (aj (af 2 aa (fm 4 7 aa aa (fun _=>⟨aa,aa⟩) (ay ?_))))
 exact aE rfl rfl ⟨(.cS p),p,rfl,(.acc _),ae,A,ae,(fun h=>by rw[h];rfl)⟩
theorem ZI{T:bC}(F:FT T){a0 a1:DC}{Y:List (List DC)}(U:aR Y a0)(ed:Y.length≤1000000000)(cW:aH ee Y){G:List (List DC)}(M:aR G a1)(fS:G.length≤1000000000)(du:aH cl G):Sound T 162 [.d a0,.d a1] fun r=>∃(y0:DC)(O:List (List DC)),r= .d y0∧aR O y0∧(O.length:Int)≤1000000000∧aH ee O∧0≤(O.length:Int)∧(O=[]→y0= .nil):=by
 refine ch F.q162 aa (aj (af 1 aa (aj (af 1 aa (aA (aj (af 1 aa (bj (ki 5 90 95 32 3 aa aa ?_)))))))))
 refine cb (fun k VE B=>∃(p:Int)(z:List (List DC)),(0≤p∧(p≤(G.length:Int)∨p=0))∧((z.length:Int)≤p)∧(aH ee z)∧k=((G.length:Int) -p).toNat∧aT [(0,.d a0),(1,.d a1),(4,dN),(5,.ac 90 z.length 3),(6,.d (dJ p))] VE∧aT [(90,.acc 95 32 3 z)] B) ?_ (k:=((G.length:Int) -0).toNat) ⟨0,[],ae,cn,bN,aa,⟨aa,aa,aa,aa,aa,trivial⟩,⟨aa,trivial⟩⟩
 rintro _ VE B⟨p,z,c9,fr,A,rfl,hV,hB⟩
 refine bz _ _ hV hB (aA (aj (ak 2 aa (ai (bu aa M ?_)))))
 refine af 1 aa (aN aa (fun h1 g1=>?_) (fun h1 g1=>?_))
 ·refine aG (aA (bj (aj (ak 2 aa ?_))))
  obtain⟨r2,Z,dA⟩:=bR p du
  obtain⟨fR,_,rfl,ig,dA⟩:=b0 dA
  obtain rfl:=dy dA
  refine ai (bo aa aa M ae Z aa ?_)
  obtain⟨qm,rfl,AZ,xI⟩:=Ty.az ig
  refine ak 3 aa (bZ (g:=rV) aa (fun I g3=>?_) (fun I g3=>?_))
  ·refine aq aa I (bf aa ?_)
   refine aq aa I (bf aa ?_)
   refine aq aa I (bo aa aa M ae Z aa ?_)
   refine aq aa I (cF aa aa ?_)
   refine aq aa I (bf aa ?_)
   refine aq aa I (bu aa U ?_)
   refine aq aa I (eH aa aa ?_)
   refine ai (aW aa I aa ?_)
   refine bn (aN aa (fun h4 g4=>?_) (fun h4 g4=>?_))
   ·refine aS (ak 4 aa (ai (bo aa aa M ae Z aa ?_)))
    refine ak 1 aa ?_
    obtain⟨r5,iq,jo⟩:=bR qm cW
    obtain⟨zn,FZ,Kw,rfl,nI,yn,yp⟩:=c4 jo
    refine ai (bo aa aa U ae iq aa ?_)
    obtain⟨J,rfl,IK,IL⟩:=Ty.az nI
    obtain⟨K,rfl,Nm,Nn⟩:=Ty.az yn
    obtain⟨L,rfl,hsx5_2⟩:=Ty.aJ yp
    refine ak 2 aa ?_
    refine ai (cr (rows:=z) (ys:=[[(dJ J),(dJ K),(al L)]]) rfl rfl rfl (.bs (rows:=[[(dJ J),(dJ K),(al L)]]) rfl) aD ae (fun h=>by rw[h];rfl) (fun h=>by rw[h];rfl) ?_)
    refine af 1 aa (aS (ak 1 aa (ai (br aa aa ae ae ?_))))
    exact af 1 aa (⟨((G.length:Int) -((p+1))).toNat,ae,(p+1),(z++[[(dJ J),(dJ K),(al L)]]),ae,cn,(bS A (bX (ao ah (ao ah (ao (aJ ax) bm))))),aa,⟨aa,aa,aa,aa,aa,trivial⟩,⟨aa,trivial⟩⟩)
   refine aS (ak 3 aa ?_)
   refine ai (cr (rows:=z) (ys:=[[i0,i0,(al [])]]) rfl rfl rfl (.bs (rows:=[[i0,i0,(al [])]]) rfl) aD ae (fun h=>by rw[h];rfl) (fun h=>by rw[h];rfl) ?_)
   refine af 1 aa (aS (ak 1 aa (ai (br aa aa ae ae ?_))))
   exact af 1 aa (⟨((G.length:Int) -((p+1))).toNat,ae,(p+1),(z++[[i0,i0,(al [])]]),ae,cn,(bS A (bX (ao ah (ao ah (ao (aJ (s:=[]) aD) bm))))),aa,⟨aa,aa,aa,aa,aa,trivial⟩,⟨aa,trivial⟩⟩)
  refine an aa I (an aa I (an aa I (an aa I (an aa I (an aa I (an aa I (ai (bd aa I aa ?_))))))))
  refine bn (cH aa aa (aS (ak 3 aa ?_)))
  refine ai (cr (rows:=z) (ys:=[[i0,i0,(al [])]]) rfl rfl rfl (.bs (rows:=[[i0,i0,(al [])]]) rfl) aD ae (fun h=>by rw[h];rfl) (fun h=>by rw[h];rfl) ?_)
  refine af 1 aa (aS (ak 1 aa (ai (br aa aa ae ae ?_))))
  exact af 1 aa (⟨((G.length:Int) -((p+1))).toNat,ae,(p+1),(z++[[i0,i0,(al [])]]),ae,cn,(bS A (bX (ao ah (ao ah (ao (aJ (s:=[]) aD) bm))))),aa,⟨aa,aa,aa,aa,aa,trivial⟩,⟨aa,trivial⟩⟩)
 refine bV (aj (af 2 aa (fm 4 90 aa aa (fun _=>⟨aa,aa⟩) (ay ?_))))
 exact aE rfl rfl ⟨(.cS z),z,rfl,(.acc _),ae,A,ae,(fun h=>by rw[h];rfl)⟩
end Go.Ev.Rp
namespace Go.Ev.Rp
open Go Go.Ev.Pp
theorem UE{T:bC}(F:FT T){a0 a1 a2 a3 a4:DC}(cV:(Ty.s 1000).ok a0){I:List (List DC)}(J:aR I a1)(fS:I.length≤100)(du:aH eB I)(dE:(Ty.l 200 cl).ok a2)(dk:(Ty.l 4 fu).ok a3)(dg:(Ty.l 4 ez).ok a4):Sound T 155 [.agg [.d a0,.d a1,.d a2,.d a3,.d a4]] fun r=>∃(y0:Bool),r=dB y0∧(y0=true→1≤(I.length:Int)∧jP I.length I):=by
 refine ch F.q155 aa ?_
 obtain⟨K,rfl,kD⟩:=Ty.aJ cV
 obtain⟨cu,cO,et,cK⟩:=Ty.au dE
 obtain⟨e5,eC,iS,ef⟩:=Ty.au dk
 obtain⟨eU,cT,fo,dc⟩:=Ty.au dg
 refine aj (af 2 aa (kM (fun VE B=>(1≤(I.length:Int))∧aT [(0,.agg [dS K,.d a1,.d a2,.d a3,.d a4]),(1,.vp 1 0),(2,dB false)] VE∧aT [(1,.one 40 112 [dS K,.d a1,.d a2,.d a3,.d a4])] B) ?_ ?_))
 ·refine aj (ak 2 aa (ai (aY aa (aV aa) (Oa F (aJ ax)) (fun r1 _ dh=>?_))))
  obtain⟨dV,rfl,dY⟩:=dh
  obtain⟨EY,rfl⟩:=Ty.bQ dY
  refine ak 2 aa (e6 (g:=rT) aa (fun h2=>?_) (fun h2=>?_))
  ·refine an aa h2 (an aa h2 (an aa h2 (an aa h2 (ai (aW aa h2 aa ?_)))))
   refine ak 1 aa (an aa aa (an aa aa (an aa aa (an aa aa (an aa aa (an aa aa (an aa aa (an aa aa (an aa aa ?_)))))))))
   refine an aa aa (an aa aa (ai (aW aa aa aa ?_)))
   exact bn (cg aa aa (aj (af 1 aa (ay (aE aa aa ⟨false,aa,iE⟩)))))
  refine aq aa h2 (bL aa ?_)
  refine aq aa h2 (bJ aa aa aa ?_)
  refine aq aa h2 (bu aa J ?_)
  refine aq aa h2 (en aa aa ?_)
  refine ai (bd aa h2 aa ?_)
  refine ak 1 aa (bZ (g:=ow) aa (fun h3 g3=>?_) (fun h3 g3=>?_))
  ·refine an aa h3 (an aa h3 (an aa h3 (an aa h3 (an aa h3 (an aa h3 (an aa h3 (an aa h3 (an aa h3 (an aa h3 ?_)))))))))
   refine an aa h3 (ai (aW aa h3 aa ?_))
   exact bn (cg aa aa (aj (af 1 aa (ay (aE aa aa ⟨false,aa,iE⟩)))))
  refine aq aa h3 (bL aa ?_)
  refine aq aa h3 (bJ aa aa aa ?_)
  refine aq aa h3 (bL aa ?_)
  refine aq aa h3 (bJ aa aa aa ?_)
  refine aq aa h3 (bu aa J ?_)
  refine aq aa h3 (eb aa aa ae ae ?_)
  obtain⟨r4,eg,eZ⟩:=bR ((I.length:Int) -1) du
  obtain⟨jw,mr,oG,rfl,gB,jR,ot⟩:=c4 eZ
  refine aq aa h3 (bo aa aa J ae eg aa ?_)
  refine aq aa h3 (eL aa ?_)
  refine aq aa h3 (eL aa ?_)
  refine aq aa h3 (cF aa aa ?_)
  obtain⟨zx4_1,rfl,hzx4_1,kzx4_1⟩:=Ty.az jR
  refine aq aa h3 (eR aa aa ?_)
  refine ai (bd aa h3 aa ?_)
  refine bn (aN aa (fun h5 g5=>?_) (fun h5 g5=>?_))
  ·exact aj (af 1 aa (ay (aE aa aa ⟨false,aa,iE⟩)))
  exact aG (⟨ae,⟨aa,aa,aa,trivial⟩,⟨aa,trivial⟩⟩)
 rintro VE B⟨fj0_0,hV,hB⟩
 refine bz _ _ hV hB (aj (af 1 aa (aA (aj (af 1 aa (bj ?_))))))
 refine cb (fun k VE B=>∃(L:Int)(p:Int),(0≤L∧L≤12)∧(0≤p∧(p≤(I.length:Int)∨p=0))∧(jP p I)∧k=((I.length:Int) -p).toNat∧aT [(0,.agg [dS K,.d a1,.d a2,.d a3,.d a4]),(1,.vp 1 0),(2,dB false),(3,.d (dJ L)),(4,.d (dJ p))] VE∧aT [(1,.one 40 112 [dS K,.d a1,.d a2,.d a3,.d a4])] B) ?_ (k:=((I.length:Int) -0).toNat) ⟨0,0,ae,ae,(by first|assumption|exact U7|exact jP.step (by assumption) ae (by assumption) rfl (by assumption) (by assumption)),rfl,⟨rfl,rfl,rfl,rfl,rfl,trivial⟩,⟨rfl,trivial⟩⟩
 rintro _ VE B⟨L,p,c9,fr,wC,rfl,hV,hB⟩
 refine bz _ _ hV hB (aA (aj (ak 3 aa (ai (bu aa J ?_)))))
 refine af 1 aa (aN aa (fun h6 g6=>?_) (fun h6 g6=>?_))
 ·refine aG (aA (bj ?_))
  obtain⟨r7,eY,gv⟩:=bR p du
  obtain⟨nP,qF,wx,rfl,ku,mj,nJ⟩:=c4 gv
  obtain⟨BP,IV,hnx7_2,Oe⟩:=Ty.au nJ
  refine kM (fun VE B=>(1≤(BP.length:Int)∧(BP.length:Int)≤12)∧aT [(0,.agg [dS K,.d a1,.d a2,.d a3,.d a4]),(1,.vp 1 0),(2,dB false),(3,.d (dJ L)),(4,.d (dJ p)),(38,dB (decide (p<(I.length:Int))))] VE∧aT [(1,.one 40 112 [dS K,.d a1,.d a2,.d a3,.d a4])] B) ?_ ?_
  ·refine cN (aP 3 aa (aU (bo aa aa J ae eY aa ?_)))
   refine de aa aa (eF aa (aX aa) (aX aa) ?_)
   refine bP aa (aY aa (aV aa) (vverC F ku mj IV ae Oe) (fun r8 _ lW=>?_))
   obtain⟨qE,rfl,tc⟩:=lW
   refine aP 2 aa (C7 (g:=yW) aa (fun h9=>?_) (fun h9=>?_))
   ·refine bh aa h9 (bh aa h9 (bh aa h9 (dD aa (iA aa (dD aa (dD aa (dD aa (iA aa (dD aa ?_)))))))))
    refine iA aa (dD aa (dD aa (iA aa (dD aa (iA aa (dD aa (bh aa h9 (aU (aW aa h9 aa ?_)))))))))
    exact cU (cg aa aa (aj (af 1 aa (ay (aE aa aa ⟨false,aa,iE⟩)))))
   have k9:=tc (by simpa using h9)
   refine bg aa h9 (bf aa ?_)
   refine bg aa h9 (je aa aa ?_)
   refine bg aa h9 (bf aa ?_)
   refine fA (g:=v7) aa (fun z fV=>?_) (fun z fV=>?_)
   ·refine bg aa z (bL aa ?_)
    refine cw aa z aa (bJ aa aa aa ?_)
    refine bg aa z (bf aa ?_)
    refine bg aa z (eb aa aa ae ae ?_)
    obtain⟨pN,zB,zD⟩:=bR (p-1) du
    obtain⟨PG,ES,x11_2,rfl,xS,DY,IW⟩:=c4 zD
    refine bg aa z (bo aa aa J ae zB aa ?_)
    refine cw aa z aa (eF aa (aX aa) (aX aa) ?_)
    refine bg aa z (bL aa ?_)
    refine cw aa z aa (bJ aa aa aa ?_)
    refine bg aa z (bf aa ?_)
    refine bg aa z (bo aa aa J ae eY aa ?_)
    refine cw aa z aa (eF aa (aX aa) (aX aa) ?_)
    refine bg aa z (bf aa ?_)
    refine cw aa z aa (aY aa (aV aa) (folC F xS DY IW ku mj (au IV ae Oe) ah) (fun nW _ mV=>?_))
    obtain⟨tf,rfl,vn⟩:=mV
    obtain⟨by12_0,rfl⟩:=Ty.bQ vn
    refine bg aa z (eQ aa ?_)
    refine bg aa h9 (aW aa z aa ?_)
    refine aU (bd aa h9 aa ?_)
    refine cU (db aa (fun eD=>?_) (fun eD=>?_))
    ·exact aj (af 1 aa (ay (aE aa aa ⟨false,aa,iE⟩)))
    exact aG (⟨ae,⟨aa,aa,aa,aa,aa,aa,trivial⟩,⟨aa,trivial⟩⟩)
   refine bh aa z (ca aa z (bh aa z (bh aa z (bh aa z (ca aa z (bh aa z (ca aa z (bh aa z (bh aa z ?_)))))))))
   refine ca aa z (bh aa z (ca aa z (bh aa z (bg aa h9 (bd aa z aa ?_)))))
   refine aU (bd aa h9 aa ?_)
   exact cU (cH aa aa (aG (⟨ae,⟨aa,aa,aa,aa,aa,aa,trivial⟩,⟨aa,trivial⟩⟩)))
  rintro VE B⟨fj4_0,hV,hB⟩
  refine bz _ _ hV hB (aj (af 1 aa (bj (cb (fun k VE B=>∃(Gf:Int)(Z:Int),(0≤Gf∧Gf≤12)∧(0≤Z∧(Z≤(BP.length:Int)∨Z=0))∧k=((BP.length:Int) -Z).toNat∧aT [(0,.agg [dS K,.d a1,.d a2,.d a3,.d a4]),(1,.vp 1 0),(2,dB false),(3,.d (dJ Gf)),(4,.d (dJ p)),(5,.d (dJ Z)),(38,dB (decide (p<(I.length:Int))))] VE∧aT [(1,.one 40 112 [dS K,.d a1,.d a2,.d a3,.d a4])] B) ?_ (k:=((BP.length:Int) -0).toNat) ⟨L,0,ae,ae,aa,⟨aa,aa,aa,aa,aa,aa,aa,trivial⟩,⟨aa,trivial⟩⟩))))
  rintro _ VE B⟨Gf,Z,jj,pw,rfl,hV,hB⟩
  refine bz _ _ hV hB (aA (aj (ak 4 aa (ai (bo aa aa J ae eY aa ?_)))))
  refine ak 2 aa (ai (bu aa IV ?_))
  refine af 1 aa (aN aa (fun fw kG=>?_) (fun fw kG=>?_))
  ·refine aG (aA (bj (aS (ak 4 aa (ai (bo aa aa J ae eY aa ?_))))))
   refine ak 3 aa ?_
   obtain⟨sw,tQ,sg⟩:=bR Z Oe
   obtain⟨Ps,Ju,x15_2,rfl,DO,DP,hx15_2⟩:=c4 sg
   refine ai (bo aa aa IV ae tQ aa ?_)
   obtain⟨zx15_0,rfl,hzx15_0,kzx15_0⟩:=Ty.az DO
   refine ak 2 aa (ai (sS aa aa (fun SD hz16=>?_)))
   refine af 1 aa (aS (ak 1 aa (ai (br aa aa ae ae ?_))))
   exact af 1 aa (⟨((BP.length:Int) -((Z+1))).toNat,ae,SD,(Z+1),ae,ae,aa,⟨aa,aa,aa,aa,aa,aa,aa,trivial⟩,⟨aa,trivial⟩⟩)
  refine bV (aS (ak 1 aa (ai (br aa aa ae ae ?_))))
  refine af 1 aa ?_
  exact⟨((I.length:Int) -((p+1))).toNat,ae,Gf,(p+1),ae,ae,(by first|assumption|exact U7|exact jP.step (by assumption) ae (by assumption) rfl (by assumption) (by assumption)),rfl,⟨rfl,rfl,rfl,rfl,rfl,trivial⟩,⟨rfl,trivial⟩⟩
 refine bV (kM (fun VE B=>(jP I.length I)∧aT [(0,.agg [dS K,.d a1,.d a2,.d a3,.d a4]),(1,.vp 1 0),(2,dB false),(3,.d (dJ L)),(4,.d (dJ p)),(38,dB (decide (p<(I.length:Int))))] VE∧aT [(1,.one 40 112 [dS K,.d a1,.d a2,.d a3,.d a4])] B) ?_ ?_)
 ·refine aj (ak 2 aa (ai (aY aa (aV aa) (EX F cO ae cK) (fun CN _ zl=>?_))))
  obtain⟨ZJ,rfl,Of⟩:=zl
  obtain⟨by17_0,rfl⟩:=Ty.bQ Of
  refine ak 2 aa (e6 (g:=QE) aa (fun eO=>?_) (fun eO=>?_))
  ·refine an aa eO (an aa eO (an aa eO (an aa eO (an aa eO (ai (aW aa eO aa ?_))))))
   refine ak 1 aa (an aa aa (an aa aa (an aa aa (an aa aa (ai (aW aa aa aa ?_))))))
   refine ak 1 aa (an aa aa (an aa aa (an aa aa (an aa aa (ai (aW aa aa aa ?_))))))
   exact bn (cg aa aa (aj (af 1 aa (ay (aE aa aa ⟨false,aa,iE⟩)))))
  refine aq aa eO (iw aa aa (aX aa) (aX aa) ?_)
  refine aq aa eO (bL aa ?_)
  refine aq aa eO (bJ aa aa aa ?_)
  refine aq aa eO (aY aa (aV aa) (IS F (aJ ax) (au J ae du) (au cO ae cK) (au eC ae ef) (au cT ae dc) (au cO ae cK)) (fun Al _ zE=>?_))
  obtain⟨JH,rfl,DT⟩:=zE
  obtain⟨by19_0,rfl⟩:=Ty.bQ DT
  refine aq aa eO (eQ aa ?_)
  refine ai (bd aa eO aa ?_)
  refine ak 1 aa (e6 (g:=OY) aa (fun lZ=>?_) (fun lZ=>?_))
  ·refine an aa lZ (an aa lZ (an aa lZ (an aa lZ (ai (aW aa lZ aa ?_)))))
   refine ak 1 aa (an aa aa (an aa aa (an aa aa (an aa aa (ai (aW aa aa aa ?_))))))
   exact bn (cg aa aa (aj (af 1 aa (ay (aE aa aa ⟨false,aa,iE⟩)))))
  refine aq aa lZ (bL aa ?_)
  refine aq aa lZ (bJ aa aa aa ?_)
  refine aq aa lZ (bu aa eC ?_)
  refine aq aa lZ (je aa aa ?_)
  refine ai (bd aa lZ aa ?_)
  refine ak 1 aa (bZ (g:=O1) aa (fun gw l7=>?_) (fun gw l7=>?_))
  ·refine an aa gw (an aa gw (an aa gw (an aa gw (ai (aW aa gw aa ?_)))))
   exact bn (cg aa aa (aj (af 1 aa (ay (aE aa aa ⟨false,aa,iE⟩)))))
  refine aq aa gw (bL aa ?_)
  refine aq aa gw (bJ aa aa aa ?_)
  refine aq aa gw (bu aa cT ?_)
  refine aq aa gw (je aa aa ?_)
  refine ai (bd aa gw aa ?_)
  refine bn (aN aa (fun oQ oR=>?_) (fun oQ oR=>?_))
  ·exact aj (af 1 aa (ay (aE aa aa ⟨false,aa,iE⟩)))
  refine aG ?_
  exact⟨(by first|assumption|exact jP.all (by assumption) ae),⟨rfl,rfl,rfl,rfl,rfl,rfl,trivial⟩,⟨rfl,trivial⟩⟩
 rintro VE B⟨fj7_0,hV,hB⟩
 refine bz _ _ hV hB (aA (aj (af 1 aa (bj (cb (fun k VE B=>∃(A:Int),(0≤A∧(A≤(e5.length:Int)∨A=0))∧k=((e5.length:Int) -A).toNat∧aT [(0,.agg [dS K,.d a1,.d a2,.d a3,.d a4]),(1,.vp 1 0),(2,dB false),(3,.d (dJ L)),(4,.d (dJ p)),(6,.d (dJ A)),(38,dB (decide (p<(I.length:Int))))] VE∧aT [(1,.one 40 112 [dS K,.d a1,.d a2,.d a3,.d a4])] B) ?_ (k:=((e5.length:Int) -0).toNat) ⟨0,ae,aa,⟨aa,aa,aa,aa,aa,aa,aa,trivial⟩,⟨aa,trivial⟩⟩)))))
 rintro _ VE B⟨A,wq,rfl,hV,hB⟩
 refine bz _ _ hV hB (aA (aj (ak 3 aa (ai (bu aa eC ?_)))))
 refine af 1 aa (aN aa (fun fU qU=>?_) (fun fU qU=>?_))
 ·refine aG (aA (bj (aj (ak 3 aa ?_))))
  obtain⟨GO,Ra,F4⟩:=bR A ef
  obtain⟨JD,ZK,ZL,rfl,NK,hx24_1,XR⟩:=c4 F4
  refine ai (bo aa aa eC ae Ra aa ?_)
  refine af 3 aa (kM (fun VE B=>aT [(0,.agg [dS K,.d a1,.d a2,.d a3,.d a4]),(1,.vp 1 0),(2,dB false),(3,.d (dJ L)),(4,.d (dJ p)),(6,.d (dJ A)),(7,.vp 7 0),(38,dB (decide (p<(I.length:Int)))),(118,dB (decide (A<(e5.length:Int))))] VE∧aT [(1,.one 40 112 [dS K,.d a1,.d a2,.d a3,.d a4]),(7,.one 128 64 [.d JD,.d ZK,.d ZL])] B) ?_ ?_)
  ·refine aj ?_
   obtain rfl:=Ty.gm NK
   refine ak 2 aa (ai (bu aa (.inl aa) ?_))
   refine ak 2 aa (bZ (g:=kk130) aa (fun iJ qV=>?_) (fun iJ qV=>?_))
   ·refine an aa iJ (an aa iJ (an aa iJ (an aa iJ (ai (aW aa iJ aa ?_)))))
    refine ak 1 aa (an aa aa (an aa aa (an aa aa (an aa aa (an aa aa (ai (aW aa aa aa ?_)))))))
    refine ak 1 aa (an aa aa (an aa aa (an aa aa (an aa aa (ai (aW aa aa aa ?_))))))
    refine ak 1 aa (an aa aa (an aa aa (an aa aa (an aa aa (an aa aa (an aa aa (an aa aa (ai (aW aa aa aa ?_)))))))))
    refine ak 1 aa (an aa aa (an aa aa (an aa aa (an aa aa (ai (aW aa aa aa ?_))))))
    exact bn (cg aa aa (aj (af 1 aa (ay (aE aa aa ⟨false,aa,iE⟩)))))
   refine aq aa iJ (bL aa ?_)
   refine aq aa iJ (bJ aa aa aa ?_)
   refine aq aa iJ (aY aa (aV aa) (EX F (.inl aa) ae o5) (fun GP _ tV=>?_))
   obtain⟨BG,rfl,sZ⟩:=tV
   obtain⟨XG,rfl⟩:=Ty.bQ sZ
   refine aq aa iJ (eQ aa ?_)
   refine ai (bd aa iJ aa ?_)
   refine ak 1 aa (e6 (g:=O5) aa (fun nk=>?_) (fun nk=>?_))
   ·refine an aa nk (an aa nk (an aa nk (an aa nk (an aa nk (ai (aW aa nk aa ?_))))))
    refine ak 1 aa (an aa aa (an aa aa (an aa aa (an aa aa (ai (aW aa aa aa ?_))))))
    refine ak 1 aa (an aa aa (an aa aa (an aa aa (an aa aa (an aa aa (an aa aa (an aa aa (ai (aW aa aa aa ?_)))))))))
    refine ak 1 aa (an aa aa (an aa aa (an aa aa (an aa aa (ai (aW aa aa aa ?_))))))
    exact bn (cg aa aa (aj (af 1 aa (ay (aE aa aa ⟨false,aa,iE⟩)))))
   refine aq aa nk (iw aa aa (aX aa) (aX aa) ?_)
   refine aq aa nk (bL aa ?_)
   refine aq aa nk (bJ aa aa aa ?_)
   refine aq aa nk (aY aa (aV aa) (IS F (aJ ax) (au J ae du) (au cO ae cK) (au eC ae ef) (au cT ae dc) (au (.inl aa) ae o5)) (fun GQ _ tW=>?_))
   obtain⟨BH,rfl,xR⟩:=tW
   obtain⟨by28_0,rfl⟩:=Ty.bQ xR
   refine aq aa nk (eQ aa ?_)
   refine ai (bd aa nk aa ?_)
   refine ak 1 aa (e6 (g:=kk143) aa (fun kJ=>?_) (fun kJ=>?_))
   ·refine an aa kJ (an aa kJ (an aa kJ (an aa kJ (ai (aW aa kJ aa ?_)))))
    refine ak 1 aa (an aa aa (an aa aa (an aa aa (an aa aa (an aa aa (an aa aa (an aa aa (ai (aW aa aa aa ?_)))))))))
    refine ak 1 aa (an aa aa (an aa aa (an aa aa (an aa aa (ai (aW aa aa aa ?_))))))
    exact bn (cg aa aa (aj (af 1 aa (ay (aE aa aa ⟨false,aa,iE⟩)))))
   refine aq aa kJ (bL aa ?_)
   refine aq aa kJ (bJ aa aa aa ?_)
   refine aq aa kJ (aY aa (aV aa) (Oa F hx24_1) (fun wX _ oK=>?_))
   obtain⟨jT,rfl,mb⟩:=oK
   obtain⟨XH,rfl⟩:=Ty.bQ mb
   refine aq aa kJ (eQ aa ?_)
   refine ai (bd aa kJ aa ?_)
   refine ak 1 aa (e6 (g:=kk149) aa (fun M=>?_) (fun M=>?_))
   ·refine an aa M (an aa M (an aa M (an aa M (an aa M (an aa M (an aa M (ai (aW aa M aa ?_))))))))
    refine ak 1 aa (an aa aa (an aa aa (an aa aa (an aa aa (ai (aW aa aa aa ?_))))))
    exact bn (cg aa aa (aj (af 1 aa (ay (aE aa aa ⟨false,aa,iE⟩)))))
   refine aq aa M (bL aa ?_)
   refine aq aa M (bJ aa aa aa ?_)
   obtain rfl:=Ty.gm XR
   refine aq aa M (bu aa (.inl aa) ?_)
   refine aq aa M (bL aa ?_)
   refine aq aa M (bJ aa aa aa ?_)
   refine aq aa M (bu aa (.inl aa) ?_)
   refine aq aa M (eR aa aa ?_)
   refine ai (bd aa M aa ?_)
   refine ak 1 aa (aq aa bx (bL aa ?_))
   refine aq aa bx (bJ aa aa aa ?_)
   refine aq aa bx (aY aa (aV aa) (EX F (.inl aa) ae o5) (fun Lb _ zF=>?_))
   obtain⟨Zv,rfl,NX⟩:=zF
   obtain⟨by32_0,rfl⟩:=Ty.bQ NX
   refine aq aa bx (eQ aa ?_)
   refine ai (bd aa bx aa ?_)
   refine bn (db aa (fun q6=>?_) (fun q6=>?_))
   ·exact aj (af 1 aa (ay (aE aa aa ⟨false,aa,iE⟩)))
   exact aG (⟨⟨aa,aa,aa,aa,aa,aa,aa,aa,aa,trivial⟩,⟨aa,aa,trivial⟩⟩)
  rintro VE B⟨hV,hB⟩
  refine bz _ _ hV hB (aj (af 1 aa (bj (cb (fun k VE B=>∃(tZ:Int),(0≤tZ∧(tZ≤(((([[DC.i .i64 1]]:List (List DC))).length:Nat):Int)∨tZ=0))∧k=(((((([[DC.i .i64 1]]:List (List DC))).length:Nat):Int):Int) -tZ).toNat∧aT [(0,.agg [dS K,.d a1,.d a2,.d a3,.d a4]),(1,.vp 1 0),(2,dB false),(3,.d (dJ L)),(4,.d (dJ p)),(6,.d (dJ A)),(7,.vp 7 0),(8,.d (dJ tZ)),(38,dB (decide (p<(I.length:Int)))),(118,dB (decide (A<(e5.length:Int))))] VE∧aT [(1,.one 40 112 [dS K,.d a1,.d a2,.d a3,.d a4]),(7,.one 128 64 [.d JD,.d ZK,.d ZL])] B) ?_ (k:=(((((([[DC.i .i64 1]]:List (List DC))).length:Nat):Int):Int) -0).toNat) ⟨0,ae,aa,⟨aa,aa,aa,aa,aa,aa,aa,aa,aa,aa,trivial⟩,⟨aa,aa,trivial⟩⟩))))
  rintro _ VE B⟨tZ,aby,rfl,hV,hB⟩
  refine bz _ _ hV hB (aA (aj ?_))
  obtain rfl:=Ty.gm XR
  refine ak 3 aa (ai (bu aa (.inl aa) ?_))
  refine af 1 aa (aN aa (fun jG G1=>?_) (fun jG G1=>?_))
  ·refine aG (aA (bj (aj (ak 3 aa ?_))))
   obtain⟨r35,abz,Rx⟩:=bR tZ Bt
   obtain⟨x35_0,_,rfl,hx35_0,Rx⟩:=b0 Rx
   obtain rfl:=dy Rx
   refine ai (bo aa aa (.inl aa) ae abz aa ?_)
   obtain⟨zx35_0,rfl,hzx35_0,kzx35_0⟩:=Ty.az hx35_0
   refine ak 3 aa (bZ (g:=kk177) aa (fun Y SO=>?_) (fun Y SO=>?_))
   ·refine an aa Y (an aa Y (an aa Y (an aa Y (an aa Y (an aa Y (ai (aW aa Y aa ?_)))))))
    exact bn (cg aa aa (aj (af 1 aa (ay (aE aa aa ⟨false,aa,iE⟩)))))
   refine aq aa Y (bL aa ?_)
   refine aq aa Y (bJ aa aa aa ?_)
   refine aq aa Y (bf aa ?_)
   refine aq aa Y (bo aa aa (.inl aa) ae abz aa ?_)
   refine aq aa Y (cF aa aa ?_)
   refine aq aa Y (je aa aa ?_)
   refine ai (bd aa Y aa ?_)
   refine bn (aN aa (fun jI SP=>?_) (fun jI SP=>?_))
   ·exact aj (af 1 aa (ay (aE aa aa ⟨false,aa,iE⟩)))
   refine aG (aS (ak 1 aa (ai (br aa aa ae ae ?_))))
   exact af 1 aa (⟨(((((([[DC.i .i64 1]]:List (List DC))).length:Nat):Int):Int) -((tZ+1))).toNat,ae,(tZ+1),ae,aa,⟨aa,aa,aa,aa,aa,aa,aa,aa,aa,aa,trivial⟩,⟨aa,aa,trivial⟩⟩)
  refine bV (aS (ak 1 aa (ai (br aa aa ae ae ?_))))
  exact af 1 aa (⟨((e5.length:Int) -((A+1))).toNat,ae,(A+1),ae,aa,⟨aa,aa,aa,aa,aa,aa,aa,trivial⟩,⟨aa,trivial⟩⟩)
 refine bV (aA (aj (af 1 aa (bj (cb (fun k VE B=>∃(O:Int),(0≤O∧(O≤(eU.length:Int)∨O=0))∧k=((eU.length:Int) -O).toNat∧aT [(0,.agg [dS K,.d a1,.d a2,.d a3,.d a4]),(1,.vp 1 0),(2,dB false),(3,.d (dJ L)),(4,.d (dJ p)),(6,.d (dJ A)),(9,.d (dJ O)),(38,dB (decide (p<(I.length:Int)))),(118,dB (decide (A<(e5.length:Int))))] VE∧aT [(1,.one 40 112 [dS K,.d a1,.d a2,.d a3,.d a4])] B) ?_ (k:=((eU.length:Int) -0).toNat) ⟨0,ae,aa,⟨aa,aa,aa,aa,aa,aa,aa,aa,aa,trivial⟩,⟨aa,trivial⟩⟩)))))
 rintro _ VE B⟨O,abA,rfl,hV,hB⟩
 refine bz _ _ hV hB (aA (aj (ak 3 aa (ai (bu aa cT ?_)))))
 refine af 1 aa (aN aa (fun SQ SR=>?_) (fun SQ SR=>?_))
 ·refine aG (aA (bj (aj (ak 3 aa ?_))))
  obtain⟨r39,hg39,hr39⟩:=bR O dc
  obtain⟨x39_0,x39_1,rfl,hx39_0,XS⟩:=fc hr39
  refine ai (bo aa aa cT ae hg39 aa ?_)
  refine af 3 aa (aj ?_)
  obtain⟨zx39_0,rfl,hzx39_0,kzx39_0⟩:=Ty.az hx39_0
  refine ak 4 aa (bZ (g:=kk200) aa (fun pP St=>?_) (fun pP St=>?_))
  ·refine aq aa pP (bL aa ?_)
   refine aq aa pP (bJ aa aa aa ?_)
   refine aq aa pP (eR aa aa ?_)
   refine ai (aW aa pP aa ?_)
   refine ak 1 aa (bZ (g:=kk205) aa (fun iY Aj=>?_) (fun iY Aj=>?_))
   ·refine an aa iY (an aa iY (an aa iY (an aa iY (ai (aW aa iY aa ?_)))))
    refine ak 1 aa (an aa aa (an aa aa (an aa aa (an aa aa (ai (aW aa aa aa ?_))))))
    refine ak 1 aa (an aa aa (an aa aa (an aa aa (an aa aa (an aa aa (ai (aW aa aa aa ?_)))))))
    exact bn (cg aa aa (aj (af 1 aa (ay (aE aa aa ⟨false,aa,iE⟩)))))
   refine aq aa iY (bL aa ?_)
   refine aq aa iY (bJ aa aa aa ?_)
   obtain⟨wx39_1,G,hnx39_1,U⟩:=Ty.au XS
   refine aq aa iY (bu aa G ?_)
   refine aq aa iY (en aa aa ?_)
   refine ai (bd aa iY aa ?_)
   refine ak 1 aa (bZ (g:=YY) aa (fun jH GS=>?_) (fun jH GS=>?_))
   ·refine an aa jH (an aa jH (an aa jH (an aa jH (ai (aW aa jH aa ?_)))))
    refine ak 1 aa (an aa aa (an aa aa (an aa aa (an aa aa (an aa aa (ai (aW aa aa aa ?_)))))))
    exact bn (cg aa aa (aj (af 1 aa (ay (aE aa aa ⟨false,aa,iE⟩)))))
   refine aq aa jH (bL aa ?_)
   refine aq aa jH (bJ aa aa aa ?_)
   refine aq aa jH (aY aa (aV aa) (EX F G ae U) (fun r43 _ F9=>?_))
   obtain⟨PN,rfl,DU⟩:=F9
   obtain⟨by43_0,rfl⟩:=Ty.bQ DU
   refine aq aa jH (eQ aa ?_)
   refine ai (bd aa jH aa ?_)
   refine ak 1 aa (e6 (g:=YZ) aa (fun fH=>?_) (fun fH=>?_))
   ·refine an aa fH (an aa fH (an aa fH (an aa fH (an aa fH (ai (aW aa fH aa ?_))))))
    exact bn (cg aa aa (aj (af 1 aa (ay (aE aa aa ⟨false,aa,iE⟩)))))
   refine aq aa fH (iw aa aa (aX aa) (aX aa) ?_)
   refine aq aa fH (bL aa ?_)
   refine aq aa fH (bJ aa aa aa ?_)
   refine aq aa fH (aY aa (aV aa) (IS F (aJ ax) (au J ae du) (au cO ae cK) (au eC ae ef) (au cT ae dc) (au G ae U)) (fun r45 _ Rk=>?_))
   obtain⟨ZD,rfl,N3⟩:=Rk
   obtain⟨by45_0,rfl⟩:=Ty.bQ N3
   refine aq aa fH (eQ aa ?_)
   refine ai (bd aa fH aa ?_)
   refine bn (db aa (fun qW=>?_) (fun qW=>?_))
   ·exact aj (af 1 aa (ay (aE aa aa ⟨false,aa,iE⟩)))
   refine aG (aS (ak 1 aa (ai (br aa aa ae ae ?_))))
   exact af 1 aa (⟨((eU.length:Int) -((O+1))).toNat,ae,(O+1),ae,aa,⟨aa,aa,aa,aa,aa,aa,aa,aa,aa,trivial⟩,⟨aa,trivial⟩⟩)
  refine an aa pP (an aa pP (an aa pP (ai (bd aa pP aa ?_))))
  refine ak 1 aa (aq aa aa (bL aa ?_))
  refine aq aa aa (bJ aa aa aa ?_)
  obtain⟨wx39_1,G,hnx39_1,U⟩:=Ty.au XS
  refine aq aa aa (bu aa G ?_)
  refine aq aa aa (en aa aa ?_)
  refine ai (bd aa aa aa ?_)
  refine ak 1 aa (bZ (g:=YY) aa (fun oS Sw=>?_) (fun oS Sw=>?_))
  ·refine an aa oS (an aa oS (an aa oS (an aa oS (ai (aW aa oS aa ?_)))))
   refine ak 1 aa (an aa aa (an aa aa (an aa aa (an aa aa (an aa aa (ai (aW aa aa aa ?_)))))))
   exact bn (cg aa aa (aj (af 1 aa (ay (aE aa aa ⟨false,aa,iE⟩)))))
  refine aq aa oS (bL aa ?_)
  refine aq aa oS (bJ aa aa aa ?_)
  refine aq aa oS (aY aa (aV aa) (EX F G ae U) (fun r48 _ hp48=>?_))
  obtain⟨y48_0,rfl,hy48_0⟩:=hp48
  obtain⟨by48_0,rfl⟩:=Ty.bQ hy48_0
  refine aq aa oS (eQ aa ?_)
  refine ai (bd aa oS aa ?_)
  refine ak 1 aa (e6 (g:=YZ) aa (fun oV=>?_) (fun oV=>?_))
  ·refine an aa oV (an aa oV (an aa oV (an aa oV (an aa oV (ai (aW aa oV aa ?_))))))
   exact bn (cg aa aa (aj (af 1 aa (ay (aE aa aa ⟨false,aa,iE⟩)))))
  refine aq aa oV (iw aa aa (aX aa) (aX aa) ?_)
  refine aq aa oV (bL aa ?_)
  refine aq aa oV (bJ aa aa aa ?_)
  refine aq aa oV (aY aa (aV aa) (IS F (aJ ax) (au J ae du) (au cO ae cK) (au eC ae ef) (au cT ae dc) (au G ae U)) (fun r50 _ hp50=>?_))
  obtain⟨y50_0,rfl,hy50_0⟩:=hp50
  obtain⟨by50_0,rfl⟩:=Ty.bQ hy50_0
  refine aq aa oV (eQ aa ?_)
  refine ai (bd aa oV aa ?_)
  refine bn (db aa (fun h51=>?_) (fun h51=>?_))
  ·exact aj (af 1 aa (ay (aE aa aa ⟨false,aa,iE⟩)))
  refine aG (aS (ak 1 aa (ai (br aa aa ae ae ?_))))
  exact af 1 aa (⟨((eU.length:Int) -((O+1))).toNat,ae,(O+1),ae,aa,⟨aa,aa,aa,aa,aa,aa,aa,aa,aa,trivial⟩,⟨aa,trivial⟩⟩)
 exact bV (aj (af 1 aa (ay (aE aa aa ⟨true,aa,iE⟩))))
theorem CreateSC{T:bC}(F:FT T){a0 a1 a2 a3 a4 a5:DC}(cV:(Ty.s 1000).ok a0){dn:List (List DC)}(A:aR dn a1)(fS:dn.length≤100)(M:aH eB dn)(dE:(Ty.l 200 cl).ok a2)(dk:(Ty.l 4 fu).ok a3)(dg:(Ty.l 4 ez).ok a4)(dm:tJ.ok a5):Sound T 107 [.agg [.d a0,.d a1,.d a2,.d a3,.d a4],.d a5] fun r=>∃(y0:DC)(y1:DC)(I:List (List DC))(y3:DC)(y4:DC)(y5:DC)(y6:Int),r= .tuple [.agg [.d y0,.d y1,.d y3,.d y4,.d y5],.d (dJ y6)]∧(Ty.s 1000).ok y0∧aR I y1∧(I.length:Int)≤1∧aH eB I∧(Ty.l 200 cl).ok y3∧(Ty.l 4 fu).ok y4∧(Ty.l 4 ez).ok y5∧(0≤y6∧y6≤100∧(y6=0→1≤(I.length:Int)∧jP I.length I)):=by
 refine ch F.q107 aa ?_
 obtain⟨hY,rfl,kD⟩:=Ty.aJ cV
 obtain⟨cu,O,et,U⟩:=Ty.au dE
 obtain⟨e5,Y,iS,Z⟩:=Ty.au dk
 obtain⟨eU,cT,fo,dc⟩:=Ty.au dg
 obtain⟨bH,rfl,pC,pD⟩:=Ty.az dm
 refine aj (af 3 aa (aA (aj (ak 3 aa (bZ (g:=qM) aa (fun h1 g1=>?_) (fun h1 g1=>?_))))))
 ·refine an aa h1 (an aa h1 (ai (aW aa h1 aa ?_)))
  refine bn (cg aa aa (aj (af 3 aa (ay ?_))))
  exact aE rfl rfl ⟨(al []),.nil,[],.nil,.nil,.nil,1,rfl,(aJ (s:=[]) aD),(.inr ⟨rfl,rfl⟩),ae,bN,bl,bl,bl,⟨ae,ae,(by first|(intro p;exact absurd p aD)|(intro p;exact⟨(by simp),Bq kd kb⟩))⟩⟩
 refine aq aa h1 (bf aa ?_)
 refine aq aa h1 (jr aa aa ?_)
 refine ai (bd aa h1 aa ?_)
 refine bn (aN aa (fun h2 g2=>?_) (fun h2 g2=>?_))
 ·refine aj (af 3 aa (ay ?_))
  exact aE rfl rfl ⟨(al []),.nil,[],.nil,.nil,.nil,1,rfl,(aJ (s:=[]) aD),(.inr ⟨rfl,rfl⟩),ae,bN,bl,bl,bl,⟨ae,ae,(by first|(intro p;exact absurd p aD)|(intro p;exact⟨(by simp),Bq kd kb⟩))⟩⟩
 refine aG (aA (aj (ak 1 aa (ai (aY aa (aV aa) (UE F (aJ ax) A ae M (au O ae U) (au Y ae Z) (au cT ae dc)) (fun r3 _ fv=>?_))))))
 obtain⟨iG,rfl,kx⟩:=fv
 refine ak 2 aa (e6 (g:=rU) aa (fun J=>?_) (fun J=>?_))
 ·refine an aa J (an aa J (an aa J (an aa J (ai (aW aa J aa ?_)))))
  refine ak 1 aa (an aa aa (an aa aa (an aa aa (an aa aa (an aa aa (an aa aa (an aa aa (ai (aW aa aa aa ?_)))))))))
  refine bn (cg aa aa (aj (af 3 aa (ay ?_))))
  exact aE rfl rfl ⟨(al []),.nil,[],.nil,.nil,.nil,18,rfl,(aJ (s:=[]) aD),(.inr ⟨rfl,rfl⟩),ae,bN,bl,bl,bl,⟨ae,ae,(by first|(intro p;exact absurd p aD)|(intro p;exact⟨(by simp),Bq kd kb⟩))⟩⟩
 have k4:=kx (by simpa using J)
 refine aq aa J (bL aa ?_)
 refine aq aa J (bJ aa aa aa ?_)
 refine aq aa J (bu aa A ?_)
 refine aq aa J (eR aa aa ?_)
 refine ai (bd aa J aa ?_)
 refine ak 1 aa (bZ (g:=tv) aa (fun z g5=>?_) (fun z g5=>?_))
 ·refine an aa z (an aa z (an aa z (an aa z (an aa z (an aa z (an aa z (ai (aW aa z aa ?_))))))))
  refine bn (cg aa aa (aj (af 3 aa (ay ?_))))
  exact aE rfl rfl ⟨(al []),.nil,[],.nil,.nil,.nil,18,rfl,(aJ (s:=[]) aD),(.inr ⟨rfl,rfl⟩),ae,bN,bl,bl,bl,⟨ae,ae,(by first|(intro p;exact absurd p aD)|(intro p;exact⟨(by simp),Bq kd kb⟩))⟩⟩
 refine aq aa z (bL aa ?_)
 refine aq aa z (bJ aa aa aa ?_)
 obtain⟨r6,gO,gP⟩:=bR 0 M
 obtain⟨tP,zk,K,rfl,mg,yg,qn⟩:=c4 gP
 refine aq aa z (bo aa aa A ae gO aa ?_)
 refine aq aa z (eL aa ?_)
 refine aq aa z (eL aa ?_)
 refine aq aa z (cF aa aa ?_)
 obtain⟨yo,rfl,IN,IP⟩:=Ty.az mg
 refine aq aa z (eR aa aa ?_)
 refine ai (bd aa z aa ?_)
 refine bn (aN aa (fun h7 g7=>?_) (fun h7 g7=>?_))
 ·refine aj (af 3 aa (ay ?_))
  exact aE rfl rfl ⟨(al []),.nil,[],.nil,.nil,.nil,18,rfl,(aJ (s:=[]) aD),(.inr ⟨rfl,rfl⟩),ae,bN,bl,bl,bl,⟨ae,ae,(by first|(intro p;exact absurd p aD)|(intro p;exact⟨(by simp),Bq kd kb⟩))⟩⟩
 refine aG (aj (ak 4 aa (ai (bo aa aa A ae gO aa ?_))))
 refine ak 2 aa ?_
 obtain⟨wx6_2,G,hnx6_2,L⟩:=Ty.au qn
 have kd:=G
 have kb:=jP.get (And.right lr) (o9 _) gO rfl kd
 refine ak 3 aa ?_
 have oP:aH eB [[(dJ bH),(dJ 1099511627776),K]]:=(cY (ao ah (ao ah (ao (au G ae L) bm))) bN)
 refine eV 40 40 aa aa (fun _=>⟨aa,aa⟩) (af 1 aa (aj (af 3 aa (ay ?_))))
 exact aE rfl rfl ⟨(al hY),(.sl [[(dJ bH),(dJ 1099511627776),K]]),[[(dJ bH),(dJ 1099511627776),K]],a2,a3,a4,0,rfl,(aJ ax),(.inl rfl),hH,oP,(au O ae U),(au Y ae Z),(au cT ae dc),⟨ae,ae,(by first|(intro p;exact absurd p aD)|(intro p;exact⟨(by simp),Bq kd kb⟩))⟩⟩
end Go.Ev.Rp
namespace Go.Ev.Rp
open Go Go.Ev.Pp
theorem ZM{T:bC}(F:FT T){a0 a1 a2 a3 a4 a5:DC}(cV:(Ty.s 1000).ok a0){z:List (List DC)}(A:aR z a1)(fS:z.length≤100)(J:aH eB z)(dE:(Ty.l 200 cl).ok a2)(dk:(Ty.l 4 fu).ok a3)(dg:(Ty.l 4 ez).ok a4)(dm:tJ.ok a5):Sound T 109 [.agg [.d a0,.d a1,.d a2,.d a3,.d a4],.d a5] fun r=>∃(y0:DC)(y1:DC)(y2:DC)(K:List (List DC))(y4:Bool),r= .tuple [.agg [.d y0,.d y1,.d y2],dB y4]∧tJ.ok y0∧tJ.ok y1∧aR K y2∧(K.length:Int)≤12∧aH mo K∧(y4=true→1≤(z.length:Int)):=by
 refine ch F.q109 aa ?_
 obtain⟨hY,rfl,kD⟩:=Ty.aJ cV
 obtain⟨cu,Z,et,cK⟩:=Ty.au dE
 obtain⟨e5,eC,iS,ef⟩:=Ty.au dk
 obtain⟨eU,cT,fo,dc⟩:=Ty.au dg
 obtain⟨bH,rfl,pC,pD⟩:=Ty.az dm
 refine aj (af 3 aa (aA (aj (ak 1 aa (ai (aY aa (aV aa) (UE F (aJ ax) A ae J (au Z ae cK) (au eC ae ef) (au cT ae dc)) (fun r1 _ dh=>?_)))))))
 obtain⟨dV,rfl,L⟩:=dh
 refine ak 2 aa (e6 (g:=ts) aa (fun h2=>?_) (fun h2=>?_))
 ·refine an aa h2 (an aa h2 (ai (aW aa h2 aa ?_)))
  exact bn (cg aa aa (aj (af 3 aa (ay (aE aa aa ⟨i0,i0,.nil,[],false,aa,ah,ah,(.inr ⟨aa,aa⟩),ae,bN,Pl⟩)))))
 have k2:=L (by simpa using h2)
 refine aq aa h2 (bf aa ?_)
 refine aq aa h2 (jr aa aa ?_)
 refine ai (bd aa h2 aa ?_)
 refine bn (aN aa (fun h3 g3=>?_) (fun h3 g3=>?_))
 ·exact aj (af 3 aa (ay (aE aa aa ⟨i0,i0,.nil,[],false,aa,ah,ah,(.inr ⟨aa,aa⟩),ae,bN,Pl⟩)))
 refine aG (aj (ak 4 aa (ai (bu aa A ?_))))
 refine ai (eb aa aa ae ae ?_)
 obtain⟨r4,eg,eZ⟩:=bR ((z.length:Int) -1) J
 obtain⟨jw,mr,oG,rfl,M,O,U⟩:=c4 eZ
 refine ai (bo aa aa A ae eg aa ?_)
 obtain⟨Y,p,Nf,I⟩:=Ty.au U
 have kb:=jP.get (And.right lr) (o9 _) eg rfl p
 refine af 3 aa (cN ?_)
 obtain⟨G,rfl,rl,rm⟩:=Ty.az M
 exact cP 8 aa (ay (aE aa aa ⟨(dJ G),mr,oG,Y,decide (G≤bH),aa,ah,O,p,ae,I,Pl⟩))
theorem EZ{T:bC}(F:FT T){a0 a1 a2 a3 a4 a5:DC}(cV:(Ty.s 1000).ok a0)(da:(Ty.l 100 eB).ok a1)(dE:(Ty.l 200 cl).ok a2)(dk:(Ty.l 4 fu).ok a3)(dg:(Ty.l 4 ez).ok a4){A:List (List DC)}(fq:aR A a5)(nN:A.length≤100000)(fi:aH gf A):Sound T 83 [.agg [.d a0,.d a1,.d a2,.d a3,.d a4,.d a5]] fun r=>∃(y0:DC)(L:List (List DC)),r= .d y0∧aR L y0∧(L.length:Int)≤A.length∧aH jv L∧0≤(L.length:Int)∧(L=[]→y0= .nil):=by
 refine ch F.q83 aa ?_
 obtain⟨hY,rfl,kD⟩:=Ty.aJ cV
 obtain⟨dn,eI,fS,du⟩:=Ty.au da
 obtain⟨cu,cO,et,cK⟩:=Ty.au dE
 obtain⟨e5,eC,iS,ef⟩:=Ty.au dk
 obtain⟨eU,cT,fo,dc⟩:=Ty.au dg
 refine aj (af 2 aa (aj (af 1 aa (aA (aj (af 1 aa (bj (ki 3 90 215 64 4 aa aa (cb (fun k VE B=>∃(p:Int)(z:List (List DC)),(0≤p∧(p≤(A.length:Int)∨p=0))∧((z.length:Int)≤p)∧(aH jv z)∧k=((A.length:Int) -p).toNat∧aT [(0,.agg [dS hY,.d a1,.d a2,.d a3,.d a4,.d a5]),(1,.vp 1 0),(2,dN),(3,.ac 90 z.length 4),(4,.d (dJ p))] VE∧aT [(1,.one 43 136 [dS hY,.d a1,.d a2,.d a3,.d a4,.d a5]),(90,.acc 215 64 4 z)] B) ?_ (k:=((A.length:Int) -0).toNat) ⟨0,[],ae,cn,bN,aa,⟨aa,aa,aa,aa,aa,trivial⟩,⟨aa,aa,trivial⟩⟩)))))))))
 rintro _ VE B⟨p,z,c9,fr,G,rfl,hV,hB⟩
 refine bz _ _ hV hB (aA (aj (ak 3 aa (ai (bu aa fq ?_)))))
 refine af 1 aa (aN aa (fun h1 g1=>?_) (fun h1 g1=>?_))
 ·refine aG (aA (bj (aj (ak 3 aa ?_))))
  obtain⟨r2,dj,dA⟩:=bR p fi
  obtain⟨fR,fh,gn,lu,oE,se,rfl,ig,ij,iP,gC,kr,ov⟩:=fe dA
  refine ai (bo aa aa fq ae dj aa ?_)
  refine af 3 aa (aj ?_)
  obtain⟨Pr,rfl,Nb,Nc⟩:=Ty.az ov
  refine af 4 aa (aN aa (fun h3 g3=>?_) (fun h3 g3=>?_))
  ·refine fB (aP 5 aa (bP aa (aY aa (aV aa) (widthC F (aJ ax) (au eI ae du) (au cO ae cK) (au eC ae ef) (au cT ae dc)) (fun r4 _ eo=>?_))))
   obtain⟨fk,rfl,mN⟩:=eo
   obtain⟨ED,O,DN,U⟩:=Ty.au ij
   obtain⟨zy4_0,rfl,NF,NG⟩:=Ty.az mN
   refine bP aa (aY aa (aV aa) (abx F O ae U ah) (fun r5 _ dL=>?_))
   obtain⟨M,mO,rfl,Y,vk,Z,vl,ru⟩:=dL
   obtain⟨I,rfl,AZ,xI⟩:=Ty.az ig
   refine aP 5 aa ?_
   have n5:aH cl [[(dJ I)]]:=(cY (ao ah bm) bN)
   refine vq_frz 33 33 aa aa (fun _=>⟨aa,aa⟩) ?_
   obtain⟨J,rfl,xJ,xK⟩:=Ty.az iP
   obtain⟨K,rfl,Xc,Xd⟩:=Ty.az gC
   refine aP 2 aa ?_
   refine bP rfl (cr (rows:=z) (ys:=[[M,(dJ J),(dJ K),(.sl [[(dJ I)]])]]) rfl rfl rfl (.bs (rows:=[[M,(dJ J),(dJ K),(.sl [[(dJ I)]])]]) rfl) aD ae (fun h=>by rw[h];rfl) (fun h=>by rw[h];rfl) ?_)
   refine cP 1 aa (aS (ak 1 aa (ai (br aa aa ae ae ?_))))
   exact af 1 aa (⟨((A.length:Int) -((p+1))).toNat,ae,(p+1),(z++[[M,(dJ J),(dJ K),(.sl [[(dJ I)]])]]),ae,cn,(bS G (bX (ao (au Y ae Z) (ao ah (ao ah (ao (au (.inl aa) ae n5) bm)))))),aa,⟨aa,aa,aa,aa,aa,trivial⟩,⟨aa,aa,trivial⟩⟩)
  refine aG (aS (ak 1 aa (ai (br aa aa ae ae ?_))))
  exact af 1 aa (⟨((A.length:Int) -((p+1))).toNat,ae,(p+1),z,ae,ae,G,aa,⟨aa,aa,aa,aa,aa,trivial⟩,⟨aa,aa,trivial⟩⟩)
 refine bV (aj (af 2 aa (fm 2 90 aa aa (fun _=>⟨aa,aa⟩) (ay ?_))))
 exact aE rfl rfl ⟨(.cS z),z,rfl,(.acc _),ae,G,ae,(fun h=>by rw[h];rfl)⟩
theorem Le{T:bC}(F:FT T){a0 a1 a2:DC}{I:List (List DC)}(L:aR I a0)(ed:I.length≤1000000000)(cW:aH jv I){dn:List (List DC)}(eI:aR dn a1)(fS:dn.length≤1000000000)(du:aH cl dn){cu:List (List DC)}(cO:aR cu a2)(et:cu.length≤1000000000)(cK:aH ee cu):Sound T 126 [.d a0,.d a1,.d a2] fun r=>∃(y0:DC)(U:List (List DC)),r= .d y0∧aR U y0∧(U.length:Int)≤I.length∧aH jv U∧0≤(U.length:Int)∧(U=[]→y0= .nil):=by
 refine ch F.q126 aa (aj (af 1 aa (aj (af 1 aa (aA (aj (af 1 aa (bj (ki 7 90 215 64 4 aa aa ?_)))))))))
 refine cb (fun k VE B=>∃(p:Int)(z:List (List DC)),(0≤p∧(p≤(I.length:Int)∨p=0))∧((z.length:Int)≤p)∧(aH jv z)∧k=((I.length:Int) -p).toNat∧aT [(0,.d a0),(1,.d a1),(2,.d a2),(6,dN),(7,.ac 90 z.length 4),(8,.d (dJ p))] VE∧aT [(90,.acc 215 64 4 z)] B) ?_ (k:=((I.length:Int) -0).toNat) ⟨0,[],ae,cn,bN,aa,⟨aa,aa,aa,aa,aa,aa,trivial⟩,⟨aa,trivial⟩⟩
 rintro _ VE B⟨p,z,c9,fr,A,rfl,hV,hB⟩
 refine bz _ _ hV hB (aA (aj (ak 2 aa (ai (bu aa L ?_)))))
 refine af 1 aa (aN aa (fun h1 g1=>?_) (fun h1 g1=>?_))
 ·refine aG (aA (bj (aj (ak 2 aa ?_))))
  obtain⟨r2,dj,dA⟩:=bR p cW
  obtain⟨Y,fh,gn,Z,rfl,ig,ij,iP,gC⟩:=vg dA
  refine ai (bo aa aa L ae dj aa ?_)
  refine ak 2 aa (ai (aY aa (aV aa) (sX F ij iP) (fun r3 _ fv=>?_)))
  obtain⟨iG,rfl,kx⟩:=fv
  obtain⟨EV,rfl⟩:=Ty.bQ kx
  refine ak 1 aa (e6 (g:=ow) aa (fun G=>?_) (fun G=>?_))
  ·refine aq aa G (bf aa ?_)
   refine aq aa G (bf aa ?_)
   refine aq aa G (bo aa aa L ae dj aa ?_)
   refine aq aa G (eL aa ?_)
   refine aq aa G (cF aa aa ?_)
   refine aq aa G (bf aa ?_)
   obtain⟨wx2_0,M,hnx2_0,O⟩:=Ty.au ig
   refine aq aa G (aY aa (aV aa) (ZI F M ae O eI ae du) (fun r5 _ dL=>?_))
   obtain⟨il,mO,rfl,ry,vk,qe,vl,ru⟩:=dL
   refine aq aa G (bf aa ?_)
   refine aq aa G (aY aa (aV aa) (PC F (au ry ae qe) (au cO ae cK)) (fun r6 _ iW=>?_))
   obtain⟨oH,rfl,rG⟩:=iW
   obtain⟨JQ,rfl,Og,Oh⟩:=Ty.az rG
   refine aq aa G (en aa aa ?_)
   refine ai (aW aa G aa ?_)
   refine bn (aN aa (fun h7 g7=>?_) (fun h7 g7=>?_))
   ·refine aS (ak 3 aa (ai (bo aa aa L ae dj aa ?_)))
    obtain⟨J,rfl,xM,xN⟩:=Ty.az ij
    obtain⟨K,rfl,xJ,xK⟩:=Ty.az iP
    obtain⟨Y',Nv,Xp,Nw⟩:=Ty.au gC
    refine ak 2 aa ?_
    refine ai (cr (rows:=z) (ys:=[[Y,(dJ J),(dJ K),Z]]) rfl rfl rfl (.bs (rows:=[[Y,(dJ J),(dJ K),Z]]) rfl) aD ae (fun h=>by rw[h];rfl) (fun h=>by rw[h];rfl) ?_)
    refine af 1 aa (aS (ak 1 aa (ai (br aa aa ae ae ?_))))
    exact af 1 aa (⟨((I.length:Int) -((p+1))).toNat,ae,(p+1),(z++[[Y,(dJ J),(dJ K),Z]]),ae,cn,(bS A (bX (ao (au M ae O) (ao ah (ao ah (ao (au Nv ae Nw) bm)))))),aa,⟨aa,aa,aa,aa,aa,aa,trivial⟩,⟨aa,trivial⟩⟩)
   refine aG (aS (ak 1 aa (ai (br aa aa ae ae ?_))))
   exact af 1 aa (⟨((I.length:Int) -((p+1))).toNat,ae,(p+1),z,ae,ae,A,aa,⟨aa,aa,aa,aa,aa,aa,trivial⟩,⟨aa,trivial⟩⟩)
  refine an aa G (an aa G (an aa G (an aa G (an aa G (an aa G (an aa G (an aa G (an aa G (an aa G ?_)))))))))
  refine ai (bd aa G aa ?_)
  refine bn (cH aa aa (aG (aS (ak 1 aa (ai (br aa aa ae ae ?_))))))
  exact af 1 aa (⟨((I.length:Int) -((p+1))).toNat,ae,(p+1),z,ae,ae,A,aa,⟨aa,aa,aa,aa,aa,aa,trivial⟩,⟨aa,trivial⟩⟩)
 refine bV (aj (af 2 aa (fm 6 90 aa aa (fun _=>⟨aa,aa⟩) (ay ?_))))
 exact aE rfl rfl ⟨(.cS z),z,rfl,(.acc _),ae,A,ae,(fun h=>by rw[h];rfl)⟩
theorem PQ{T:bC}(F:FT T){a0 a1:DC}{K:List (List DC)}(M:aR K a0)(ed:K.length≤1000000)(cW:aH jv K)(da:tJ.ok a1):Sound T 128 [.d a0,.d a1] fun r=>∃(y0:DC)(y1:DC)(O:List (List DC)),r= .tuple [.d y0,.d y1]∧tJ.ok y0∧aR O y1∧(O.length:Int)≤1000000000∧aH cl O∧0≤(O.length:Int)∧(O=[]→y1= .nil):=by
 refine ch F.q128 aa ?_
 obtain⟨aB,rfl,eS,eT⟩:=Ty.az da
 refine aj (af 2 aa (aj (af 1 aa (aj (af 1 aa (aA (aj (af 1 aa (bj ?_)))))))))
 refine cb (fun k VE B=>∃(A:Int)(G:DC)(z:List (List DC))(p:Int),(0≤A∧A≤p)∧(aR z G)∧((z.length:Int)≤200*p)∧(aH cl z)∧(z=[]→G= .nil)∧(0≤p∧(p≤(K.length:Int)∨p=0))∧k=((K.length:Int) -p).toNat∧aT [(0,.d a0),(1,.d (dJ aB)),(4,.d i0),(5,dN),(6,.d (dJ A)),(7,.d G),(8,.d (dJ p))] VE∧aT [] B) ?_ (k:=((K.length:Int) -0).toNat) ⟨0,DC.nil,[],0,ae,(.inr ⟨aa,aa⟩),ae,bN,(fun _=>aa),ae,aa,⟨aa,aa,aa,aa,aa,aa,aa,trivial⟩,trivial⟩
 rintro _ VE B⟨A,G,z,p,c9,I,wC,J,L,QY,rfl,hV,hB⟩
 refine bz _ _ hV hB (aA (aj (ak 2 aa (ai (bu aa M ?_)))))
 refine af 1 aa (aN aa (fun h1 g1=>?_) (fun h1 g1=>?_))
 ·refine aG (aA (bj (aj (ak 2 aa ?_))))
  obtain⟨r2,dj,dA⟩:=bR p cW
  obtain⟨fR,fh,gn,lu,rfl,ig,ij,iP,gC⟩:=vg dA
  refine ai (bo aa aa M ae dj aa ?_)
  refine ak 3 aa (ai (aY aa (aV aa) (inclC F ij iP ah) (fun r3 _ fv=>?_)))
  obtain⟨iG,rfl,kx⟩:=fv
  refine bn ?_
  obtain⟨EV,rfl⟩:=Ty.bQ kx
  refine db aa (fun h4=>?_) (fun h4=>?_)
  ·refine aj (ak 1 aa (ai (br aa aa ae ae ?_)))
   refine af 1 aa (aS (ak 3 aa (ai (bo aa aa M ae dj aa ?_))))
   refine ak 2 aa ?_
   obtain⟨Y',U,Xp,Y⟩:=Ty.au gC
   refine ai (aY aa (aV aa) (vm F I ae J U ae Y) (fun r5 _ dL=>?_))
   obtain⟨il,mO,rfl,Z,vk,qe,vl,ru⟩:=dL
   refine af 1 aa (aS (ak 1 aa (ai (br aa aa ae ae ?_))))
   exact af 1 aa (⟨((K.length:Int) -((p+1))).toNat,ae,(A+1),il,mO,(p+1),ae,Z,ae,qe,ru,ae,aa,⟨aa,aa,aa,aa,aa,aa,aa,trivial⟩,trivial⟩)
  refine aG (aS (ak 1 aa (ai (br aa aa ae ae ?_))))
  exact af 1 aa (⟨((K.length:Int) -((p+1))).toNat,ae,A,G,z,(p+1),ae,I,ae,J,L,ae,aa,⟨aa,aa,aa,aa,aa,aa,aa,trivial⟩,trivial⟩)
 exact bV (aj (af 4 aa (ay (aE aa aa ⟨(dJ A),G,z,aa,ah,I,ae,J,ae,L⟩))))
theorem V7{T:bC}(F:FT T){a0 a1 a2:DC}{K:List (List DC)}(O:aR K a0)(ed:K.length≤1000000000)(M:aH ee K){Y:List (List DC)}(eI:aR Y a1)(fS:Y.length≤200)(du:aH ji Y){I:List (List DC)}(U:aR I a2)(et:I.length≤1000000000)(cK:aH fK I):Sound T 216 [.d a0,.d a1,.d a2] fun r=>∃(y0:DC)(Z:List (List DC)),r= .d y0∧aR Z y0∧(Z.length:Int)≤1000000000∧aH ee Z:=by
 refine ch F.q216 aa (aj (af 1 aa (aj (ak 1 aa (ai (iK (ys:=K) 11 aa aa aa aa aa (.sD O (el M aa)) aD ae ?_))))))
 refine af 1 aa (aA (aj (ak 1 aa (ai (bu aa U ?_)))))
 refine af 1 aa (bj (cb (fun k VE B=>∃(p:Int)(J:Nat)(A:List (List DC)),(0≤p∧(p≤(I.length:Int)∨p=0))∧(A.length=J)∧(J=(K).length)∧(aH ee A)∧k=((I.length:Int) -p).toNat∧aT [(0,.d a0),(1,.d a1),(2,.d a2),(6,dN),(7,.ac 11 J 3),(12,.d a2),(13,.d (dJ (I.length:Int))),(14,.d (dJ p))] VE∧aT [(11,.acc 95 32 3 A)] B) ?_ (k:=((I.length:Int) -0).toNat) ⟨0,((K).length),K,ae,gG,ae,M,aa,⟨aa,aa,aa,aa,aa,aa,aa,aa,trivial⟩,⟨aa,trivial⟩⟩))
 rintro _ VE B⟨p,J,A,c9,rfl,wC,G,rfl,hV,hB⟩
 refine bz _ _ hV hB (aj (af 1 aa (aA (aN aa (fun h1 g1=>?_) (fun h1 g1=>?_)))))
 ·refine aG (aA (bj (aj ?_)))
  obtain⟨r2,dj,dA⟩:=bR p cK
  obtain⟨fR,fh,rfl,ig,ij⟩:=fc dA
  refine ai (bo aa aa U ae dj aa ?_)
  refine af 3 aa (aj ?_)
  obtain⟨qm,rfl,AZ,xI⟩:=Ty.az ig
  refine ak 4 aa (bZ (g:=ow) aa (fun L g3=>?_) (fun L g3=>?_))
  ·refine aq aa L (bL aa ?_)
   refine aq aa L (bJ aa aa aa ?_)
   refine aq aa L (bf aa ?_)
   refine aq aa L (Vz aa ?_)
   refine aq aa L (eH aa aa ?_)
   refine ai (aW aa L aa ?_)
   refine bn (aN aa (fun h4 g4=>?_) (fun h4 g4=>?_))
   ·refine fB (aP 7 aa (bP aa (aY aa (aV aa) (ZE F eI ae du ij O ae M) (fun r5 _ dL=>?_))))
    obtain⟨il,y5_1,y5_2,rfl,jS,hy5_1,hy5_2⟩:=dL
    obtain⟨j6,An,sE⟩:=cE (z:=qm) (n:=A.length) ae ae
    obtain⟨r6,gO,gP⟩:=dX sE G
    obtain⟨tP,zk,Ci,rfl,mg,yg,qn⟩:=c4 gP
    refine aU (gk rfl (by rw[←An];rfl) sE ?_)
    refine oa aa (mC aa aa aa aa aa aa aD aD gO (fun w7 GX GY=>?_))
    have uG:aH ee w7:=by rw[GX];exact hZ G (ao jS (ao hy5_1 (ao hy5_2 bm)))
    rw[←GY]
    refine cU (aS (ai (br aa aa ae ae ?_)))
    exact af 1 aa (⟨((I.length:Int) -((p+1))).toNat,ae,(p+1),(w7.length),w7,ae,gG,ae,uG,aa,⟨aa,aa,aa,aa,aa,aa,aa,aa,trivial⟩,⟨aa,trivial⟩⟩)
   refine aG (aS (ai (br aa aa ae ae ?_)))
   exact af 1 aa (⟨((I.length:Int) -((p+1))).toNat,ae,(p+1),(A.length),A,ae,gG,ae,G,aa,⟨aa,aa,aa,aa,aa,aa,aa,aa,trivial⟩,⟨aa,trivial⟩⟩)
  refine an aa L (an aa L (an aa L (an aa L (an aa L (ai (bd aa L aa ?_))))))
  refine bn (cH aa aa (aG (aS (ai (br aa aa ae ae ?_)))))
  exact af 1 aa (⟨((I.length:Int) -((p+1))).toNat,ae,(p+1),(A.length),A,ae,gG,ae,G,aa,⟨aa,aa,aa,aa,aa,aa,aa,aa,trivial⟩,⟨aa,trivial⟩⟩)
 exact bV (aj (af 2 aa (fm 6 11 aa aa (fun _=>⟨aa,aa⟩) (ay (aE aa aa ⟨(.cS A),A,aa,(.acc _),ae,G⟩)))))
end Go.Ev.Rp
