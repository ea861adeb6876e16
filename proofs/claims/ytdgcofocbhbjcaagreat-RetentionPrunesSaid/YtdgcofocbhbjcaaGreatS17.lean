/- Part 17 of rules for walks through the code of a program, and of such walks; what each part proves is said by its theorems. -/
import Derived.Test.YtdgcofocbhbjcaaGreatS13
import Derived.Test.YtdgcofocbhbjcaaGreatS16
set_option linter.unusedVariables false
set_option linter.unusedSimpArgs false
noncomputable section
set_option maxRecDepth 100000
set_option maxHeartbeats 4000000
namespace Go.Ev.Rp
open Go Go.Ev.Pp
theorem pruneD0{T:bC}(F:FT T){g:Nat}{p z A G I:DC}:DQ T 20 [.k (.ptr g 1 0)] [(g,.one 29 96 [.d p,.d z,dN,.d A,.d G,.d I])] fun r fs=>fs=[(g,.one 29 96 [.d p,.d z,dN,.d A,.d G,.d I])]:=by
 refine LN F.q20 aa (rq (xr 2000 aa aa (AF (k:=0) (v':=.vp 2000 0) aa (fun H X β a K h=>IH (K 2000 g (.one 29 96 [.d p,.d z,dN,.d A,.d G,.d I]) aa trivial) h) (kO ?_))))
 refine AM (R:=fun x VE B fs=>fs=[]∧x= .normal∧aT [(2000,.ct g (.one 29 96 [.d p,.d z,dN,.d A,.d G,.d I]))] B) (pf ?_) ?_
 ·refine aj (af 1 aa (aj (ak 3 aa (ai (Hh aa aa aa ?_)))))
  refine ai (Dq aa ?_)
  refine af 1 aa (bj (cb (fun k VE B=>k=0∧aT [(8,.d i0),(9,.d i0)] VE∧aT [(2000,.ct g (.one 29 96 [.d p,.d z,dN,.d A,.d G,.d I]))] B) ?_ (k:=0) ⟨aa,⟨aa,aa,trivial⟩,⟨aa,trivial⟩⟩))
  rintro _ VE B⟨rfl,L,J⟩
  exact bz _ _ L J (aj (af 1 aa (aA (cH aa aa (bV (⟨aa,aa,⟨aa,trivial⟩⟩))))))
 rintro x VE B fs⟨rfl,rfl,J⟩
 refine re [] _ trivial J (xu (t:=.one 29 96 [.d p,.d z,dN,.d A,.d G,.d I]) 2000 aa trivial (aV aa) aa (kO ?_))
 exact⟨[],aa,trivial,aa⟩
theorem PruneC{T:bC}(F:FT T){nv mv:Nat}{A G a2 a4 a5:DC}{I:List (List DC)}(Z:aR I a2)(M:I.length≤16)(O:aH (fJ nv mv) I)(cV:tJ.ok A)(da:tJ.ok G){p:Int}(nX: -9223372036854775808≤p)(nY:p≤9223372036854775807){J:List (List DC)}(cT:aR J a4)(fo:J.length≤20)(U:aH fy J)(dm:(Ty.l 0 iR).ok a5)(my:nv≤99)(qR:mv≤100000):
  Sound T 16 [.agg [.d A,.d G,.d a2,.d (dJ p),.d a4,.d a5]] fun r=>∃y2 z W,r= .agg [.d A,.d G,.d y2,.d (dJ p),.d z,dN]∧aR W y2∧aR J z∧fL (ra p J) I W:=by
 refine ch F.q16 aa (vc_of_vd ?_)
 refine yj (af 2 aa (xP (LL ?_)))
 refine Zg 1 aa (LO aa (aV aa) (cloneD F Z M O cT ax U dm my qR) (fun r1 fs1 _ dh=>?_))
 obtain⟨y2,z,w2,wV,rfl,K,hO,hc⟩:=dh
 refine Zg 2 aa (Mq ?_)
 have hlen:=hO.len
 rcases hc with⟨rfl,rfl,rfl⟩|⟨gT,qN,rfl,rfl⟩
 ·have e0:I=[]:=List.length_eq_zero_iff.1 (by rw[hlen];rfl)
  subst e0
  simp only[gX] at hO
  subst hO
  refine rq (re [(2,.vp 2 0),(3,.vp 3 0)] [(2,.one 29 96 [.d i0,.d i0,dN,.d i0,dN,dN]),(3,.one 29 96 [.d A,.d G,dN,.d (dJ p),.d z,dN])] ⟨aa,aa,trivial⟩ ⟨aa,aa,trivial⟩ (VY 3 aa fun g=>AF (k:=3) (v':=.k (.ptr g 1 0)) aa (fun H X β a L h=>Xw (L 3 g (.one 29 96 [.d A,.d G,dN,.d (dJ p),.d z,dN]) aa trivial) h) (xu (t:=.one 29 96 [.d A,.d G,dN,.d (dJ p),.d z,dN]) 3 aa trivial (aV aa) aa (kO ?_))))
  refine xP (LL ?_)
  refine LO aa ⟨trivial,trivial⟩ (pruneD0 F) (fun r2 fs2 _ Y=>?_)
  subst Y
  refine Mq (rq (re [(2,.vp 2 0),(3,.k (.ptr g 1 0))] [(2,.one 29 96 [.d i0,.d i0,dN,.d i0,dN,dN])] ⟨aa,aa,trivial⟩ ⟨aa,trivial⟩ (xr 2000 aa aa (AF (k:=3) (v':=.vp 2000 0) aa (fun H X β a L h=>IH (L 2000 g (.one 29 96 [.d A,.d G,dN,.d (dJ p),.d z,dN]) aa trivial) h) (kO ?_)))))
  refine pf (aj (HG 2000 aa (af 2 aa (ay ?_))))
  exact aE rfl rfl ⟨.nil,z,[],rfl,.inr ⟨rfl,rfl⟩,K,rfl,fun q r r' h=>by simp at h⟩
 refine rq (re [(2,.vp 2 0),(3,.vp 3 0)] [(2,.one 29 96 [.d i0,.d i0,dN,.d i0,dN,dN]),(3,.one 29 96 [.d A,.d G,.d (.raw gT w2.length 6),.d (dJ p),.d z,dN])] ⟨aa,aa,trivial⟩ ⟨aa,aa,trivial⟩ (VY 3 aa fun g=>AF (k:=3) (v':=.k (.ptr g 1 0)) aa (fun H X β a L h=>Xw (L 3 g (.one 29 96 [.d A,.d G,.d (.raw gT w2.length 6),.d (dJ p),.d z,dN]) aa trivial) h) (xu (t:=.one 29 96 [.d A,.d G,.d (.raw gT w2.length 6),.d (dJ p),.d z,dN]) 3 aa trivial (aV aa) aa (kO ?_))))
 refine xP (LL ?_)
 refine LO aa ⟨trivial,trivial⟩ (pruneD F hO M O cV da nX nY K fo U qR) (fun r2 fs2 _ Y=>?_)
 obtain⟨W,hr,rfl⟩:=Y
 refine Mq (rq (re [(2,.vp 2 0),(3,.k (.ptr g 1 0))] [(2,.one 29 96 [.d i0,.d i0,dN,.d i0,dN,dN])] ⟨aa,aa,trivial⟩ ⟨aa,trivial⟩ (xr 2000 aa aa (xr 2002 aa aa (AF (k:=3) (v':=.vp 2000 0) aa (fun H X β a L h=>IH (L 2000 g (.one 29 96 [.d A,.d G,.d (.raw gT W.length 6),.d (dJ p),.d z,dN]) aa trivial) h) (kO ?_))))))
 exact pf (aj (HG 2000 aa (ak 1 aa (u7 7 (.agg [.d A,.d G,.bs 2002 W.length 6,.d (dJ p),.d z,dN]) aa (fun H X β a L h=>H6 (i:=2) aa (fun _=>DR (L 2002 gT (.arr 43 136 6 W.length W) aa trivial)) h) (HG 2002 aa (eV 7 2002 aa aa ⟨trivial,trivial,(fun _=>⟨aa,aa⟩),trivial,trivial,trivial,trivial⟩ (af 1 aa (ay (aE aa aa ⟨.sl W,z,W,aa,.inl aa,K,hr⟩)))))))))
end Go.Ev.Rp
namespace Go.Ev.Rp
open Go Go.Ev.Pp
theorem BB{T:bC}(F:FT T){M Z:DC}{z:List (List DC)}(A:aR z M)(ed:z.length≤1000000000)(J:aH cl z)(O:tJ.ok Z):Sound T 79 [.d M,.d Z] fun r=>∃y0,r= .d y0∧(Ty.b).ok y0:=by
 refine ch F.q79 aa ?_
 obtain⟨aB,rfl,eS,eT⟩:=Ty.az O
 refine aj (af 1 aa (aA (aj (af 1 aa (bj (cb (fun k VE B=>∃(p:Int),(0≤p∧(p≤(z.length:Int)∨p=0))∧k=((z.length:Int) -p).toNat∧aT [(0,.d M),(1,.d (dJ aB)),(4,dB false),(5,.d (dJ p))] VE∧aT [] B) ?_ (k:=((z.length:Int) -0).toNat) ⟨0,ae,aa,⟨aa,aa,aa,aa,trivial⟩,trivial⟩))))))
 rintro _ VE B⟨p,c9,rfl,hV,hB⟩
 refine bz _ _ hV hB (aA (aj (ak 2 aa (ai (bu aa A ?_)))))
 refine af 1 aa (aN aa (fun h1 g1=>?_) (fun h1 g1=>?_))
 ·refine aG (aA (bj (aj (ak 2 aa ?_))))
  obtain⟨r2,U,G⟩:=bR p J
  obtain⟨fR,_,rfl,I,G⟩:=b0 G
  obtain rfl:=dy G
  refine ai (bo aa aa A ae U aa ?_)
  obtain⟨Y,rfl,K,L⟩:=Ty.az I
  refine af 3 aa (aN aa (fun h3 g3=>?_) (fun h3 g3=>?_))
  ·exact aj (af 1 aa (ay (aE aa aa ⟨(.b true),aa,bQ⟩)))
  refine aG (aS (ak 1 aa (ai (br aa aa ae ae ?_))))
  exact af 1 aa (⟨((z.length:Int) -((p+1))).toNat,ae,(p+1),ae,aa,⟨aa,aa,aa,aa,trivial⟩,trivial⟩)
 exact bV (aj (af 1 aa (ay (aE aa aa ⟨(.b false),aa,bQ⟩))))
theorem sX{T:bC}(F:FT T){G I:DC}(z:tJ.ok G)(A:tJ.ok I):Sound T 69 [.agg [.d G,.d I]] fun r=>∃J,r= .d J∧(Ty.b).ok J:=by
 refine ch F.q69 aa ?_
 obtain⟨aQ,rfl,K,L⟩:=Ty.az z
 obtain⟨aB,rfl,M,O⟩:=Ty.az A
 refine aj (af 2 aa (aj (ak 4 aa (bZ (g:=lT) aa (fun p U=>?_) (fun p U=>?_)))))
 ·refine aq aa p (bL aa ?_)
  refine aq aa p (bJ aa aa aa ?_)
  refine aq aa p (bL aa ?_)
  refine aq aa p (bJ aa aa aa ?_)
  refine aq aa p (eH aa aa ?_)
  refine ai (aW aa p aa ?_)
  refine ak 1 aa (bZ (g:=lj) aa (fun h2 Y=>?_) (fun h2 Y=>?_))
  ·refine aq aa h2 (bL aa ?_)
   refine aq aa h2 (bJ aa aa aa ?_)
   refine aq aa h2 (qc aa aa ?_)
   refine ai (aW aa h2 aa ?_)
   exact af 1 aa (ay (aE aa aa ⟨(.b (decide (aB≤1099511627776))),aa,bQ⟩))
  refine an aa h2 (an aa h2 (an aa h2 (ai (bd aa h2 aa ?_))))
  exact af 1 aa (ay (aE aa aa ⟨(.b false),aa,bQ⟩))
 refine an aa p (an aa p (an aa p (an aa p (an aa p (ai (bd aa p aa ?_))))))
 refine ak 1 aa (an aa aa (an aa aa (an aa aa (ai (bd aa aa aa ?_)))))
 exact af 1 aa (ay (aE aa aa ⟨(.b false),aa,bQ⟩))
theorem inclC{T:bC}(F:FT T){L M O:DC}(A:tJ.ok L)(G:tJ.ok M)(I:tJ.ok O):Sound T 165 [.agg [.d L,.d M],.d O] fun r=>∃U,r= .d U∧(Ty.b).ok U:=by
 refine ch F.q165 aa ?_
 obtain⟨aQ,rfl,Y,Z⟩:=Ty.az A
 obtain⟨aB,rfl,eS,eT⟩:=Ty.az G
 obtain⟨bk,rfl,pA,pB⟩:=Ty.az I
 refine aj (af 2 aa (aj (ak 1 aa (ai (aY aa (aV aa) (sX F ah ah) (fun r1 _ J=>?_))))))
 obtain⟨dV,rfl,z⟩:=J
 obtain⟨K,rfl⟩:=Ty.bQ z
 refine ak 1 aa (e6 (g:=lU) aa (fun h2=>?_) (fun h2=>?_))
 ·refine aq aa h2 (bL aa ?_)
  refine aq aa h2 (bJ aa aa aa ?_)
  refine aq aa h2 (bf aa ?_)
  refine aq aa h2 (qc aa aa ?_)
  refine ai (aW aa h2 aa ?_)
  refine ak 1 aa (bZ (g:=lj) aa (fun p g3=>?_) (fun p g3=>?_))
  ·refine aq aa p (bf aa ?_)
   refine aq aa p (bL aa ?_)
   refine aq aa p (bJ aa aa aa ?_)
   refine aq aa p (eH aa aa ?_)
   refine ai (aW aa p aa ?_)
   exact af 1 aa (ay (aE aa aa ⟨(.b (decide (bk<aB))),aa,bQ⟩))
  refine an aa p (an aa p (an aa p (an aa p (ai (bd aa p aa ?_)))))
  exact af 1 aa (ay (aE aa aa ⟨(.b false),aa,bQ⟩))
 refine an aa h2 (an aa h2 (an aa h2 (an aa h2 (ai (bd aa h2 aa ?_)))))
 refine ak 1 aa (an aa aa (an aa aa (an aa aa (an aa aa (ai (bd aa aa aa ?_))))))
 exact af 1 aa (ay (aE aa aa ⟨(.b false),aa,bQ⟩))
theorem II{T:bC}(F:FT T){J K:DC}(z:tJ.ok J)(A:tJ.ok K):Sound T 116 [.agg [.d J,.d K]] fun r=>∃L,r= .d L∧(Ty.b).ok L:=by
 refine ch F.q116 aa ?_
 obtain⟨aQ,rfl,M,O⟩:=Ty.az z
 obtain⟨aB,rfl,U,Y⟩:=Ty.az A
 refine aj (af 2 aa (aj (ak 1 aa (ai (aY aa (aV aa) (sX F ah ah) (fun r1 _ G=>?_))))))
 obtain⟨Z,rfl,p⟩:=G
 obtain⟨I,rfl⟩:=Ty.bQ p
 refine ak 1 aa (e6 (g:=jl) aa (fun h2=>?_) (fun h2=>?_))
 ·refine aq aa h2 (bL aa ?_)
  refine aq aa h2 (bJ aa aa aa ?_)
  refine aq aa h2 (qc aa aa ?_)
  refine ai (aW aa h2 aa ?_)
  exact af 1 aa (ay (aE aa aa ⟨(.b (decide (aB≤1000000))),aa,bQ⟩))
 refine an aa h2 (an aa h2 (an aa h2 (ai (bd aa h2 aa ?_))))
 exact af 1 aa (ay (aE aa aa ⟨(.b false),aa,bQ⟩))
theorem Xx{T:bC}(F:FT T){Z a1 a2 a3:DC}(I:tJ.ok Z)(J:tJ.ok a1)(K:tJ.ok a2)(L:tJ.ok a3):Sound T 70 [.agg [.d Z,.d a1],.agg [.d a2,.d a3]] fun r=>∃y0 y1 y2,r= .tuple [.agg [.d y0,.d y1],.d y2]∧tJ.ok y0∧tJ.ok y1∧(Ty.b).ok y2:=by
 refine ch F.q70 aa ?_
 obtain⟨aQ,rfl,iF,hJ⟩:=Ty.az I
 obtain⟨aB,rfl,eS,eT⟩:=Ty.az J
 obtain⟨bk,rfl,pA,pB⟩:=Ty.az K
 obtain⟨aO,rfl,lM,lN⟩:=Ty.az L
 refine aj (af 4 aa (aj (ak 4 aa (ai (sS aa aa (fun z1 uv=>?_))))))
 refine ak 4 aa (ai (Dt aa aa (fun z2 qP=>?_)))
 refine af 3 aa (aA (aj (ak 1 aa (ai (aY aa (aV aa) (sX F ah ah) (fun r3 _ M=>?_))))))
 obtain⟨iG,rfl,A⟩:=M
 obtain⟨O,rfl⟩:=Ty.bQ A
 refine ak 2 aa (e6 (g:=ow) aa (fun z=>?_) (fun z=>?_))
 ·refine an aa z (an aa z (an aa z (ai (aW aa z aa ?_))))
  refine ak 1 aa (an aa aa (an aa aa (an aa aa (an aa aa (an aa aa (ai (aW aa aa aa ?_)))))))
  exact bn (cg aa aa (aj (af 3 aa (ay (aE aa aa ⟨i0,i0,(.b false),aa,ah,ah,bQ⟩)))))
 refine aq aa z (iw aa aa (aX aa) (aX aa) ?_)
 refine aq aa z (aY aa (aV aa) (sX F ah ah) (fun r5 _ U=>?_))
 obtain⟨il,rfl,G⟩:=U
 obtain⟨Y,rfl⟩:=Ty.bQ G
 refine aq aa z (eQ aa ?_)
 refine ai (bd aa z aa ?_)
 refine ak 1 aa (e6 (g:=qz) aa (fun p=>?_) (fun p=>?_))
 ·refine an aa p (an aa p (an aa p (an aa p (an aa p (ai (aW aa p aa ?_))))))
  exact bn (cg aa aa (aj (af 3 aa (ay (aE aa aa ⟨i0,i0,(.b false),aa,ah,ah,bQ⟩)))))
 refine aq aa p (bL aa ?_)
 refine aq aa p (bJ aa aa aa ?_)
 refine aq aa p (bL aa ?_)
 refine aq aa p (bJ aa aa aa ?_)
 refine aq aa p (jr aa aa ?_)
 refine ai (bd aa p aa ?_)
 refine bn (aN aa (fun h7 g7=>?_) (fun h7 g7=>?_))
 ·exact aj (af 3 aa (ay (aE aa aa ⟨i0,i0,(.b false),aa,ah,ah,bQ⟩)))
 exact aG (aj (af 3 aa (ay (aE aa aa ⟨(dJ z1),(dJ z2),(.b true),aa,ah,ah,bQ⟩))))
theorem widthC{T:bC}(F:FT T){a0 Z a2 a3 a4:DC}(cV:(Ty.s 1000).ok a0)(da:(Ty.l 100 eB).ok Z)(dE:(Ty.l 200 cl).ok a2)(dk:(Ty.l 4 fu).ok a3)(dg:(Ty.l 4 ez).ok a4):Sound T 112 [.agg [.d a0,.d Z,.d a2,.d a3,.d a4]] fun r=>∃y0,r= .d y0∧(Ty.i .i64 0 12).ok y0:=by
 refine ch F.aaW aa ?_
 obtain⟨M,rfl,kD⟩:=Ty.aJ cV
 obtain⟨K,L,fS,du⟩:=Ty.au da
 obtain⟨cu,cO,et,cK⟩:=Ty.au dE
 obtain⟨e5,eC,iS,ef⟩:=Ty.au dk
 obtain⟨eU,cT,fo,dc⟩:=Ty.au dg
 refine aj (af 2 aa (aj (af 1 aa (aA (aj (af 1 aa (bj (cb (fun k VE B=>∃(A:Int)(p:Int),(0≤A∧A≤12)∧(0≤p∧(p≤(K.length:Int)∨p=0))∧k=((K.length:Int) -p).toNat∧aT [(0,.agg [dS M,.d Z,.d a2,.d a3,.d a4]),(1,.vp 1 0),(2,.d i0),(3,.d (dJ A)),(4,.d (dJ p))] VE∧aT [(1,.one 40 112 [dS M,.d Z,.d a2,.d a3,.d a4])] B) ?_ (k:=((K.length:Int) -0).toNat) ⟨0,0,ae,ae,aa,⟨aa,aa,aa,aa,aa,trivial⟩,⟨aa,trivial⟩⟩))))))))
 rintro _ VE B⟨A,p,c9,fr,rfl,hV,hB⟩
 refine bz _ _ hV hB (aA (aj (ak 3 aa (ai (bu aa L ?_)))))
 refine af 1 aa (aN aa (fun h1 g1=>?_) (fun h1 g1=>?_))
 ·refine aG (aA (bj (aj (af 1 aa (bj ?_)))))
  obtain⟨r2,dj,dA⟩:=bR p du
  obtain⟨fR,fh,gn,rfl,ig,ij,U⟩:=c4 dA
  obtain⟨G,J,IF,O⟩:=Ty.au U
  refine cb (fun k VE B=>∃(I:Int)(z:Int),(0≤I∧I≤12)∧(0≤z∧(z≤(G.length:Int)∨z=0))∧k=((G.length:Int) -z).toNat∧aT [(0,.agg [dS M,.d Z,.d a2,.d a3,.d a4]),(1,.vp 1 0),(2,.d i0),(3,.d (dJ I)),(4,.d (dJ p)),(5,.d (dJ z)),(10,dB (decide (p<(K.length:Int))))] VE∧aT [(1,.one 40 112 [dS M,.d Z,.d a2,.d a3,.d a4])] B) ?_ (k:=((G.length:Int) -0).toNat) ⟨A,0,ae,ae,aa,⟨aa,aa,aa,aa,aa,aa,aa,trivial⟩,⟨aa,trivial⟩⟩
  rintro _ VE B⟨I,z,jj,pw,rfl,hV,hB⟩
  refine bz _ _ hV hB (aA (aj (ak 4 aa (ai (bo aa aa L ae dj aa ?_)))))
  refine ak 2 aa (ai (bu aa J ?_))
  refine af 1 aa (aN aa (fun h3 g3=>?_) (fun h3 g3=>?_))
  ·refine aG (aA (bj (aS (ak 4 aa (ai (bo aa aa L ae dj aa ?_))))))
   refine ak 3 aa ?_
   obtain⟨r4,eg,eZ⟩:=bR z O
   obtain⟨jw,mr,oG,rfl,Y,jR,ot⟩:=c4 eZ
   refine ai (bo aa aa J ae eg aa ?_)
   obtain⟨EJ,rfl,rl,rm⟩:=Ty.az Y
   refine ak 2 aa (ai (sS aa aa (fun z5 hz5=>?_)))
   refine af 1 aa (aS (ak 1 aa (ai (br aa aa ae ae ?_))))
   exact af 1 aa (⟨((G.length:Int) -((z+1))).toNat,ae,z5,(z+1),ae,ae,aa,⟨aa,aa,aa,aa,aa,aa,aa,trivial⟩,⟨aa,trivial⟩⟩)
  refine bV (aS (ak 1 aa (ai (br aa aa ae ae ?_))))
  exact af 1 aa (⟨((K.length:Int) -((p+1))).toNat,ae,I,(p+1),ae,ae,aa,⟨aa,aa,aa,aa,aa,trivial⟩,⟨aa,trivial⟩⟩)
 exact bV (aj (af 2 aa (ay (aE aa aa ⟨(dJ A),aa,ah⟩))))
theorem Ky{T:bC}(F:FT T){a0 a1 J a3:DC}(M:tJ.ok a0)(O:tJ.ok a1){z:List (List DC)}(A:aR z J)(et:z.length≤13)(I:aH mo z)(U:tJ.ok a3):Sound T 114 [.agg [.d a0,.d a1,.d J],.d a3] fun r=>∃(Y:Int),r= .d (dJ Y)∧((-1)≤Y∧Y≤(z.length:Int) -1∧(True)):=by
 refine ch F.q114 aa ?_
 obtain⟨aQ,rfl,iF,hJ⟩:=Ty.az M
 obtain⟨aB,rfl,eS,eT⟩:=Ty.az O
 obtain⟨aO,rfl,lM,lN⟩:=Ty.az U
 refine aj (af 2 aa (aA (aj (af 1 aa (bj (cb (fun k VE B=>∃(p:Int),(0≤p∧(p≤(z.length:Int)∨p=0))∧k=((z.length:Int) -p).toNat∧aT [(0,.agg [.d (dJ aQ),.d (dJ aB),.d J]),(1,.d (dJ aO)),(2,.vp 2 0),(4,.d i0),(5,.d (dJ p))] VE∧aT [(2,.one 135 40 [.d (dJ aQ),.d (dJ aB),.d J])] B) ?_ (k:=((z.length:Int) -0).toNat) ⟨0,ae,aa,⟨aa,aa,aa,aa,aa,trivial⟩,⟨aa,trivial⟩⟩))))))
 rintro _ VE B⟨p,c9,rfl,hV,hB⟩
 refine bz _ _ hV hB (aA (aj (ak 3 aa (ai (bu aa A ?_)))))
 refine af 1 aa (aN aa (fun h1 g1=>?_) (fun h1 g1=>?_))
 ·refine aG (aA (bj (aj (ak 3 aa ?_))))
  obtain⟨r2,Z,dA⟩:=bR p I
  obtain⟨fR,fh,gn,rfl,G,ij,iP⟩:=c4 dA
  refine ai (bo aa aa A ae Z aa ?_)
  obtain⟨qm,rfl,K,L⟩:=Ty.az G
  refine af 4 aa (aN aa (fun h3 g3=>?_) (fun h3 g3=>?_))
  ·exact aj (af 2 aa (ay (aE aa aa ⟨p,aa,⟨ae,ae,trivial⟩⟩)))
  refine aG (aS (ak 1 aa (ai (br aa aa ae ae ?_))))
  exact af 1 aa (⟨((z.length:Int) -((p+1))).toNat,ae,(p+1),ae,aa,⟨aa,aa,aa,aa,aa,trivial⟩,⟨aa,trivial⟩⟩)
 exact bV (aj (af 1 aa (ay (aE aa aa ⟨(-1),aa,⟨ae,ae,trivial⟩⟩))))
theorem NC{T:bC}(F:FT T){a0 a1 J a3:DC}(L:tJ.ok a0)(M:tJ.ok a1){z:List (List DC)}(A:aR z J)(et:z.length≤13)(I:aH mo z)(O:(Ty.s 1000).ok a3):Sound T 111 [.agg [.d a0,.d a1,.d J],.d a3] fun r=>∃(U:Int),r= .d (dJ U)∧((-1)≤U∧U≤(z.length:Int) -1∧(True)):=by
 refine ch F.q111 aa ?_
 obtain⟨aQ,rfl,iF,hJ⟩:=Ty.az L
 obtain⟨aB,rfl,eS,eT⟩:=Ty.az M
 obtain⟨Y,rfl,hsa3⟩:=Ty.aJ O
 refine aj (af 2 aa (aA (aj (af 1 aa (bj (cb (fun k VE B=>∃(p:Int),(0≤p∧(p≤(z.length:Int)∨p=0))∧k=((z.length:Int) -p).toNat∧aT [(0,.agg [.d (dJ aQ),.d (dJ aB),.d J]),(1,dS Y),(2,.vp 2 0),(4,.d i0),(5,.d (dJ p))] VE∧aT [(2,.one 135 40 [.d (dJ aQ),.d (dJ aB),.d J])] B) ?_ (k:=((z.length:Int) -0).toNat) ⟨0,ae,aa,⟨aa,aa,aa,aa,aa,trivial⟩,⟨aa,trivial⟩⟩))))))
 rintro _ VE B⟨p,c9,rfl,hV,hB⟩
 refine bz _ _ hV hB (aA (aj (ak 3 aa (ai (bu aa A ?_)))))
 refine af 1 aa (aN aa (fun h1 g1=>?_) (fun h1 g1=>?_))
 ·refine aG (aA (bj (aj (ak 3 aa ?_))))
  obtain⟨r2,Z,dA⟩:=bR p I
  obtain⟨fR,fh,gn,rfl,ig,G,iP⟩:=c4 dA
  refine ai (bo aa aa A ae Z aa ?_)
  obtain⟨sx2_1,rfl,K⟩:=Ty.aJ G
  refine ak 3 aa (ai (uW aa aa ?_))
  refine bn (aN aa (fun h4 g4=>?_) (fun h4 g4=>?_))
  ·exact aj (af 2 aa (ay (aE aa aa ⟨p,aa,⟨ae,ae,trivial⟩⟩)))
  refine aG (aS (ak 1 aa (ai (br aa aa ae ae ?_))))
  exact af 1 aa (⟨((z.length:Int) -((p+1))).toNat,ae,(p+1),ae,aa,⟨aa,aa,aa,aa,aa,trivial⟩,⟨aa,trivial⟩⟩)
 exact bV (aj (af 1 aa (ay (aE aa aa ⟨(-1),aa,⟨ae,ae,trivial⟩⟩))))
theorem Zj{T:bC}(F:FT T){a0 a1:DC}{z:List (List DC)}(A:aR z a0)(ed:z.length≤1000000000)(O:aH cl z){G:List (List DC)}(I:aR G a1)(fS:G.length≤1000000000)(U:aH cl G):Sound T 65 [.d a0,.d a1] fun r=>∃y0,r= .d y0∧(Ty.b).ok y0:=by
 refine ch F.q65 aa (aj (af 1 aa (aA (aj (ak 1 aa (ai (bu aa A ?_)))))))
 refine ak 1 aa (ai (bu aa I ?_))
 refine af 1 aa (aN aa (fun h1 g1=>?_) (fun h1 g1=>?_))
 ·exact aj (af 1 aa (ay (aE aa aa ⟨(.b false),aa,bQ⟩)))
 refine aG (aA (aj (af 1 aa (bj (cb (fun k VE B=>∃(p:Int),(0≤p∧(p≤(z.length:Int)∨p=0))∧k=((z.length:Int) -p).toNat∧aT [(0,.d a0),(1,.d a1),(4,dB false),(5,.d (dJ p)),(10,dB ((!decide ((z.length:Int)=(G.length:Int)))))] VE∧aT [] B) ?_ (k:=((z.length:Int) -0).toNat) ⟨0,ae,aa,⟨aa,aa,aa,aa,aa,trivial⟩,trivial⟩)))))
 rintro _ VE B⟨p,c9,rfl,hV,hB⟩
 refine bz _ _ hV hB (aA (aj (ak 2 aa (ai (bu aa A ?_)))))
 refine af 1 aa (aN aa (fun h2 g2=>?_) (fun h2 g2=>?_))
 ·refine aG (aA (bj (cN (aP 2 aa ?_))))
  obtain⟨r3,fG,J⟩:=bR p O
  obtain⟨oD,_,rfl,K,J⟩:=b0 J
  obtain rfl:=dy J
  refine aU (bo aa aa A ae fG aa ?_)
  refine de aa aa (cF aa aa ?_)
  refine aP 2 aa ?_
  obtain⟨r4,eg,L⟩:=bR p U
  obtain⟨jw,_,rfl,M,L⟩:=b0 L
  obtain rfl:=dy L
  refine aU (bo aa aa I ae eg aa ?_)
  refine de aa aa (cF aa aa ?_)
  obtain⟨vI,rfl,Y,Z⟩:=Ty.az K
  obtain⟨EJ,rfl,rl,rm⟩:=Ty.az M
  refine cP 1 aa (aN aa (fun h5 g5=>?_) (fun h5 g5=>?_))
  ·exact aj (af 1 aa (ay (aE aa aa ⟨(.b false),aa,bQ⟩)))
  refine aG (aS (ak 1 aa (ai (br aa aa ae ae ?_))))
  exact af 1 aa (⟨((z.length:Int) -((p+1))).toNat,ae,(p+1),ae,aa,⟨aa,aa,aa,aa,aa,trivial⟩,trivial⟩)
 exact bV (aj (af 1 aa (ay (aE aa aa ⟨(.b true),aa,bQ⟩))))
theorem PB{T:bC}(F:FT T){a0 a1 a2 a3 a4 a5:DC}(M:tJ.ok a0)(O:tJ.ok a1)(U:(Ty.s 1000).ok a2)(Y:tJ.ok a3)(Z:tJ.ok a4)(dm:(Ty.s 1000).ok a5):Sound T 105 [.agg [.d a0,.d a1,.d a2],.agg [.d a3,.d a4,.d a5]] fun r=>∃y0,r= .d y0∧(Ty.i .i64 (-1) 1).ok y0:=by
 refine ch F.aaV aa ?_
 obtain⟨aQ,rfl,iF,hJ⟩:=Ty.az M
 obtain⟨aB,rfl,eS,eT⟩:=Ty.az O
 obtain⟨I,rfl,hsa2⟩:=Ty.aJ U
 obtain⟨aO,rfl,lM,lN⟩:=Ty.az Y
 obtain⟨bc,rfl,sh,si⟩:=Ty.az Z
 obtain⟨J,rfl,hsa5⟩:=Ty.aJ dm
 refine aj (af 3 aa (aA (bj (aj (ak 6 aa (bZ (g:=po) aa (fun G g1=>?_) (fun G g1=>?_)))))))
 ·refine an aa G (an aa G (an aa G (an aa G (an aa G (an aa G (bG aa (bG aa (bG aa (bG aa ?_)))))))))
  refine bG aa (an aa G (ai (aW aa G aa ?_)))
  refine ak 1 aa (an aa aa (an aa aa (an aa aa (an aa aa (an aa aa (an aa aa (bG aa (bG aa (bG aa ?_)))))))))
  refine bG aa (bG aa (an aa aa (an aa aa (bG aa (bG aa (bG aa (bG aa (bG aa (an aa aa ?_)))))))))
  refine ai (aW aa aa aa ?_)
  exact af 1 aa (cg aa aa (aj (af 1 aa (ay (aE aa aa ⟨(dJ (-1)),aa,ah⟩)))))
 refine aq aa G (bL aa ?_)
 refine aq aa G (bJ aa aa aa ?_)
 refine aq aa G (bL aa ?_)
 refine aq aa G (bJ aa aa aa ?_)
 refine aq aa G (en aa aa ?_)
 refine aq aa G (bf aa ?_)
 refine bZ (g:=tu) aa (fun h2 g2=>?_) (fun h2 g2=>?_)
 ·refine aq aa h2 (bL aa ?_)
  refine aq aa h2 (bJ aa aa aa ?_)
  refine aq aa h2 (bL aa ?_)
  refine aq aa h2 (bJ aa aa aa ?_)
  refine aq aa h2 (eH aa aa ?_)
  refine aq aa G (aW aa h2 aa ?_)
  refine ai (bd aa G aa ?_)
  refine ak 1 aa (bZ (g:=tw) aa (fun p g3=>?_) (fun p g3=>?_))
  ·refine an aa p (an aa p (an aa p (an aa p (an aa p (an aa p (bG aa (bG aa (bG aa (bG aa ?_)))))))))
   refine bG aa (an aa p (an aa p (bG aa (bG aa (bG aa (bG aa (bG aa (an aa p (ai (aW aa p aa ?_))))))))))
   exact af 1 aa (cg aa aa (aj (af 1 aa (ay (aE aa aa ⟨(dJ (-1)),aa,ah⟩)))))
  refine aq aa p (bL aa ?_)
  refine aq aa p (bJ aa aa aa ?_)
  refine aq aa p (bL aa ?_)
  refine aq aa p (bJ aa aa aa ?_)
  refine aq aa p (en aa aa ?_)
  refine aq aa p (bf aa ?_)
  refine bZ (g:=tz) aa (fun K g4=>?_) (fun K g4=>?_)
  ·refine aq aa K (bL aa ?_)
   refine aq aa K (bJ aa aa aa ?_)
   refine aq aa K (bL aa ?_)
   refine aq aa K (bJ aa aa aa ?_)
   refine aq aa K (en aa aa ?_)
   refine aq aa p (aW aa K aa ?_)
   refine aq aa p (bf aa ?_)
   refine bZ (g:=rW) aa (fun L g5=>?_) (fun L g5=>?_)
   ·refine aq aa L (bL aa ?_)
    refine aq aa L (bJ aa aa aa ?_)
    refine aq aa L (bL aa ?_)
    refine aq aa L (bJ aa aa aa ?_)
    refine aq aa L (Mj aa aa aD (fun b6=>?_))
    refine aq aa p (aW aa L aa ?_)
    refine ai (bd aa p aa ?_)
    refine af 1 aa (db aa (fun h7=>?_) (fun h7=>?_))
    ·exact aj (af 1 aa (ay (aE aa aa ⟨(dJ (-1)),aa,ah⟩)))
    refine aj (ak 2 aa (ai (uZ (r:=[(dJ aQ),(dJ aB),(al I)]) (r':=[(dJ aO),(dJ bc),(al J)]) aa aa aa aa (fun b8=>?_))))
    refine af 1 aa (db aa (fun h9=>?_) (fun h9=>?_))
    ·exact aj (af 1 aa (ay (aE aa aa ⟨i0,aa,ah⟩)))
    exact aG (aj (af 1 aa (ay (aE aa aa ⟨(dJ 1),aa,ah⟩))))
   refine an aa L (an aa L (an aa L (an aa L (an aa L (aq aa p (bd aa L aa ?_))))))
   refine ai (bd aa p aa ?_)
   refine af 1 aa (cH aa aa (aj (ak 2 aa (ai (uZ (r:=[(dJ aQ),(dJ aB),(al I)]) (r':=[(dJ aO),(dJ bc),(al J)]) aa aa aa aa (fun b10=>?_))))))
   refine af 1 aa (db aa (fun ir=>?_) (fun ir=>?_))
   ·exact aj (af 1 aa (ay (aE aa aa ⟨i0,aa,ah⟩)))
   exact aG (aj (af 1 aa (ay (aE aa aa ⟨(dJ 1),aa,ah⟩))))
  refine an aa K (an aa K (an aa K (an aa K (an aa K (aq aa p (bd aa K aa ?_))))))
  refine aq aa p (bf aa ?_)
  refine an aa aa (an aa aa (an aa aa (an aa aa (an aa aa (aq aa p (bd aa aa aa ?_))))))
  refine ai (bd aa p aa ?_)
  refine af 1 aa (cH aa aa (aj (ak 2 aa (ai (uZ (r:=[(dJ aQ),(dJ aB),(al I)]) (r':=[(dJ aO),(dJ bc),(al J)]) aa aa aa aa (fun b12=>?_))))))
  refine af 1 aa (db aa (fun eD=>?_) (fun eD=>?_))
  ·exact aj (af 1 aa (ay (aE aa aa ⟨i0,aa,ah⟩)))
  exact aG (aj (af 1 aa (ay (aE aa aa ⟨(dJ 1),aa,ah⟩))))
 refine an aa h2 (an aa h2 (an aa h2 (an aa h2 (an aa h2 (aq aa G (bd aa h2 aa ?_))))))
 refine ai (bd aa G aa ?_)
 refine ak 1 aa (aq aa aa (bL aa ?_))
 refine aq aa aa (bJ aa aa aa ?_)
 refine aq aa aa (bL aa ?_)
 refine aq aa aa (bJ aa aa aa ?_)
 refine aq aa aa (en aa aa ?_)
 refine aq aa aa (bf aa ?_)
 refine bZ (g:=tz) aa (fun z kG=>?_) (fun z kG=>?_)
 ·refine aq aa z (bL aa ?_)
  refine aq aa z (bJ aa aa aa ?_)
  refine aq aa z (bL aa ?_)
  refine aq aa z (bJ aa aa aa ?_)
  refine aq aa z (en aa aa ?_)
  refine aq aa aa (aW aa z aa ?_)
  refine aq aa aa (bf aa ?_)
  refine bZ (g:=rW) aa (fun A kI=>?_) (fun A kI=>?_)
  ·refine aq aa A (bL aa ?_)
   refine aq aa A (bJ aa aa aa ?_)
   refine aq aa A (bL aa ?_)
   refine aq aa A (bJ aa aa aa ?_)
   refine aq aa A (Mj aa aa aD (fun b16=>?_))
   refine aq aa aa (aW aa A aa ?_)
   refine ai (bd aa aa aa ?_)
   refine af 1 aa (db aa (fun gR=>?_) (fun gR=>?_))
   ·exact aj (af 1 aa (ay (aE aa aa ⟨(dJ (-1)),aa,ah⟩)))
   refine aj (ak 2 aa (ai (uZ (r:=[(dJ aQ),(dJ aB),(al I)]) (r':=[(dJ aO),(dJ bc),(al J)]) aa aa aa aa (fun b18=>?_))))
   refine af 1 aa (db aa (fun uA=>?_) (fun uA=>?_))
   ·exact aj (af 1 aa (ay (aE aa aa ⟨i0,aa,ah⟩)))
   exact aG (aj (af 1 aa (ay (aE aa aa ⟨(dJ 1),aa,ah⟩))))
  refine an aa A (an aa A (an aa A (an aa A (an aa A (aq aa aa (bd aa A aa ?_))))))
  refine ai (bd aa aa aa ?_)
  refine af 1 aa (cH aa aa (aj (ak 2 aa (ai (uZ (r:=[(dJ aQ),(dJ aB),(al I)]) (r':=[(dJ aO),(dJ bc),(al J)]) aa aa aa aa (fun b20=>?_))))))
  refine af 1 aa (db aa (fun gw=>?_) (fun gw=>?_))
  ·exact aj (af 1 aa (ay (aE aa aa ⟨i0,aa,ah⟩)))
  exact aG (aj (af 1 aa (ay (aE aa aa ⟨(dJ 1),aa,ah⟩))))
 refine an aa z (an aa z (an aa z (an aa z (an aa z (aq aa aa (bd aa z aa ?_))))))
 refine aq aa aa (bf aa ?_)
 refine an aa aa (an aa aa (an aa aa (an aa aa (an aa aa (aq aa aa (bd aa aa aa ?_))))))
 refine ai (bd aa aa aa ?_)
 refine af 1 aa (cH aa aa (aj (ak 2 aa (ai (uZ (r:=[(dJ aQ),(dJ aB),(al I)]) (r':=[(dJ aO),(dJ bc),(al J)]) aa aa aa aa (fun b22=>?_))))))
 refine af 1 aa (db aa (fun fU=>?_) (fun fU=>?_))
 ·exact aj (af 1 aa (ay (aE aa aa ⟨i0,aa,ah⟩)))
 exact aG (aj (af 1 aa (ay (aE aa aa ⟨(dJ 1),aa,ah⟩))))
theorem PC{T:bC}(F:FT T){a0 a1:DC}(cV:(Ty.l 1000000000 ee).ok a0)(da:(Ty.l 1000000000 ee).ok a1):Sound T 67 [.d a0,.d a1] fun r=>∃y0,r= .d y0∧(Ty.i .i64 (-1) 1).ok y0:=by
 refine ch F.q67 aa ?_
 obtain⟨I,z,ed,cW⟩:=Ty.au cV
 obtain⟨dn,A,fS,du⟩:=Ty.au da
 refine aj (af 1 aa (aA (aj (af 1 aa (bj (cb (fun k VE B=>∃(p:Int),(0≤p∧(p≤(I.length:Int)∨p=0))∧k=((I.length:Int) -p).toNat∧aT [(0,.d a0),(1,.d a1),(4,.d i0),(5,.d (dJ p))] VE∧aT [] B) ?_ (k:=((I.length:Int) -0).toNat) ⟨0,ae,aa,⟨aa,aa,aa,aa,trivial⟩,trivial⟩))))))
 rintro _ VE B⟨p,c9,rfl,hV,hB⟩
 refine bz _ _ hV hB (aA (aj (ak 2 aa (ai (bu aa z ?_)))))
 refine ak 2 aa (bZ (g:=po) aa (fun G g1=>?_) (fun G g1=>?_))
 ·refine aq aa G (bf aa ?_)
  refine aq aa G (bf aa ?_)
  refine aq aa G (bu aa A ?_)
  refine aq aa G (eH aa aa ?_)
  refine ai (aW aa G aa ?_)
  refine bn (aN aa (fun h2 g2=>?_) (fun h2 g2=>?_))
  ·refine aG (aA (bj (cN (aP 2 aa ?_))))
   obtain⟨r3,fG,gQ⟩:=bR p cW
   obtain⟨oD,qC,wo,rfl,J,K,L⟩:=c4 gQ
   refine aU (bo aa aa z ae fG aa ?_)
   refine de aa aa (eF aa (aX aa) (aX aa) ?_)
   refine aP 2 aa ?_
   obtain⟨r4,eg,eZ⟩:=bR p du
   obtain⟨jw,mr,oG,rfl,M,O,U⟩:=c4 eZ
   refine aU (bo aa aa A ae eg aa ?_)
   refine de aa aa (eF aa (aX aa) (aX aa) ?_)
   refine bP aa (aY aa (aV aa) (PB F J K L M O U) (fun r5 _ dL=>?_))
   obtain⟨il,rfl,Y⟩:=dL
   refine cP 1 aa (aj ?_)
   obtain⟨Z,rfl,hzy5_0,kzy5_0⟩:=Ty.az Y
   refine af 2 aa (aN aa (fun h6 g6=>?_) (fun h6 g6=>?_))
   ·exact aj (af 2 aa (ay (aE aa aa ⟨(dJ Z),aa,ah⟩)))
   refine aG (aS (ak 1 aa (ai (br aa aa ae ae ?_))))
   exact af 1 aa (⟨((I.length:Int) -((p+1))).toNat,ae,(p+1),ae,aa,⟨aa,aa,aa,aa,trivial⟩,trivial⟩)
  refine bV (aA (bj (aj (ak 1 aa (ai (bu aa z ?_))))))
  refine ak 1 aa (ai (bu aa A ?_))
  refine af 2 aa (aN aa (fun h7 g7=>?_) (fun h7 g7=>?_))
  ·exact aj (af 1 aa (ay (aE aa aa ⟨(dJ (-1)),aa,ah⟩)))
  refine aj (ak 1 aa (ai (bu aa z ?_)))
  refine ak 1 aa (ai (bu aa A ?_))
  refine af 2 aa (aN aa (fun h8 g8=>?_) (fun h8 g8=>?_))
  ·exact aj (af 1 aa (ay (aE aa aa ⟨(dJ 1),aa,ah⟩)))
  exact aG (aj (af 1 aa (ay (aE aa aa ⟨i0,aa,ah⟩))))
 refine an aa G (an aa G (an aa G (an aa G (ai (bd aa G aa ?_)))))
 refine bn (cH aa aa (bV (aA (bj (aj (ak 1 aa (ai (bu aa z ?_))))))))
 refine ak 1 aa (ai (bu aa A ?_))
 refine af 2 aa (aN aa (fun h9 g9=>?_) (fun h9 g9=>?_))
 ·exact aj (af 1 aa (ay (aE aa aa ⟨(dJ (-1)),aa,ah⟩)))
 refine aj (ak 1 aa (ai (bu aa z ?_)))
 refine ak 1 aa (ai (bu aa A ?_))
 refine af 2 aa (aN aa (fun gx fV=>?_) (fun gx fV=>?_))
 ·exact aj (af 1 aa (ay (aE aa aa ⟨(dJ 1),aa,ah⟩)))
 exact aG (aj (af 1 aa (ay (aE aa aa ⟨i0,aa,ah⟩))))
theorem compI{T:bC}(F:FT T){a0 a1:DC}{G:List (List DC)}(z:aR G a0)(ed:G.length≤1000000000)(U:aH cl G){J:List (List DC)}(A:aR J a1)(fS:J.length≤1000000000)(Y:aH cl J):Sound T 154 [.d a0,.d a1] fun r=>∃y0,r= .d y0∧(Ty.i .i64 (-1) 1).ok y0:=by
 refine ch F.q154 aa (aj (af 1 aa (aA (aj (af 1 aa (bj (cb (fun k VE B=>∃(p:Int),(0≤p∧(p≤(G.length:Int)∨p=0))∧k=((G.length:Int) -p).toNat∧aT [(0,.d a0),(1,.d a1),(4,.d i0),(5,.d (dJ p))] VE∧aT [] B) ?_ (k:=((G.length:Int) -0).toNat) ⟨0,ae,aa,⟨aa,aa,aa,aa,trivial⟩,trivial⟩)))))))
 rintro _ VE B⟨p,c9,rfl,hV,hB⟩
 refine bz _ _ hV hB (aA (aj (ak 2 aa (ai (bu aa z ?_)))))
 refine ak 2 aa (bZ (g:=ts) aa (fun I g1=>?_) (fun I g1=>?_))
 ·refine aq aa I (bf aa ?_)
  refine aq aa I (bf aa ?_)
  refine aq aa I (bu aa A ?_)
  refine aq aa I (eH aa aa ?_)
  refine ai (aW aa I aa ?_)
  refine bn (aN aa (fun h2 g2=>?_) (fun h2 g2=>?_))
  ·refine aG (aA (bj (aA (cN (aP 2 aa ?_)))))
   obtain⟨r3,Z,K⟩:=bR p U
   obtain⟨oD,_,rfl,L,K⟩:=b0 K
   obtain rfl:=dy K
   refine aU (bo aa aa z ae Z aa ?_)
   refine de aa aa (cF aa aa ?_)
   refine aP 2 aa ?_
   obtain⟨r4,eg,M⟩:=bR p Y
   obtain⟨jw,_,rfl,O,M⟩:=b0 M
   obtain rfl:=dy M
   refine aU (bo aa aa A ae eg aa ?_)
   refine de aa aa (cF aa aa ?_)
   obtain⟨vI,rfl,Ny,Nz⟩:=Ty.az L
   obtain⟨EJ,rfl,rl,rm⟩:=Ty.az O
   refine cP 1 aa (aN aa (fun h5 g5=>?_) (fun h5 g5=>?_))
   ·exact aj (af 1 aa (ay (aE aa aa ⟨(dJ (-1)),aa,ah⟩)))
   refine aG (cN (aP 2 aa (aU (bo aa aa z ae Z aa ?_))))
   refine de aa aa (cF aa aa ?_)
   refine aP 2 aa (aU (bo aa aa A ae eg aa ?_))
   refine de aa aa (cF aa aa ?_)
   refine cP 1 aa (aN aa (fun h6 g6=>?_) (fun h6 g6=>?_))
   ·exact aj (af 1 aa (ay (aE aa aa ⟨(dJ 1),aa,ah⟩)))
   refine aG (aS (ak 1 aa (ai (br aa aa ae ae ?_))))
   exact af 1 aa (⟨((G.length:Int) -((p+1))).toNat,ae,(p+1),ae,aa,⟨aa,aa,aa,aa,trivial⟩,trivial⟩)
  refine bV (aA (bj (aj (ak 1 aa (ai (bu aa z ?_))))))
  refine ak 1 aa (ai (bu aa A ?_))
  refine af 2 aa (aN aa (fun h7 g7=>?_) (fun h7 g7=>?_))
  ·exact aj (af 1 aa (ay (aE aa aa ⟨(dJ (-1)),aa,ah⟩)))
  refine aj (ak 1 aa (ai (bu aa z ?_)))
  refine ak 1 aa (ai (bu aa A ?_))
  refine af 2 aa (aN aa (fun h8 g8=>?_) (fun h8 g8=>?_))
  ·exact aj (af 1 aa (ay (aE aa aa ⟨(dJ 1),aa,ah⟩)))
  exact aG (aj (af 1 aa (ay (aE aa aa ⟨i0,aa,ah⟩))))
 refine an aa I (an aa I (an aa I (an aa I (ai (bd aa I aa ?_)))))
 refine bn (cH aa aa (bV (aA (bj (aj (ak 1 aa (ai (bu aa z ?_))))))))
 refine ak 1 aa (ai (bu aa A ?_))
 refine af 2 aa (aN aa (fun h9 g9=>?_) (fun h9 g9=>?_))
 ·exact aj (af 1 aa (ay (aE aa aa ⟨(dJ (-1)),aa,ah⟩)))
 refine aj (ak 1 aa (ai (bu aa z ?_)))
 refine ak 1 aa (ai (bu aa A ?_))
 refine af 2 aa (aN aa (fun gx fV=>?_) (fun gx fV=>?_))
 ·exact aj (af 1 aa (ay (aE aa aa ⟨(dJ 1),aa,ah⟩)))
 exact aG (aj (af 1 aa (ay (aE aa aa ⟨i0,aa,ah⟩))))
end Go.Ev.Rp
namespace Go.Ev.Rp
open Go Go.Ev.Pp
theorem intvC{T:bC}(F:FT T){z:DC}(p:tJ.ok z):Sound T 151 [.d z] fun r=>∃A G I,r= .agg [.d A,.d G,.d I]∧tJ.ok A∧tJ.ok G∧(Ty.s 1000).ok I:=by
 refine ch F.q151 aa ?_
 obtain⟨aQ,rfl,J,K⟩:=Ty.az p
 exact aj (af 1 aa (aj (af 3 aa (ay (aE aa aa ⟨(dJ 1),(dJ aQ),(al []),aa,ah,ah,(aJ (s:=[]) aD)⟩)))))
theorem Zk{T:bC}(F:FT T){aQ:Int}(z:0≤aQ)(A:aQ≤65535){aB:Int}(G:1≤aB)(I:aB≤1000):Sound T 152 [.d (dJ aQ),.d (dJ aB)] fun r=>∃p,r= .d p∧(Ty.i .i64 0 (aB-1)).ok p:=by
 refine ch F.q152 aa (aj (af 1 aa (aA (aj (af 2 aa (aN aa (fun J K=>?_) (fun J K=>?_)))))))
 ·exact aj (af 1 aa (ay (aE aa aa ⟨i0,aa,ah⟩)))
 refine aG (aj (ak 2 aa (ai (VN aa aa ae ae (fun Z L M=>?_)))))
 refine ak 1 aa (ai (br aa aa ae ae ?_))
 refine ak 1 aa (ai (VN aa aa ae ae (fun O U Y=>?_)))
 exact af 1 aa (ay (aE aa aa ⟨(dJ O),aa,ah⟩))
theorem tT{T:bC}(F:FT T){a0 a1:DC}(cV:(Ty.i .i64 0 65535).ok a0)(da:(Ty.i .u16 0 65535).ok a1):Sound T 100 [.d a0,.d a1] fun r=>∃y0 y1 y2,r= .agg [.d y0,.d y1,.d y2]∧tJ.ok y0∧tJ.ok y1∧(Ty.s 1000).ok y2:=by
 refine ch F.q100 aa ?_
 obtain⟨aQ,rfl,iF,hJ⟩:=Ty.az cV
 obtain⟨aB,rfl,eS,eT⟩:=Ty.az da
 refine aj (af 1 aa (aA (aj (ak 1 aa (ai (dC aa aa aa ae ae ?_))))))
 refine af 1 aa (aN aa (fun h1 g1=>?_) (fun h1 g1=>?_))
 ·exact aj (af 2 aa (ay (aE aa aa ⟨i0,i0,(al []),aa,ah,ah,(aJ (s:=[]) aD)⟩)))
 refine aG (aA (aj (ak 1 aa (ai (dC aa aa aa ae ae ?_)))))
 refine af 1 aa (aN aa (fun h2 g2=>?_) (fun h2 g2=>?_))
 ·refine aj (ak 1 aa (ai (dC aa aa aa ae ae ?_)))
  refine ai (kn aa aD ae ae ?_)
  refine ai (eb aa aa ae ae ?_)
  refine ai (aY aa (aV aa) (intvC F ah) (fun r3 _ fv=>?_))
  obtain⟨L,M,O,rfl,p,A,G⟩:=fv
  exact af 1 aa (ay (aE aa aa ⟨L,M,O,aa,p,A,G⟩))
 refine aG (aj (ak 2 aa (ai (dC aa aa aa ae ae ?_))))
 have uB:aH QS [[(al [])],[(al [97])],[(al [98,39])]]:=(cY (ao (aJ (s:=[]) aD) bm) (cY (ao (aJ (s:=[97]) aD) bm) (cY (ao (aJ (s:=[98,39]) aD) bm) bN)))
 obtain⟨j4,uy,U⟩:=cE (z:=(aB % 3)) (n:=3) ae ae
 obtain⟨r4,Y⟩:∃r,([[(al [])],[(al [97])],[(al [98,39])]]:List (List DC))[j4]?=some r:=⟨_,dz Pk⟩
 have I:=nu uB Y
 obtain⟨jw,_,rfl,J,I⟩:=b0 I
 obtain rfl:=dy I
 refine ai (e9 rfl (by rw[←uy];rfl) U ?_)
 refine ai (nq (rows:=[[(al [])],[(al [97])],[(al [98,39])]]) aa aa (bM _) (bM _) U Y aa ?_)
 refine af 2 aa (ay ?_)
 obtain⟨K,rfl,Z⟩:=Ty.aJ J
 exact aE aa aa ⟨(dJ 2),i0,(al K),aa,ah,ah,(aJ ax)⟩
theorem Q4{T:bC}(F:FT T){A G:DC}(p:(Ty.i .u16 0 65535).ok A)(z:(Ty.i .u16 0 65535).ok G):Sound T 101 [.d A,.d G] fun r=>∃I J,r= .agg [.d I,.d J]∧(Ty.i .i64 0 40).ok I∧(Ty.i .i64 0 1000000).ok J:=by
 refine ch F.q101 aa ?_
 obtain⟨aQ,rfl,K,L⟩:=Ty.az p
 obtain⟨aB,rfl,M,O⟩:=Ty.az z
 refine aj (af 1 aa (aj (ak 1 aa (ai (dC aa aa aa ae ae ?_)))))
 refine ai (kn aa aD ae ae ?_)
 refine af 3 aa (aA (aj (ak 1 aa (ai (dC aa aa aa ae ae ?_)))))
 refine af 1 aa (aN aa (fun U Y=>?_) (fun U Y=>?_))
 ·exact aS (af 2 aa (aj (af 2 aa (ay (aE aa aa ⟨(dJ (aQ % 40)),(dJ 1000000),aa,ah,ah⟩)))))
 refine aS (ak 2 aa (ai (br aa aa ae ae ?_)))
 refine ak 1 aa (ai (dC aa aa aa ae ae ?_))
 refine ai (kn aa aD ae ae ?_)
 refine ai (br aa aa ae ae ?_)
 exact af 2 aa (aj (af 2 aa (ay (aE aa aa ⟨(dJ (aQ % 40)),(dJ (((aQ % 40)+1)+(aB % 15))),aa,ah,ah⟩))))
theorem abi{T:bC}(F:FT T){O:DC}(K:(Ty.i .u16 0 65535).ok O):Sound T 97 [.d O] fun r=>∃U,r= .d U∧(Ty.s 10).ok U:=by
 refine ch F.q97 aa ?_
 obtain⟨aQ,rfl,Y,Z⟩:=Ty.az K
 refine aj (af 1 aa (aj (ak 2 aa (ai (dC aa aa aa ae ae ?_)))))
 have L:aH QS [[(al [116])],[(al [117])],[(al [119])]]:=(cY (ao (aJ (s:=[116]) aD) bm) (cY (ao (aJ (s:=[117]) aD) bm) (cY (ao (aJ (s:=[119]) aD) bm) bN)))
 obtain⟨j1,M,G⟩:=cE (z:=(aQ % 3)) (n:=3) ae ae
 obtain⟨r1,I⟩:∃r,([[(al [116])],[(al [117])],[(al [119])]]:List (List DC))[j1]?=some r:=⟨_,dz Pk⟩
 have p:=nu L I
 obtain⟨J,_,rfl,A,p⟩:=b0 p
 obtain rfl:=dy p
 refine ai (e9 rfl (by rw[←M];rfl) G ?_)
 refine ai (nq (rows:=[[(al [116])],[(al [117])],[(al [119])]]) aa aa (bM _) (bM _) G I aa ?_)
 exact af 1 aa (ay (aE aa aa ⟨J,aa,A⟩))
theorem Q5{T:bC}(F:FT T){U:DC}(G:(Ty.i .i64 0 4).ok U):Sound T 96 [.d U] fun r=>∃Y Z y2,r= .agg [.d Y,.d Z,.d y2]∧(Ty.i .i64 1 12).ok Y∧(Ty.s 1000).ok Z∧tJ.ok y2:=by
 refine ch F.q96 aa ?_
 obtain⟨aQ,rfl,iF,hJ⟩:=Ty.az G
 refine aj (af 1 aa (aj (af 3 aa (aj (af 3 aa (cN (aP 1 aa (aU (br aa aa ae ae ?_)))))))))
 refine aP 1 aa ?_
 obtain⟨p,I,J⟩:=cE (z:=aQ) (n:=5) ae ae
 refine aU (cx rfl (by rw[←I];rfl) J ?_)
 obtain⟨m1,K,pF⟩:∃m:List UInt8,([.d (al [97]),.d (al [98]),.d (al [99]),.d (al [100]),.d (al [101])]:List VV)[0+p*1]?=some (.d (al m))∧m.length≤1:=by
  rcases(by omega:p=0∨p=1∨p=2∨p=3∨p=4) with rfl|rfl|rfl|rfl|rfl<;>exact⟨_,rfl,aD⟩
 refine bP aa (bJ aa aa K ?_)
 refine aP 1 aa ?_
 obtain⟨A,L,M⟩:=cE (z:=aQ) (n:=5) ae ae
 refine aU (cx rfl (by rw[←L];rfl) M ?_)
 obtain⟨m2,O,qK,um2⟩:∃m:Int,([.d (.i .i64 1),.d (.i .i64 2),.d (.i .i64 1),.d (.i .i64 3),.d (.i .i64 2)]:List VV)[0+A*1]?=some (.d (.i .i64 m))∧1≤m∧m≤3:=by
  rcases(by omega:A=0∨A=1∨A=2∨A=3∨A=4) with rfl|rfl|rfl|rfl|rfl<;>exact⟨_,rfl,ae,ae⟩
 refine bP aa (bJ aa aa O ?_)
 exact cP 2 aa (ay (aE aa aa ⟨(dJ (aQ+1)),(al m1),(dJ m2),aa,ah,(aJ ax),ah⟩))
theorem Xy{T:bC}(F:FT T):Sound T 103 [] fun r=>∃(A:DC)(p:List (List DC)),r= .d A∧aR p A∧(p.length:Int)≤2∧aH cl p∧2≤(p.length:Int):=by
 refine ch F.q103 aa (aj (af 1 aa (aj (af 2 aa ?_))))
 have z:aH cl [[(dJ 1)],[(dJ 2)]]:=(cY (ao ah bm) (cY (ao ah bm) bN))
 exact ma 0 1 aa aa (fun _=>⟨aa,aa⟩) (ay (aE aa aa ⟨(.sl [[(dJ 1)],[(dJ 2)]]),[[(dJ 1)],[(dJ 2)]],aa,(.inl aa),hH,z,ae⟩))
theorem Zl{T:bC}(F:FT T){a0 a1:DC}(Z:tJ.ok a0)(da:(Ty.i .u16 0 65535).ok a1):Sound T 153 [.d a0,.d a1] fun r=>∃y0 y1 y2,r= .agg [.d y0,.d y1,.d y2]∧tJ.ok y0∧tJ.ok y1∧(Ty.s 1000).ok y2:=by
 refine ch F.q153 aa ?_
 obtain⟨aQ,rfl,iF,hJ⟩:=Ty.az Z
 obtain⟨aB,rfl,eS,eT⟩:=Ty.az da
 refine aj (af 1 aa (aA (aj (af 1 aa (bj (aj (af 2 aa (aN aa (fun h1 g1=>?_) (fun h1 g1=>?_)))))))))
 ·refine aj (ak 1 aa (ai (dC aa aa aa ae ae ?_)))
  refine ai (aY aa (aV aa) (tT F ah ah) (fun r2 _ iu=>?_))
  obtain⟨K,L,M,rfl,p,z,A⟩:=iu
  exact af 1 aa (ay (aE aa aa ⟨K,L,M,aa,p,z,A⟩))
 refine aj (af 2 aa (aN aa (fun h3 g3=>?_) (fun h3 g3=>?_)))
 ·refine aj (ak 1 aa (ai (dC aa aa aa ae ae ?_)))
  refine ai (aY aa (aV aa) (tT F ah ah) (fun r4 _ eo=>?_))
  obtain⟨O,U,Y,rfl,G,I,J⟩:=eo
  exact af 1 aa (ay (aE aa aa ⟨O,U,Y,aa,G,I,J⟩))
 refine aj (af 2 aa (aN aa (fun h5 g5=>?_) (fun h5 g5=>?_)))
 ·refine aj (ak 1 aa (ai (dC aa aa aa ae ae ?_)))
  refine ai (kn aa aD ae ae ?_)
  exact af 2 aa (ay (aE aa aa ⟨(dJ 3),(dJ (aB % 2)),(al []),aa,ah,ah,(aJ (s:=[]) aD)⟩))
 exact aG (aj (af 2 aa (ay (aE aa aa ⟨i0,i0,(al []),aa,ah,ah,(aJ (s:=[]) aD)⟩))))
end Go.Ev.Rp
namespace Go.Ev.Rp
open Go Go.Ev.Pp
theorem BC{T:bC}(F:FT T){I J K:DC}(z:tJ.ok I)(A:tJ.ok J)(G:(Ty.s 1000).ok K):Sound T 240 [.agg [.d I,.d J,.d K]] fun r=>∃L,r= .d L∧(Ty.b).ok L:=by
 refine ch F.q240 aa ?_
 obtain⟨aQ,rfl,M,O⟩:=Ty.az z
 obtain⟨aB,rfl,U,Y⟩:=Ty.az A
 obtain⟨sa2,rfl,Z⟩:=Ty.aJ G
 refine aj (af 2 aa (aj (ak 4 aa (bZ (g:=lT) aa (fun p g1=>?_) (fun p g1=>?_)))))
 ·refine aq aa p (bL aa ?_)
  refine aq aa p (bJ aa aa aa ?_)
  refine aq aa p (en aa aa ?_)
  refine ai (aW aa p aa ?_)
  exact af 1 aa (ay (aE aa aa ⟨(.b (decide (aB=1))),aa,bQ⟩))
 refine an aa p (an aa p (an aa p (ai (bd aa p aa ?_))))
 exact af 1 aa (ay (aE aa aa ⟨(.b false),aa,bQ⟩))
theorem pg{T:bC}(F:FT T){z:DC}(p:(Ty.b).ok z):Sound T 294 [.d z] fun r=>∃A G I,r= .agg [.d A,.d G,.d I]∧tJ.ok A∧tJ.ok G∧(Ty.s 1000).ok I:=by
 refine ch F.q294 aa ?_
 obtain⟨J,rfl⟩:=Ty.bQ p
 refine aj (af 1 aa (aA (aj (af 1 aa (db aa (fun K=>?_) (fun K=>?_))))))
 ·exact aj (af 2 aa (ay (aE aa aa ⟨(dJ 3),(dJ 1),(al []),aa,ah,ah,(aJ (s:=[]) aD)⟩)))
 exact aG (aj (af 2 aa (ay (aE aa aa ⟨(dJ 3),i0,(al []),aa,ah,ah,(aJ (s:=[]) aD)⟩))))
theorem qs{T:bC}(F:FT T){G I:DC}(z:tJ.ok G)(A:tJ.ok I):Sound T 281 [.d G,.d I] fun r=>∃J,r= .d J∧(Ty.b).ok J:=by
 refine ch F.q281 aa ?_
 obtain⟨aQ,rfl,K,L⟩:=Ty.az z
 obtain⟨aB,rfl,M,O⟩:=Ty.az A
 refine aj (af 1 aa (aj (ak 4 aa (bZ (g:=qM) aa (fun p U=>?_) (fun p U=>?_)))))
 ·refine an aa p (an aa p (ai (aW aa p aa ?_)))
  exact af 1 aa (ay (aE aa aa ⟨(.b true),aa,bQ⟩))
 refine aq aa p (bf aa ?_)
 refine aq aa p (en aa aa ?_)
 refine ai (bd aa p aa ?_)
 exact af 1 aa (ay (aE aa aa ⟨(.b (decide (aQ=0))),aa,bQ⟩))
theorem Xz{T:bC}(F:FT T){M O U:DC}(I:tJ.ok M)(J:tJ.ok O)(K:(Ty.s 1000).ok U):Sound T 157 [.agg [.d M,.d O,.d U]] fun r=>∃Y,r= .d Y∧(Ty.b).ok Y:=by
 refine ch F.q157 aa ?_
 obtain⟨aQ,rfl,Z,hJ⟩:=Ty.az I
 obtain⟨aB,rfl,eS,eT⟩:=Ty.az J
 obtain⟨z,rfl,hsa2⟩:=Ty.aJ K
 refine aj (af 2 aa (aA (aj (af 2 aa (bj (aj (af 2 aa (aN aa (fun h1 g1=>?_) (fun h1 g1=>?_)))))))))
 ·refine aj (ak 4 aa (bZ (g:=ts) aa (fun h2 g2=>?_) (fun h2 g2=>?_)))
  ·refine aq aa h2 (bL aa ?_)
   refine aq aa h2 (bJ aa aa aa ?_)
   refine aq aa h2 (uW (b:=[]) aa aa ?_)
   refine ai (aW aa h2 aa ?_)
   exact af 1 aa (ay (aE aa aa ⟨(.b (decide (z=[]))),aa,bQ⟩))
  refine an aa h2 (an aa h2 (an aa h2 (ai (bd aa h2 aa ?_))))
  exact af 1 aa (ay (aE aa aa ⟨(.b false),aa,bQ⟩))
 refine aj (af 2 aa (aN aa (fun h4 g4=>?_) (fun h4 g4=>?_)))
 ·refine aj (ak 2 aa (ai (uW (b:=[]) aa aa ?_)))
  exact af 1 aa (ay (aE aa aa ⟨(.b (decide (z=[]))),aa,bQ⟩))
 refine aj (af 2 aa (aN aa (fun h6 g6=>?_) (fun h6 g6=>?_)))
 ·refine aj (ak 4 aa (bZ (g:=tw) aa (fun A g7=>?_) (fun A g7=>?_)))
  ·refine aq aa A (bL aa ?_)
   refine aq aa A (bJ aa aa aa ?_)
   refine aq aa A (Uv aa ?_)
   refine aq aa A (qc aa aa ?_)
   refine ai (aW aa A aa ?_)
   exact af 1 aa (ay (aE aa aa ⟨(.b (decide ((z.length:Int)≤200))),aa,bQ⟩))
  refine an aa A (an aa A (an aa A (an aa A (ai (bd aa A aa ?_)))))
  exact af 1 aa (ay (aE aa aa ⟨(.b false),aa,bQ⟩))
 refine aj (af 2 aa (aN aa (fun h8 g8=>?_) (fun h8 g8=>?_)))
 ·refine aj (ak 4 aa (bZ (g:=ll) aa (fun G g9=>?_) (fun G g9=>?_)))
  ·refine an aa G (an aa G (an aa G (ai (aW aa G aa ?_))))
   refine ak 1 aa (aq aa aa (bL aa ?_))
   refine aq aa aa (bJ aa aa aa ?_)
   refine aq aa aa (uW (b:=[]) aa aa ?_)
   refine ai (aW aa aa aa ?_)
   exact af 1 aa (ay (aE aa aa ⟨(.b (decide (z=[]))),aa,bQ⟩))
  refine aq aa G (bL aa ?_)
  refine aq aa G (bJ aa aa aa ?_)
  refine aq aa G (en aa aa ?_)
  refine ai (bd aa G aa ?_)
  refine ak 1 aa (bZ (g:=gE) aa (fun p L=>?_) (fun p L=>?_))
  ·refine aq aa p (bL aa ?_)
   refine aq aa p (bJ aa aa aa ?_)
   refine aq aa p (uW (b:=[]) aa aa ?_)
   refine ai (aW aa p aa ?_)
   exact af 1 aa (ay (aE aa aa ⟨(.b (decide (z=[]))),aa,bQ⟩))
  refine an aa p (an aa p (an aa p (ai (bd aa p aa ?_))))
  exact af 1 aa (ay (aE aa aa ⟨(.b false),aa,bQ⟩))
 exact aG (aj (af 1 aa (ay (aE aa aa ⟨(.b false),aa,bQ⟩))))
theorem JA{T:bC}(F:FT T){aQ:Int}(Z:aQ≤aQ)(wP:aQ≤aQ):Sound T 253 [.d (dJ aQ)] fun r=>∃(p:Int),r= .d (dJ p)∧((-1)≤p∧p≤2∧(((aQ=1∨aQ=2)→p=0)∧((aQ=10∨aQ=11)→p=1)∧((3≤aQ∧aQ≤9)→p=2)∧(¬(1≤aQ∧aQ≤11)→p= -1))):=by
 refine ch F.q253 aa (aj (af 1 aa (aA (aj (af 1 aa (bj (aA (aj (af 2 aa ?_)))))))))
 refine aN aa (fun J g1=>?_) (fun J g1=>?_)
 ·exact aG (cg aa J (aj (af 1 aa (ay (aE aa aa ⟨0,aa,⟨ae,ae,ae⟩⟩)))))
 refine aS (af 2 aa (aN aa (fun h2 g2=>?_) (fun h2 g2=>?_)))
 ·exact aj (af 1 aa (ay (aE aa aa ⟨0,aa,⟨ae,ae,ae⟩⟩)))
 refine aA (aj (af 2 aa (aN aa (fun K g3=>?_) (fun K g3=>?_))))
 ·exact aG (cg aa K (aj (af 1 aa (ay (aE aa aa ⟨1,aa,⟨ae,ae,ae⟩⟩)))))
 refine aS (af 2 aa (aN aa (fun h4 g4=>?_) (fun h4 g4=>?_)))
 ·exact aj (af 1 aa (ay (aE aa aa ⟨1,aa,⟨ae,ae,ae⟩⟩)))
 refine aA (aj (af 2 aa (aN aa (fun L g5=>?_) (fun L g5=>?_))))
 ·exact aG (cg aa L (aj (af 1 aa (ay (aE aa aa ⟨2,aa,⟨ae,ae,ae⟩⟩)))))
 refine aj (af 2 aa (aN aa (fun M g6=>?_) (fun M g6=>?_)))
 ·exact aG (cg aa M (aj (af 1 aa (ay (aE aa aa ⟨2,aa,⟨ae,ae,ae⟩⟩)))))
 refine aj (af 2 aa (aN aa (fun O g7=>?_) (fun O g7=>?_)))
 ·exact aG (cg aa O (aj (af 1 aa (ay (aE aa aa ⟨2,aa,⟨ae,ae,ae⟩⟩)))))
 refine aj (af 2 aa (aN aa (fun U g8=>?_) (fun U g8=>?_)))
 ·exact aG (cg aa U (aj (af 1 aa (ay (aE aa aa ⟨2,aa,⟨ae,ae,ae⟩⟩)))))
 refine aj (af 2 aa (aN aa (fun Y g9=>?_) (fun Y g9=>?_)))
 ·exact aG (cg aa Y (aj (af 1 aa (ay (aE aa aa ⟨2,aa,⟨ae,ae,ae⟩⟩)))))
 refine aj (af 2 aa (aN aa (fun z A=>?_) (fun z A=>?_)))
 ·exact aG (cg aa z (aj (af 1 aa (ay (aE aa aa ⟨2,aa,⟨ae,ae,ae⟩⟩)))))
 refine aS (af 2 aa (aN aa (fun G I=>?_) (fun G I=>?_)))
 ·exact aj (af 1 aa (ay (aE aa aa ⟨2,aa,⟨ae,ae,ae⟩⟩)))
 exact aG (aj (af 1 aa (ay (aE aa aa ⟨(-1),aa,⟨ae,ae,ae⟩⟩))))
theorem XA{T:bC}(F:FT T){a0:DC}{M:List (List DC)}(p:aR M a0)(ed:M.length≤200)(cW:aH ji M){aB:Int}(nd:0≤aB)(mB:aB≤(M.length:Int) -1){O Y U zC:Int}{x4 x5 x6:DC}(z:M[aB.toNat]?=some [.i .i64 O,.i .i64 Y,.i .i64 U,.i .i64 zC,x4,x5,x6]):Sound T 280 [.d a0,.d (dJ aB)] fun r=>∃(y0:Bool),r=dB y0∧(y0=true→((O=10∨O=11∨(3≤O∧O≤9))→0≤Y∧Y<aB)∧((3≤O∧O≤9)→0≤U∧U<aB)):=by
 refine ch F.q280 aa (aj (af 1 aa (aj (ak 2 aa (ai (bo aa aa p ae z aa ?_))))))
 refine ak 2 aa (ai (aY aa (aV aa) (JA (aQ:=O) F ae ae) (fun r1 _ Z=>?_)))
 obtain⟨dV,rfl,dY⟩:=Z
 refine af 1 aa (aj (ak 3 aa (bZ (g:=tt) aa (fun h2 g2=>?_) (fun h2 g2=>?_))))
 ·refine an aa h2 (an aa h2 (an aa h2 (an aa h2 (an aa h2 (an aa h2 (an aa h2 (bG aa (bG aa (bG aa ?_)))))))))
  refine bG aa (bG aa (bG aa (bG aa (an aa h2 (ai (aW aa h2 aa ?_))))))
  refine ak 1 aa (aq aa aa (bf aa ?_))
  refine aq aa aa (eH aa aa ?_)
  refine aq aa aa (bf aa ?_)
  refine bZ (g:=ox) aa (fun A g3=>?_) (fun A g3=>?_)
  ·refine an aa A (an aa A (an aa A (an aa A (an aa A (an aa A (an aa A (bG aa (bG aa (bG aa ?_)))))))))
   refine bG aa (bG aa (bG aa (bG aa (an aa A (aq aa aa (aW aa A aa ?_))))))
   refine ai (aW aa aa aa ?_)
   exact af 1 aa (ay (aE aa aa ⟨true,aa,iQ⟩))
  refine aq aa A (bf aa ?_)
  refine aq aa A (bf aa ?_)
  refine aq aa A (bo aa aa p ae z aa ?_)
  refine aq aa A (eL aa ?_)
  refine aq aa A (cF aa aa ?_)
  refine aq aa A (jr aa aa ?_)
  refine aq aa A (bf aa ?_)
  refine bZ (g:=gE) aa (fun I g4=>?_) (fun I g4=>?_)
  ·refine aq aa I (bf aa ?_)
   refine aq aa I (bf aa ?_)
   refine aq aa I (bo aa aa p ae z aa ?_)
   refine aq aa I (eL aa ?_)
   refine aq aa I (cF aa aa ?_)
   refine aq aa I (bf aa ?_)
   refine aq aa I (eH aa aa ?_)
   refine aq aa A (aW aa I aa ?_)
   refine aq aa aa (bd aa A aa ?_)
   refine ai (aW aa aa aa ?_)
   exact af 1 aa (ay (aE aa aa ⟨decide (U<aB),aa,iQ⟩))
  refine an aa I (an aa I (an aa I (an aa I (an aa I (an aa I (an aa I (aq aa A (bd aa I aa ?_))))))))
  refine aq aa aa (bd aa A aa ?_)
  refine ai (aW aa aa aa ?_)
  exact af 1 aa (ay (aE aa aa ⟨false,aa,iQ⟩))
 refine aq aa h2 (bf aa ?_)
 refine aq aa h2 (bf aa ?_)
 refine aq aa h2 (bo aa aa p ae z aa ?_)
 refine aq aa h2 (eL aa ?_)
 refine aq aa h2 (cF aa aa ?_)
 refine aq aa h2 (jr aa aa ?_)
 refine aq aa h2 (bf aa ?_)
 refine bZ (g:=ow) aa (fun J g5=>?_) (fun J g5=>?_)
 ·refine aq aa J (bf aa ?_)
  refine aq aa J (bf aa ?_)
  refine aq aa J (bo aa aa p ae z aa ?_)
  refine aq aa J (eL aa ?_)
  refine aq aa J (cF aa aa ?_)
  refine aq aa J (bf aa ?_)
  refine aq aa J (eH aa aa ?_)
  refine aq aa h2 (aW aa J aa ?_)
  refine ai (bd aa h2 aa ?_)
  refine ak 1 aa (bZ (g:=tz) aa (fun L g6=>?_) (fun L g6=>?_))
  ·refine aq aa L (bf aa ?_)
   refine aq aa L (eH aa aa ?_)
   refine aq aa L (bf aa ?_)
   refine bZ (g:=ox) aa (fun G g7=>?_) (fun G g7=>?_)
   ·refine an aa G (an aa G (an aa G (an aa G (an aa G (an aa G (an aa G (bG aa (bG aa (bG aa ?_)))))))))
    refine bG aa (bG aa (bG aa (bG aa (an aa G (aq aa L (aW aa G aa ?_))))))
    refine ai (aW aa L aa ?_)
    exact af 1 aa (ay (aE aa aa ⟨true,aa,iQ⟩))
   refine aq aa G (bf aa ?_)
   refine aq aa G (bf aa ?_)
   refine aq aa G (bo aa aa p ae z aa ?_)
   refine aq aa G (eL aa ?_)
   refine aq aa G (cF aa aa ?_)
   refine aq aa G (jr aa aa ?_)
   refine aq aa G (bf aa ?_)
   refine bZ (g:=gE) aa (fun K g8=>?_) (fun K g8=>?_)
   ·refine aq aa K (bf aa ?_)
    refine aq aa K (bf aa ?_)
    refine aq aa K (bo aa aa p ae z aa ?_)
    refine aq aa K (eL aa ?_)
    refine aq aa K (cF aa aa ?_)
    refine aq aa K (bf aa ?_)
    refine aq aa K (eH aa aa ?_)
    refine aq aa G (aW aa K aa ?_)
    refine aq aa L (bd aa G aa ?_)
    refine ai (aW aa L aa ?_)
    exact af 1 aa (ay (aE aa aa ⟨decide (U<aB),aa,iQ⟩))
   refine an aa K (an aa K (an aa K (an aa K (an aa K (an aa K (an aa K (aq aa G (bd aa K aa ?_))))))))
   refine aq aa L (bd aa G aa ?_)
   refine ai (aW aa L aa ?_)
   exact af 1 aa (ay (aE aa aa ⟨false,aa,iQ⟩))
  refine an aa L (an aa L (an aa L (bG aa (bG aa (bG aa (bG aa (bG aa (bG aa (bG aa ?_)))))))))
  refine bG aa (bG aa (bG aa (bG aa (bG aa (bG aa (bG aa (bG aa (an aa L (ai (bd aa L aa ?_))))))))))
  exact af 1 aa (ay (aE aa aa ⟨false,aa,iQ⟩))
 refine an aa J (an aa J (an aa J (an aa J (an aa J (an aa J (an aa J (aq aa h2 (bd aa J aa ?_))))))))
 refine ai (bd aa h2 aa ?_)
 refine ak 1 aa (an aa aa (an aa aa (an aa aa (bG aa (bG aa (bG aa (bG aa (bG aa (bG aa ?_)))))))))
 refine bG aa (bG aa (bG aa (bG aa (bG aa (bG aa (bG aa (bG aa (bG aa (an aa aa ?_)))))))))
 refine ai (bd aa aa aa ?_)
 exact af 1 aa (ay (aE aa aa ⟨false,aa,iQ⟩))
theorem arithC{T:bC}(F:FT T){a0 a1 a2 a3 a4 a5 a6:DC}(Y:tJ.ok a0)(Z:tJ.ok a1)(dE:tJ.ok a2)(dk:(Ty.s 1000).ok a3)(dg:tJ.ok a4)(dm:tJ.ok a5)(iX:(Ty.s 1000).ok a6):Sound T 295 [.d a0,.agg [.d a1,.d a2,.d a3],.agg [.d a4,.d a5,.d a6]] fun r=>∃y0 y1 y2,r= .agg [.d y0,.d y1,.d y2]∧tJ.ok y0∧tJ.ok y1∧(Ty.s 1000).ok y2:=by
 refine ch F.q295 aa ?_
 obtain⟨aQ,rfl,iF,hJ⟩:=Ty.az Y
 obtain⟨aB,rfl,eS,eT⟩:=Ty.az Z
 obtain⟨bk,rfl,pA,pB⟩:=Ty.az dE
 obtain⟨sa3,rfl,hsa3⟩:=Ty.aJ dk
 obtain⟨bc,rfl,sh,si⟩:=Ty.az dg
 obtain⟨bH,rfl,pC,pD⟩:=Ty.az dm
 obtain⟨nZ,rfl,Q6⟩:=Ty.aJ iX
 refine aj (af 3 aa (aA (aj (ak 4 aa (bZ (g:=tt) aa (fun U g1=>?_) (fun U g1=>?_))))))
 ·refine an aa U (an aa U (an aa U (ai (aW aa U aa ?_))))
  exact bn (cg aa aa (aj (af 2 aa (ay (aE aa aa ⟨i0,i0,(al []),aa,ah,ah,(aJ (s:=[]) aD)⟩)))))
 refine aq aa U (bL aa ?_)
 refine aq aa U (bJ aa aa aa ?_)
 refine aq aa U (eR aa aa ?_)
 refine ai (bd aa U aa ?_)
 refine bn (aN aa (fun h2 g2=>?_) (fun h2 g2=>?_))
 ·exact aj (af 2 aa (ay (aE aa aa ⟨i0,i0,(al []),aa,ah,ah,(aJ (s:=[]) aD)⟩)))
 refine aG (cN (cP 6 aa (aj (ak 2 aa (ai (pZ aa aa (fun z3 hz3=>?_)))))))
 refine af 1 aa (aj (ak 5 aa (ai (U5 aa aa (fun b4=>?_)))))
 refine af 1 aa (aA (aj (af 1 aa (bj (aj (af 2 aa (aN aa (fun h5 g5=>?_) (fun h5 g5=>?_))))))))
 ·refine aj (ak 2 aa (ai (VP aa aa (fun z6 hz6=>?_))))
  refine af 1 aa (aS (ak 5 aa (ai (U5 aa aa (fun b7=>?_)))))
  refine af 1 aa (aA (aj (af 2 aa (db aa (fun h8=>?_) (fun h8=>?_)))))
  ·exact aj (af 2 aa (ay (aE aa aa ⟨i0,i0,(al []),aa,ah,ah,(aJ (s:=[]) aD)⟩)))
  exact aG (aj (af 3 aa (ay (aE aa aa ⟨(dJ 1),(dJ z6),(al []),aa,ah,ah,(aJ (s:=[]) aD)⟩))))
 refine aj (af 2 aa (aN aa (fun h9 g9=>?_) (fun h9 g9=>?_)))
 ·refine aj (ak 2 aa (ai (vi_mulW aa aa (fun G hz10=>?_))))
  refine af 1 aa (aS (ak 3 aa (bZ (g:=yY) aa (fun I fT=>?_) (fun I fT=>?_))))
  ·refine an aa I (an aa I (ai (aW aa I aa ?_)))
   refine ak 1 aa (an aa aa (an aa aa (ai (aW aa aa aa ?_))))
   refine ak 1 aa (an aa aa (an aa aa (ai (aW aa aa aa ?_))))
   refine ak 1 aa (an aa aa (an aa aa (an aa aa (an aa aa (an aa aa (an aa aa (bG aa (bG aa (bG aa ?_)))))))))
   refine bG aa (bG aa (bG aa (bG aa (an aa aa (an aa aa (bG aa (bG aa (bG aa (bG aa ?_)))))))))
   refine bG aa (bG aa (bG aa (an aa aa (ai (aW aa aa aa ?_)))))
   exact af 1 aa (aA (aj (af 2 aa (cH aa aa (aG (aj (af 3 aa (ay (aE aa aa ⟨(dJ 1),(dJ G),(al []),aa,ah,ah,(aJ (s:=[]) aD)⟩)))))))))
  refine aq aa I (bf aa ?_)
  refine aq aa I (en aa aa ?_)
  refine ai (bd aa I aa ?_)
  refine ak 1 aa (bZ (g:=za) aa (fun J gS=>?_) (fun J gS=>?_))
  ·refine an aa J (an aa J (ai (aW aa J aa ?_)))
   refine ak 1 aa (an aa aa (an aa aa (ai (aW aa aa aa ?_))))
   refine ak 1 aa (an aa aa (an aa aa (an aa aa (an aa aa (an aa aa (an aa aa (bG aa (bG aa (bG aa ?_)))))))))
   refine bG aa (bG aa (bG aa (bG aa (an aa aa (an aa aa (bG aa (bG aa (bG aa (bG aa ?_)))))))))
   refine bG aa (bG aa (bG aa (an aa aa (ai (aW aa aa aa ?_)))))
   exact af 1 aa (aA (aj (af 2 aa (cH aa aa (aG (aj (af 3 aa (ay (aE aa aa ⟨(dJ 1),(dJ G),(al []),aa,ah,ah,(aJ (s:=[]) aD)⟩)))))))))
  refine aq aa J (bf aa ?_)
  refine aq aa J (en aa aa ?_)
  refine ai (bd aa J aa ?_)
  refine ak 1 aa (bZ (g:=v8) aa (fun K iv=>?_) (fun K iv=>?_))
  ·refine an aa K (an aa K (ai (aW aa K aa ?_)))
   refine ak 1 aa (an aa aa (an aa aa (an aa aa (an aa aa (an aa aa (an aa aa (bG aa (bG aa (bG aa ?_)))))))))
   refine bG aa (bG aa (bG aa (bG aa (an aa aa (an aa aa (bG aa (bG aa (bG aa (bG aa ?_)))))))))
   refine bG aa (bG aa (bG aa (an aa aa (ai (aW aa aa aa ?_)))))
   exact af 1 aa (aA (aj (af 2 aa (cH aa aa (aG (aj (af 3 aa (ay (aE aa aa ⟨(dJ 1),(dJ G),(al []),aa,ah,ah,(aJ (s:=[]) aD)⟩)))))))))
  refine aq aa K (bf aa ?_)
  refine aq aa K (en aa aa ?_)
  refine ai (bd aa K aa ?_)
  refine ak 1 aa (bZ (g:=Fy) aa (fun p kG=>?_) (fun p kG=>?_))
  ·refine an aa p (an aa p (an aa p (an aa p (an aa p (an aa p (bG aa (bG aa (bG aa (bG aa ?_)))))))))
   refine bG aa (bG aa (bG aa (an aa p (an aa p (bG aa (bG aa (bG aa (bG aa (bG aa ?_)))))))))
   refine bG aa (bG aa (an aa p (ai (aW aa p aa ?_))))
   exact af 1 aa (aA (aj (af 2 aa (cH aa aa (aG (aj (af 3 aa (ay (aE aa aa ⟨(dJ 1),(dJ G),(al []),aa,ah,ah,(aJ (s:=[]) aD)⟩)))))))))
  refine aq aa p (bf aa ?_)
  refine aq aa p (bf aa ?_)
  refine aq aa p (vi_quoW aa aa ae (fun z15 hz15=>?_))
  refine aq aa p (bf aa ?_)
  refine aq aa p (en aa aa ?_)
  refine aq aa p (bf aa ?_)
  refine bZ (g:=Qx) aa (fun z jE=>?_) (fun z jE=>?_)
  ·refine aq aa z (bf aa ?_)
   refine aq aa z (en aa aa ?_)
   refine aq aa z (bf aa ?_)
   refine bZ (g:=FC) aa (fun L jF=>?_) (fun L jF=>?_)
   ·refine aq aa L (bf aa ?_)
    refine aq aa L (en aa aa ?_)
    refine aq aa z (aW aa L aa ?_)
    refine aq aa z (eQ aa ?_)
    refine aq aa p (aW aa z aa ?_)
    refine aq aa p (bf aa ?_)
    refine bZ (g:=QA) aa (fun A ni=>?_) (fun A ni=>?_)
    ·refine aq aa A (bf aa ?_)
     refine aq aa A (en aa aa ?_)
     refine aq aa A (bf aa ?_)
     refine bZ (g:=Ki) aa (fun M uC=>?_) (fun M uC=>?_)
     ·refine aq aa M (bf aa ?_)
      refine aq aa M (en aa aa ?_)
      refine aq aa A (aW aa M aa ?_)
      refine aq aa A (eQ aa ?_)
      refine aq aa p (aW aa A aa ?_)
      refine ai (bd aa p aa ?_)
      refine af 1 aa (aA (aj (af 2 aa (aN aa (fun lZ uD=>?_) (fun lZ uD=>?_)))))
      ·exact aj (af 2 aa (ay (aE aa aa ⟨i0,i0,(al []),aa,ah,ah,(aJ (s:=[]) aD)⟩)))
      exact aG (aj (af 3 aa (ay (aE aa aa ⟨(dJ 1),(dJ G),(al []),aa,ah,ah,(aJ (s:=[]) aD)⟩))))
     refine an aa M (an aa M (aq aa A (bd aa M aa ?_)))
     refine aq aa A (eQ aa ?_)
     refine aq aa p (aW aa A aa ?_)
     refine ai (bd aa p aa ?_)
     exact af 1 aa (aA (aj (af 2 aa (cH aa aa (aG (aj (af 3 aa (ay (aE aa aa ⟨(dJ 1),(dJ G),(al []),aa,ah,ah,(aJ (s:=[]) aD)⟩)))))))))
    refine an aa A (an aa A (an aa A (bG aa (bG aa (an aa A (an aa A (aq aa p (bd aa A aa ?_))))))))
    refine ai (bd aa p aa ?_)
    exact af 1 aa (aA (aj (af 2 aa (cg aa aa (aj (af 2 aa (ay (aE aa aa ⟨i0,i0,(al []),aa,ah,ah,(aJ (s:=[]) aD)⟩))))))))
   refine an aa L (an aa L (aq aa z (bd aa L aa ?_)))
   refine aq aa z (eQ aa ?_)
   refine aq aa p (aW aa z aa ?_)
   refine aq aa p (bf aa ?_)
   refine aq aa aa (bf aa ?_)
   refine aq aa aa (en aa aa ?_)
   refine aq aa aa (bf aa ?_)
   refine bZ (g:=Ki) aa (fun O l7=>?_) (fun O l7=>?_)
   ·refine aq aa O (bf aa ?_)
    refine aq aa O (en aa aa ?_)
    refine aq aa aa (aW aa O aa ?_)
    refine aq aa aa (eQ aa ?_)
    refine aq aa p (aW aa aa aa ?_)
    refine ai (bd aa p aa ?_)
    refine af 1 aa (aA (aj (af 2 aa (aN aa (fun oQ oR=>?_) (fun oQ oR=>?_)))))
    ·exact aj (af 2 aa (ay (aE aa aa ⟨i0,i0,(al []),aa,ah,ah,(aJ (s:=[]) aD)⟩)))
    exact aG (aj (af 3 aa (ay (aE aa aa ⟨(dJ 1),(dJ G),(al []),aa,ah,ah,(aJ (s:=[]) aD)⟩))))
   refine an aa O (an aa O (aq aa aa (bd aa O aa ?_)))
   refine aq aa aa (eQ aa ?_)
   refine aq aa p (aW aa aa aa ?_)
   refine ai (bd aa p aa ?_)
   exact af 1 aa (aA (aj (af 2 aa (cH aa aa (aG (aj (af 3 aa (ay (aE aa aa ⟨(dJ 1),(dJ G),(al []),aa,ah,ah,(aJ (s:=[]) aD)⟩)))))))))
  refine an aa z (an aa z (an aa z (bG aa (bG aa (an aa z (an aa z (aq aa p (bd aa z aa ?_))))))))
  refine aq aa p (bf aa ?_)
  refine an aa aa (an aa aa (an aa aa (bG aa (bG aa (an aa aa (an aa aa (aq aa p (bd aa aa aa ?_))))))))
  refine ai (bd aa p aa ?_)
  exact af 1 aa (aA (aj (af 2 aa (cg aa aa (aj (af 2 aa (ay (aE aa aa ⟨i0,i0,(al []),aa,ah,ah,(aJ (s:=[]) aD)⟩))))))))
 refine aG (aA (aj (af 2 aa (db aa (fun fU=>?_) (fun fU=>?_)))))
 ·exact aj (af 2 aa (ay (aE aa aa ⟨i0,i0,(al []),aa,ah,ah,(aJ (s:=[]) aD)⟩)))
 exact aG (aj (af 3 aa (ay (aE aa aa ⟨(dJ 1),(dJ z3),(al []),aa,ah,ah,(aJ (s:=[]) aD)⟩))))
theorem Zm{T:bC}(F:FT T){a0 a1 a2 a3:DC}(cV:(Ty.l 1000000000 ee).ok a0)(da:(Ty.l 200 cl).ok a1)(dE:(Ty.l 1000000000 ee).ok a2)(dk:(Ty.l 200 cl).ok a3):Sound T 246 [.agg [.d a0,.d a1],.agg [.d a2,.d a3]] fun r=>∃y0,r= .d y0∧(Ty.b).ok y0:=by
 refine ch F.q246 aa ?_
 obtain⟨dP,I,ed,J⟩:=Ty.au cV
 obtain⟨dn,K,fS,L⟩:=Ty.au da
 obtain⟨cu,M,et,O⟩:=Ty.au dE
 obtain⟨e5,U,iS,Y⟩:=Ty.au dk
 refine aj (af 3 aa (aj (ak 4 aa (ai (aY aa (aV aa) (PC F (au I ae J) (au M ae O)) (fun r1 _ dh=>?_))))))
 obtain⟨dV,rfl,z⟩:=dh
 refine af 1 aa (aj ?_)
 obtain⟨zy1_0,rfl,Z,ND⟩:=Ty.az z
 refine ak 3 aa (bZ (g:=lj) aa (fun h2 g2=>?_) (fun h2 g2=>?_))
 ·refine an aa h2 (an aa h2 (an aa h2 (bG aa (bG aa (bG aa (bG aa (bG aa (bG aa (an aa h2 ?_)))))))))
  refine ai (aW aa h2 aa ?_)
  exact af 1 aa (ay (aE aa aa ⟨(.b true),aa,bQ⟩))
 refine aq aa h2 (bf aa ?_)
 refine aq aa h2 (en aa aa ?_)
 refine aq aa h2 (bf aa ?_)
 refine bZ (g:=rU) aa (fun p g3=>?_) (fun p g3=>?_)
 ·refine aq aa p (bL aa ?_)
  refine aq aa p (bJ aa aa aa ?_)
  refine aq aa p (bL aa ?_)
  refine aq aa p (bJ aa aa aa ?_)
  refine aq aa p (aY aa (aV aa) (compI F K ae L U ae Y) (fun r4 _ eo=>?_))
  obtain⟨fk,rfl,A⟩:=eo
  obtain⟨G,rfl,NF,NG⟩:=Ty.az A
  refine aq aa p (eH aa aa ?_)
  refine aq aa h2 (aW aa p aa ?_)
  refine ai (bd aa h2 aa ?_)
  exact af 1 aa (ay (aE aa aa ⟨(.b (decide (G<0))),aa,bQ⟩))
 refine an aa p (an aa p (an aa p (an aa p (an aa p (an aa p (aq aa h2 (bd aa p aa ?_)))))))
 refine ai (bd aa h2 aa ?_)
 exact af 1 aa (ay (aE aa aa ⟨(.b false),aa,bQ⟩))
end Go.Ev.Rp
