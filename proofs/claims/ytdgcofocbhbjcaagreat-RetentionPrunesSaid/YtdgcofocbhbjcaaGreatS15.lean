/- Part 15 of rules for walks through the code of a program, and of such walks; what each part proves is said by its theorems. -/
import Derived.Test.YtdgcofocbhbjcaaGreatS13
import Derived.Test.YtdgcofocbhbjcaaGreatS14
set_option linter.unusedVariables false
set_option linter.unusedSimpArgs false
noncomputable section
set_option maxRecDepth 100000
set_option maxHeartbeats 4000000
namespace Go.Ev.Rp
open Go Go.Ev.Pp
def mi(p:Int)(z:List (List DC))(r:List DC):Bool:= @decide (∃a b,r[4]?=some (dJ a)∧r[5]?=some (dJ b)∧Bx p z a b) (Classical.propDecidable _)
theorem vG{p:Int}{z:List (List DC)}{r:List DC}{a b:Int}(A:r[4]?=some (dJ a))(h2:r[5]?=some (dJ b))(h:Bx p z a b):mi p z r=true:=by
 unfold mi
 exact @decide_eq_true _ (Classical.propDecidable _) ⟨a,b,A,h2,h⟩
theorem vH{p:Int}{z:List (List DC)}{r:List DC}{a b:Int}(G:r[4]?=some (dJ a))(h2:r[5]?=some (dJ b))(h:¬Bx p z a b):mi p z r=false:=by
 unfold mi
 refine @decide_eq_false _ (Classical.propDecidable _) ?_
 rintro⟨c,d,A,F,I⟩
 rw[G] at A;cases A
 rw[h2] at F;cases F
 exact h I
theorem No{w:List (List DC)}{p:List DC→Bool}:[]=(w.take (0:Int).toNat).filter p:=by simp
theorem Np{w w':List (List DC)}{p:List DC→Bool}{k:Int}{r:List DC}(h:w'=(w.take k.toNat).filter p)(h0:0≤k)(z:w[k.toNat]?=some r)(A:p r=true):w'++[r]=(w.take (k+1).toNat).filter p:=by
 rw[show(k+1).toNat=k.toNat+1 by omega,qh,z,h]
 simp[A]
theorem Nq{w w':List (List DC)}{p:List DC→Bool}{k:Int}{r:List DC}(h:w'=(w.take k.toNat).filter p)(h0:0≤k)(z:w[k.toNat]?=some r)(A:p r=false):w'=(w.take (k+1).toNat).filter p:=by
 rw[show(k+1).toNat=k.toNat+1 by omega,qh,z,h]
 simp[A]
theorem A0{R:List DC→List DC→Prop}{w:List (List DC)}:fL R (w.take (0:Int).toNat) []:=⟨by simp,fun q r r' h=>by simp at h⟩
theorem Ax{R:List DC→List DC→Prop}{w w':List (List DC)}{k:Int}{r r':List DC}(h:fL R (w.take k.toNat) w')(h0:0≤k)(G:w[k.toNat]?=some r)(I:R r r'):fL R (w.take (k+1).toNat) (w'++[r']):=by
 have K:=(List.getElem?_eq_some_iff.1 G).1
 have J:w'.length=k.toNat:=by rw[←h.1,jf];omega
 have e:w.take (k+1).toNat=w.take k.toNat++[r]:=by rw[show(k+1).toNat=k.toNat+1 by omega,qh,G];rfl
 rw[e]
 refine⟨by rw[fZ,fZ,h.1];rfl,fun q a b p z=>?_⟩
 have A:(w.take k.toNat).length=k.toNat:=by rw[jf];omega
 by_cases L:q<k.toNat
 ·rw[tn ax] at p z
  exact h.2 q a b p z
 rw[rQ ax,A] at p
 rw[rQ ax,J] at z
 have F:q-k.toNat=0:=by
  rcases Nat.eq_zero_or_pos (q-k.toNat) with h|h
  ·exact h
  rw[yL (by simp;omega)] at p;cases p
 rw[F] at p z
 cases p;cases z
 exact I
theorem L3{R:List DC→List DC→Prop}{w w':List (List DC)}{k:Int}(h:fL R (w.take k.toNat) w')(p:(w.length:Int)≤k):fL R w w':=by rwa [rN ax] at h
def yi(p:Int)(F:List (List DC))(r r':List DC):Prop:=∃z v k f c x A w,r=[z,v,k,f,c,x]∧r'=[z,v,k,f,c,A]∧aR w x∧aR (w.filter (mi p F)) A
theorem yi.mk{p:Int}{F w:List (List DC)}{z v k f c x A:DC}(h:aR w x)(h':aR (w.filter (mi p F)) A):yi p F [z,v,k,f,c,x] [z,v,k,f,c,A]:=⟨z,v,k,f,c,x,A,w,rfl,rfl,h,h'⟩
theorem prX{w w':List (List DC)}{p:List DC→Bool}{k:Int}{d:DC}(z:aR w' d)(h:w'=(w.take k.toNat).filter p)(A:(w.length:Int)≤k):aR (w.filter p) d:=by
 rw[rN ax] at h
 rwa [←h]
theorem pruneR{T:bC}(F:FT T){nv mv:Nat}{a0 a1 a2 a4 a5:DC}(cV:tJ.ok a0)(da:tJ.ok a1){K:List (List DC)}(cO:aR K a2)(et:K.length≤16)(cK:aH (fJ nv mv) K){aO:Int}(oN: -9223372036854775808≤aO)(oO:aO≤9223372036854775807){eU:List (List DC)}(cT:aR eU a4)(fo:eU.length≤20)(dc:aH fy eU)(dm:(Ty.l 0 iR).ok a5)(my:nv≤99)(qR:mv≤100000):Sound T 17 [.agg [.d a0,.d a1,.d a2,.d (dJ aO),.d a4,.d a5]] fun r=>∃(y0:DC)(cQ:List (List DC)),r= .agg [.d a0,.d a1,.d y0,.d (dJ aO),.d a4,.d a5]∧aR cQ y0∧(cQ.length:Int)≤16∧aH (fJ nv mv) cQ∧0≤(cQ.length:Int)∧(fL (yi aO eU) K cQ):=by
 refine ch F.q17 aa ?_
 obtain⟨aQ,rfl,iF,hJ⟩:=Ty.az cV
 obtain⟨aB,rfl,eS,eT⟩:=Ty.az da
 obtain⟨wT,fq,nN,fi⟩:=Ty.au dm
 refine aj (af 2 aa (aj (af 1 aa (aA (aj (af 1 aa (bj (ki 3 90 43 136 6 aa aa ?_))))))))
 refine cb (fun k VE B=>∃(z:Int)(G:List (List DC)),(0≤z∧(z≤(K.length:Int)∨z=0))∧((G.length:Int)≤z)∧(aH (fJ nv mv) G)∧(fL (yi aO eU) (K.take z.toNat) G)∧k=((K.length:Int) -z).toNat∧aT [(0,.agg [.d (dJ aQ),.d (dJ aB),.d a2,.d (dJ aO),.d a4,.d a5]),(1,.vp 1 0),(2,.vp 2 0),(3,.ac 90 G.length 6),(4,.d (dJ z))] VE∧aT [(1,.one 29 96 [.d (dJ aQ),.d (dJ aB),.d a2,.d (dJ aO),.d a4,.d a5]),(2,.one 29 96 [.d i0,.d i0,dN,.d i0,dN,dN]),(90,.acc 43 136 6 G)] B) ?_ (k:=((K.length:Int) -0).toNat) ⟨0,[],ae,cn,bN,(by first|exact A0|exact Ax (by assumption) ae (by assumption) (yi.mk (by assumption) (prX (.acc _) (by assumption) ae))|assumption),rfl,⟨rfl,rfl,rfl,rfl,rfl,trivial⟩,⟨rfl,rfl,rfl,trivial⟩⟩
 rintro _ VE B⟨z,G,c9,fr,Xo,Cl,rfl,hV,hB⟩
 refine bz _ _ hV hB (aA (aj (ak 3 aa (ai (bu aa cO ?_)))))
 refine af 1 aa (aN aa (fun h1 g1=>?_) (fun h1 g1=>?_))
 ·refine aG (aA (bj (aj (ak 3 aa ?_))))
  obtain⟨r2,dj,dA⟩:=bR z cK
  obtain⟨fR,fh,gn,lu,oE,se,rfl,ig,ij,iP,gC,kr,ov⟩:=fe dA
  refine ai (bo aa aa cO ae dj aa ?_)
  refine af 3 aa (aj (af 1 aa (aA (aj (af 1 aa (bj ?_))))))
  obtain⟨J,L,Nr,Ns⟩:=Ty.au ov
  refine ki 6 91 48 64 6 aa aa ?_
  refine cb (fun k VE B=>∃(A:Int)(I:List (List DC)),(0≤A∧(A≤(J.length:Int)∨A=0))∧((I.length:Int)≤A)∧(aH gf I)∧(I=(J.take A.toNat).filter (mi aO eU))∧k=((J.length:Int) -A).toNat∧aT [(0,.agg [.d (dJ aQ),.d (dJ aB),.d a2,.d (dJ aO),.d a4,.d a5]),(1,.vp 1 0),(2,.vp 2 0),(3,.ac 90 G.length 6),(4,.d (dJ z)),(5,.vp 5 0),(6,.ac 91 I.length 6),(7,.d (dJ A)),(12,dB (decide (z<(K.length:Int))))] VE∧aT [(1,.one 29 96 [.d (dJ aQ),.d (dJ aB),.d a2,.d (dJ aO),.d a4,.d a5]),(2,.one 29 96 [.d i0,.d i0,dN,.d i0,dN,dN]),(5,.one 43 136 [.d fR,.d fh,.d gn,.d lu,.d oE,.d se]),(90,.acc 43 136 6 G),(91,.acc 48 64 6 I)] B) ?_ (k:=((J.length:Int) -0).toNat) ⟨0,[],ae,cn,bN,(by first|exact No|exact Np (by assumption) ae (by assumption) (vG rfl rfl (by assumption))|exact Nq (by assumption) ae (by assumption) (vH rfl rfl (by assumption))|assumption),rfl,⟨rfl,rfl,rfl,rfl,rfl,rfl,rfl,rfl,rfl,trivial⟩,⟨rfl,rfl,rfl,rfl,rfl,trivial⟩⟩
  rintro _ VE B⟨A,I,jj,pw,M,aa5,rfl,hV,hB⟩
  refine bz _ _ hV hB (aA (aj (ak 3 aa (ai (bu aa L ?_)))))
  refine af 1 aa (aN aa (fun h3 g3=>?_) (fun h3 g3=>?_))
  ·refine aG (aA (bj (cN (aP 4 aa ?_))))
   obtain⟨r4,eg,eZ⟩:=bR A Ns
   obtain⟨jw,mr,oG,QW,aa0,aa1,rfl,gB,jR,ot,yh,EF,EG⟩:=fe eZ
   refine aU (bo aa aa L ae eg aa ?_)
   refine de aa aa (eF aa (aX aa) (aX aa) ?_)
   obtain⟨O,rfl,hzx4_4,kzx4_4⟩:=Ty.az EF
   obtain⟨U,rfl,hzx4_5,kzx4_5⟩:=Ty.az EG
   refine bP aa (aY aa (aV aa) (Pf (aO:=aO) (gg:=O) (gH:=U) F ah ah jZ ae ae cT ae dc jZ gB jR ot yh ae ae ae ae) (fun r5 _ dL=>?_))
   obtain⟨il,rfl,jS⟩:=dL
   refine cU (db aa (fun h6=>?_) (fun h6=>?_))
   ·have k6:=jS.1 (by simpa using h6)
    refine aS (ak 4 aa (ai (bo aa aa L ae eg aa ?_)))
    obtain⟨Y,rfl,rl,rm⟩:=Ty.az gB
    obtain⟨Jw,ID,IE,Nd⟩:=Ty.au jR
    obtain⟨Z,rfl,hzx4_2,kzx4_2⟩:=Ty.az ot
    obtain⟨Pu,rfl,hzx4_3,kzx4_3⟩:=Ty.az yh
    refine ak 2 aa ?_
    refine ai (cr (rows:=I) (ys:=[[(dJ Y),mr,(dJ Z),(dJ Pu),(dJ O),(dJ U)]]) rfl rfl rfl (.bs (rows:=[[(dJ Y),mr,(dJ Z),(dJ Pu),(dJ O),(dJ U)]]) rfl) aD ae (fun h=>by rw[h];rfl) (fun h=>by rw[h];rfl) ?_)
    refine af 1 aa (aS (ak 1 aa (ai (br aa aa ae ae ?_))))
    refine af 1 aa ?_
    exact⟨((J.length:Int) -((A+1))).toNat,ae,(A+1),(I++[[(dJ Y),mr,(dJ Z),(dJ Pu),(dJ O),(dJ U)]]),ae,cn,(bS M (bX (ao ah (ao (au ID ae Nd) (ao ah (ao ah (ao ah (ao ah bm)))))))),(by first|exact No|exact Np (by assumption) ae (by assumption) (vG rfl rfl (by assumption))|exact Nq (by assumption) ae (by assumption) (vH rfl rfl (by assumption))|assumption),rfl,⟨rfl,rfl,rfl,rfl,rfl,rfl,rfl,rfl,rfl,trivial⟩,⟨rfl,rfl,rfl,rfl,rfl,trivial⟩⟩
   have k6:¬_:=fun p=>absurd (jS.2 p) (by simpa using h6)
   refine aG (aS (ak 1 aa (ai (br aa aa ae ae ?_))))
   refine af 1 aa ?_
   exact⟨((J.length:Int) -((A+1))).toNat,ae,(A+1),I,ae,ae,M,(by first|exact No|exact Np (by assumption) ae (by assumption) (vG rfl rfl (by assumption))|exact Nq (by assumption) ae (by assumption) (vH rfl rfl (by assumption))|assumption),rfl,⟨rfl,rfl,rfl,rfl,rfl,rfl,rfl,rfl,rfl,trivial⟩,⟨rfl,rfl,rfl,rfl,rfl,trivial⟩⟩
  refine bV (aj (ak 2 aa (fO 42 91 aa aa (fun _=>⟨aa,aa⟩) (af 1 aa (aS ?_)))))
  obtain⟨Jx,rfl,hsx2_0⟩:=Ty.aJ ig
  obtain⟨ED,Nt,DN,Nu⟩:=Ty.au ij
  obtain⟨wx2_2,hdx2_2,IF,IG⟩:=Ty.au iP
  obtain⟨Y',Nv,Xp,Nw⟩:=Ty.au gC
  obtain⟨wx2_4,hdx2_4,hnx2_4,hrx2_4⟩:=Ty.au kr
  refine ak 3 aa ?_
  refine ai (cr (rows:=G) (ys:=[[(al Jx),fh,gn,lu,oE,(.cS I)]]) rfl rfl rfl (.bs (rows:=[[(al Jx),fh,gn,lu,oE,(.cS I)]]) rfl) aD ae (fun h=>by rw[h];rfl) (fun h=>by rw[h];rfl) ?_)
  refine af 1 aa (aS (ak 1 aa (ai (br aa aa ae ae ?_))))
  refine af 1 aa ?_
  exact⟨((K.length:Int) -((z+1))).toNat,ae,(z+1),(G++[[(al Jx),fh,gn,lu,oE,(.cS I)]]),ae,cn,(bS Xo (bX (ao (aJ ax) (ao (au Nt ae Nu) (ao (au hdx2_2 ae IG) (ao (au Nv ae Nw) (ao (au hdx2_4 ae hrx2_4) (ao (au (.acc _) ae M) bm)))))))),(by first|exact A0|exact Ax (by assumption) ae (by assumption) (yi.mk (by assumption) (prX (.acc _) (by assumption) ae))|assumption),rfl,⟨rfl,rfl,rfl,rfl,rfl,trivial⟩,⟨rfl,rfl,rfl,trivial⟩⟩
 exact bV (aj (ak 2 aa (fO 48 90 aa aa (fun _=>⟨aa,aa⟩) (af 1 aa (aj (af 2 aa (ay (aE aa aa ⟨(.cS G),G,aa,(.acc _),ae,Xo,ae,(L3 lr ae)⟩))))))))
end Go.Ev.Rp
namespace Go.Ev.Rp
open Go Go.Ev.Pp
theorem nG.mk{f t d p:DC}{w w':List (List DC)}(h:aR w d)(h':aR w' p)(e:w'=w):nG [f,t,d] [f,t,p]:=⟨f,t,d,p,w,rfl,rfl,h,e▸h'⟩
theorem nD.mk{k d p:DC}{w w':List (List DC)}(h:aR w d)(h':aR w' p)(e:w'=w):nD [k,d] [k,p]:=⟨k,d,p,w,rfl,rfl,h,e▸h'⟩
theorem Xq{w:List (List DC)}:[]=w.take (0:Int).toNat:=by simp
theorem Xr{w w':List (List DC)}{k:Int}{r:List DC}(h:w'=w.take k.toNat)(h0:0≤k)(p:w[k.toNat]?=some r):w'++[r]=w.take (k+1).toNat:=by
 rw[show(k+1).toNat=k.toNat+1 by omega,qh,p,h];rfl
theorem take_A{w w':List (List DC)}{k:Int}(h:w'=w.take k.toNat)(p:(w.length:Int)≤k):w'=w:=by rwa [rN ax] at h
theorem clI{T:bC}(F:FT T){J:DC}{p:List (List DC)}(I:aR p J)(K:p.length≤200)(A:aH cl p):Sound T 71 [.d J] fun r=>∃(L:DC)(z:List (List DC)),r= .d L∧aR z L∧(z.length:Int)≤200∧aH cl z∧0≤(z.length:Int)∧(z=p):=by
 refine ch F.q71 aa (aj (af 1 aa (aA (aj (ak 1 aa ?_)))))
 rcases I with G|⟨M,G⟩
 ·subst G
  refine ai (AE aa aa ?_)
  refine bn (cH aa aa (aG (aj (ak 2 aa (ai (sR (rows:=[]) (ys:=p) aa aa aa (.sD (.inl aa) (el A aa)) aD ae ?_))))))
  refine af 1 aa (ma 2 5 aa aa (fun _=>⟨aa,aa⟩) (ay ?_))
  exact aE rfl rfl ⟨(.sl ([]++p)),([]++p),rfl,(.inl rfl),hH,(bS bN A),ae,(by first|exact M.symm|exact rR _|rfl)⟩
 subst G
 refine ai (C1 aa aa ?_)
 refine bn (cg aa aa (aj (af 1 aa (ay ?_))))
 exact aE rfl rfl ⟨.nil,[],rfl,(.inr ⟨rfl,rfl⟩),ae,bN,ae,(by first|exact M.symm|exact rR _|rfl)⟩
theorem clC{T:bC}(F:FT T){J:DC}{p:List (List DC)}(I:aR p J)(K:p.length≤13)(A:aH mo p):Sound T 72 [.d J] fun r=>∃(L:DC)(z:List (List DC)),r= .d L∧aR z L∧(z.length:Int)≤13∧aH mo z∧0≤(z.length:Int)∧(z=p):=by
 refine ch F.q72 aa (aj (af 1 aa (aA (aj (ak 1 aa ?_)))))
 rcases I with G|⟨M,G⟩
 ·subst G
  refine ai (AE aa aa ?_)
  refine bn (cH aa aa (aG (aj (ak 2 aa (ai (sR (rows:=[]) (ys:=p) aa aa aa (.sD (.inl aa) (el A aa)) aD ae ?_))))))
  refine af 1 aa (ma 2 5 aa aa (fun _=>⟨aa,aa⟩) (ay ?_))
  exact aE rfl rfl ⟨(.sl ([]++p)),([]++p),rfl,(.inl rfl),hH,(bS bN A),ae,(by first|exact M.symm|exact rR _|rfl)⟩
 subst G
 refine ai (C1 aa aa ?_)
 refine bn (cg aa aa (aj (af 1 aa (ay ?_))))
 exact aE rfl rfl ⟨.nil,[],rfl,(.inr ⟨rfl,rfl⟩),ae,bN,ae,(by first|exact M.symm|exact rR _|rfl)⟩
theorem clH{T:bC}(F:FT T){J:DC}{p:List (List DC)}(I:aR p J)(K:p.length≤50)(A:aH fy p):Sound T 37 [.d J] fun r=>∃(L:DC)(z:List (List DC)),r= .d L∧aR z L∧(z.length:Int)≤50∧aH fy z∧0≤(z.length:Int)∧(z=p):=by
 refine ch F.q37 aa (aj (af 1 aa (aA (aj (ak 1 aa ?_)))))
 rcases I with G|⟨M,G⟩
 ·subst G
  refine ai (AE aa aa ?_)
  refine bn (cH aa aa (aG (aj (ak 2 aa (ai (sR (rows:=[]) (ys:=p) aa aa aa (.sD (.inl aa) (el A aa)) aD ae ?_))))))
  refine af 1 aa (ma 2 5 aa aa (fun _=>⟨aa,aa⟩) (ay ?_))
  exact aE rfl rfl ⟨(.sl ([]++p)),([]++p),rfl,(.inl rfl),hH,(bS bN A),ae,(by first|exact M.symm|exact rR _|rfl)⟩
 subst G
 refine ai (C1 aa aa ?_)
 refine bn (cg aa aa (aj (af 1 aa (ay ?_))))
 exact aE rfl rfl ⟨.nil,[],rfl,(.inr ⟨rfl,rfl⟩),ae,bN,ae,(by first|exact M.symm|exact rR _|rfl)⟩
theorem clE{T:bC}(F:FT T){z:DC}(p:(Ty.e (DC.sl [[DC.i .i64 1]])).ok z):Sound T 71 [.d z] fun r=>∃A,r= .d A∧(Ty.e (DC.sl [[DC.i .i64 1]])).ok A:=by
 refine ch F.q71 aa ?_
 obtain rfl:=Ty.gm p
 refine aj (af 1 aa (aA (aj (ak 1 aa (ai (AE aa aa ?_))))))
 refine bn (cH aa aa (aG (aj (ak 2 aa (ai (sR (rows:=[]) (ys:=([[DC.i .i64 1]]:List (List DC))) aa aa aa (.sD (.inl aa) (el Bt aa)) aD ae ?_))))))
 exact af 1 aa (ma 2 5 aa aa (fun _=>⟨aa,aa⟩) (ay (aE aa aa ⟨(.sl ([]++([[DC.i .i64 1]]:List (List DC)))),aa,gm⟩)))
theorem clSchema{T:bC}(F:FT T){a0 a1 a2 a3 a4:DC}(cV:(Ty.s 1000).ok a0){K:List (List DC)}(eI:aR K a1)(fS:K.length≤100)(du:aH eB K){cu:List (List DC)}(cO:aR cu a2)(et:cu.length≤200)(cK:aH cl cu){L:List (List DC)}(eC:aR L a3)(iS:L.length≤4)(ef:aH fu L){M:List (List DC)}(cT:aR M a4)(fo:M.length≤4)(dc:aH ez M):Sound T 38 [.agg [.d a0,.d a1,.d a2,.d a3,.d a4]] fun r=>∃(y0:DC)(cQ:List (List DC))(y2:DC)(eJ:List (List DC))(y4:DC)(CO:List (List DC))(y6:DC)(GM:List (List DC)),r= .agg [.d a0,.d y0,.d y2,.d y4,.d y6]∧aR cQ y0∧(cQ.length:Int)≤100∧aH eB cQ∧0≤(cQ.length:Int)∧(fL nG K cQ)∧aR eJ y2∧(eJ.length:Int)≤200∧aH cl eJ∧0≤(eJ.length:Int)∧(eJ=cu)∧aR CO y4∧(CO.length:Int)≤4∧aH fu CO∧0≤(CO.length:Int)∧(CO=L)∧aR GM y6∧(GM.length:Int)≤4∧aH ez GM∧0≤(GM.length:Int)∧(fL nD M GM):=by
 refine ch F.q38 aa ?_
 obtain⟨Z,rfl,kD⟩:=Ty.aJ cV
 refine aj (af 2 aa (cN (aP 4 aa (bP aa (aY aa (aV aa) (clI F cO ae cK) (fun r1 _ dh=>?_))))))
 obtain⟨dV,Pv,rfl,o7,rn,oi,vh,hfy1_0⟩:=dh
 refine cP 3 aa (aA (aj (ak 2 aa (ai (bu aa eI ?_)))))
 refine af 1 aa (bj (xk 3 1 90 135 40 3 aa aa aa ?_))
 refine cb (fun k VE B=>∃(A:Int)(p:List (List DC)),(0≤A∧(A≤(K.length:Int)∨A=0))∧((p.length:Int)≤A)∧(aH eB p)∧(fL nG (K.take A.toNat) p)∧k=((K.length:Int) -A).toNat∧aT [(0,.agg [dS Z,.d a1,.d a2,.d a3,.d a4]),(1,.vp 1 0),(2,.vp 2 0),(3,.vp 3 0),(17,.d a1),(18,.d (dJ (K.length:Int))),(19,.d (dJ A))] VE∧aT [(1,.one 40 112 [dS Z,.d a1,.d a2,.d a3,.d a4]),(2,.one 40 112 [dS [],dN,dN,dN,dN]),(3,.one 40 112 [dS Z,.ac 90 p.length 3,.d dV,dN,dN]),(90,.acc 135 40 3 p)] B) ?_ (k:=((K.length:Int) -0).toNat) ⟨0,[],ae,cn,bN,(by first|exact A0|exact Ax (by assumption) ae (by assumption) (nG.mk (by assumption) (by assumption) (by assumption))|assumption),rfl,⟨rfl,rfl,rfl,rfl,rfl,rfl,rfl,trivial⟩,⟨rfl,rfl,rfl,rfl,trivial⟩⟩
 rintro _ VE B⟨A,p,c9,fr,O,Cl,rfl,hV,hB⟩
 refine bz _ _ hV hB (aj (af 1 aa (aA (aN aa (fun h2 g2=>?_) (fun h2 g2=>?_)))))
 ·refine aG (aA (bj (aj ?_)))
  obtain⟨r3,fG,gQ⟩:=bR A du
  obtain⟨oD,qC,wo,rfl,kt,mM,qp⟩:=c4 gQ
  refine ai (bo aa aa eI ae fG aa ?_)
  refine af 3 aa (fB (aP 6 aa ?_))
  obtain⟨Za,hdx3_2,Xs,Nx⟩:=Ty.au qp
  refine bP aa (aY aa (aV aa) (clC F hdx3_2 ae Nx) (fun r4 _ eo=>?_))
  obtain⟨fk,rI,rfl,A1,xO,oj,A2,hfy4_0⟩:=eo
  obtain⟨vI,rfl,Ny,Nz⟩:=Ty.az kt
  obtain⟨Pw,rfl,hzx3_1,kzx3_1⟩:=Ty.az mM
  refine aP 2 aa ?_
  refine bP rfl (cr (rows:=p) (ys:=[[(dJ vI),(dJ Pw),fk]]) rfl rfl rfl (.bs (rows:=[[(dJ vI),(dJ Pw),fk]]) rfl) aD ae (fun h=>by rw[h];rfl) (fun h=>by rw[h];rfl) ?_)
  refine cP 2 aa (aS (ai (br aa aa ae ae ?_)))
  refine af 1 aa ?_
  exact⟨((K.length:Int) -((A+1))).toNat,ae,(A+1),(p++[[(dJ vI),(dJ Pw),fk]]),ae,cn,(bS O (bX (ao ah (ao ah (ao (au A1 ae oj) bm))))),(by first|exact A0|exact Ax (by assumption) ae (by assumption) (nG.mk (by assumption) (by assumption) (by assumption))|assumption),rfl,⟨rfl,rfl,rfl,rfl,rfl,rfl,rfl,trivial⟩,⟨rfl,rfl,rfl,rfl,trivial⟩⟩
 refine bV (aA (aj (ak 2 aa (ai (bu aa eC ?_)))))
 refine af 1 aa (bj (xk 3 3 91 128 64 3 aa aa aa ?_))
 refine cb (fun k VE B=>∃(G:Int)(z:List (List DC)),(0≤G∧(G≤(L.length:Int)∨G=0))∧((z.length:Int)≤G)∧(aH fu z)∧(z=L.take G.toNat)∧k=((L.length:Int) -G).toNat∧aT [(0,.agg [dS Z,.d a1,.d a2,.d a3,.d a4]),(1,.vp 1 0),(2,.vp 2 0),(3,.vp 3 0),(17,.d a1),(18,.d (dJ (K.length:Int))),(19,.d (dJ A)),(20,dB (decide (A<(K.length:Int)))),(36,.d a3),(37,.d (dJ (L.length:Int))),(38,.d (dJ G))] VE∧aT [(1,.one 40 112 [dS Z,.d a1,.d a2,.d a3,.d a4]),(2,.one 40 112 [dS [],dN,dN,dN,dN]),(3,.one 40 112 [dS Z,.ac 90 p.length 3,.d dV,.ac 91 z.length 3,dN]),(90,.acc 135 40 3 p),(91,.acc 128 64 3 z)] B) ?_ (k:=((L.length:Int) -0).toNat) ⟨0,[],ae,cn,bN,(by first|exact Xq|exact Xr (by assumption) ae (by assumption)|assumption),rfl,⟨rfl,rfl,rfl,rfl,rfl,rfl,rfl,rfl,rfl,rfl,rfl,trivial⟩,⟨rfl,rfl,rfl,rfl,rfl,trivial⟩⟩
 rintro _ VE B⟨G,z,jj,pw,U,aa5,rfl,hV,hB⟩
 refine bz _ _ hV hB (aj (af 1 aa (aA (aN aa (fun h5 g5=>?_) (fun h5 g5=>?_)))))
 ·refine aG (aA (bj (aj ?_)))
  obtain⟨r6,gO,gP⟩:=bR G ef
  obtain⟨tP,zk,Ci,rfl,mg,yg,qn⟩:=c4 gP
  refine ai (bo aa aa eC ae gO aa ?_)
  refine af 3 aa (fB ?_)
  obtain rfl:=Ty.gm mg
  obtain rfl:=Ty.gm qn
  skip
  refine aP 4 aa (bP aa (aY aa (aV aa) (clE F gm) (fun r7 _ nc=>?_)))
  obtain⟨wu,rfl,rJ⟩:=nc
  refine aP 4 aa (bP aa (aY aa (aV aa) (clE F gm) (fun r8 _ lW=>?_)))
  obtain⟨qE,rfl,tc⟩:=lW
  obtain rfl:=Ty.gm rJ
  obtain⟨Px,rfl,hsx6_1⟩:=Ty.aJ yg
  obtain rfl:=Ty.gm tc
  refine aP 2 aa ?_
  refine bP rfl (cr (rows:=z) (ys:=[[(DC.sl [[DC.i .i64 1]]),(al Px),(DC.sl [[DC.i .i64 1]])]]) rfl rfl rfl (.bs (rows:=[[(DC.sl [[DC.i .i64 1]]),(al Px),(DC.sl [[DC.i .i64 1]])]]) rfl) aD ae (fun h=>by rw[h];rfl) (fun h=>by rw[h];rfl) ?_)
  refine cP 2 aa (aS (ai (br aa aa ae ae ?_)))
  refine af 1 aa ?_
  exact⟨((L.length:Int) -((G+1))).toNat,ae,(G+1),(z++[[(DC.sl [[DC.i .i64 1]]),(al Px),(DC.sl [[DC.i .i64 1]])]]),ae,cn,(bS U (bX (ao gm (ao (aJ ax) (ao gm bm))))),(by first|exact Xq|exact Xr (by assumption) ae (by assumption)|assumption),rfl,⟨rfl,rfl,rfl,rfl,rfl,rfl,rfl,rfl,rfl,rfl,rfl,trivial⟩,⟨rfl,rfl,rfl,rfl,rfl,trivial⟩⟩
 refine bV (aA (aj (ak 2 aa (ai (bu aa cT ?_)))))
 refine af 1 aa (bj (xk 3 4 92 137 32 2 aa aa aa ?_))
 refine cb (fun k VE B=>∃(J:Int)(I:List (List DC)),(0≤J∧(J≤(M.length:Int)∨J=0))∧((I.length:Int)≤J)∧(aH ez I)∧(fL nD (M.take J.toNat) I)∧k=((M.length:Int) -J).toNat∧aT [(0,.agg [dS Z,.d a1,.d a2,.d a3,.d a4]),(1,.vp 1 0),(2,.vp 2 0),(3,.vp 3 0),(17,.d a1),(18,.d (dJ (K.length:Int))),(19,.d (dJ A)),(20,dB (decide (A<(K.length:Int)))),(36,.d a3),(37,.d (dJ (L.length:Int))),(38,.d (dJ G)),(39,dB (decide (G<(L.length:Int)))),(58,.d a4),(59,.d (dJ (M.length:Int))),(60,.d (dJ J))] VE∧aT [(1,.one 40 112 [dS Z,.d a1,.d a2,.d a3,.d a4]),(2,.one 40 112 [dS [],dN,dN,dN,dN]),(3,.one 40 112 [dS Z,.ac 90 p.length 3,.d dV,.ac 91 z.length 3,.ac 92 I.length 2]),(90,.acc 135 40 3 p),(91,.acc 128 64 3 z),(92,.acc 137 32 2 I)] B) ?_ (k:=((M.length:Int) -0).toNat) ⟨0,[],ae,cn,bN,(by first|exact A0|exact Ax (by assumption) ae (by assumption) (nD.mk (by assumption) (by assumption) (by assumption))|assumption),rfl,⟨rfl,rfl,rfl,rfl,rfl,rfl,rfl,rfl,rfl,rfl,rfl,rfl,rfl,rfl,rfl,trivial⟩,⟨rfl,rfl,rfl,rfl,rfl,rfl,trivial⟩⟩
 rintro _ VE B⟨J,I,wq,aa6,Y,f2_3,rfl,hV,hB⟩
 refine bz _ _ hV hB (aj (af 1 aa (aA (aN aa (fun h9 g9=>?_) (fun h9 g9=>?_)))))
 ·refine aG (aA (bj (aj ?_)))
  obtain⟨mA,gL,gM⟩:=bR J dc
  obtain⟨mh,oq,rfl,ko,o6⟩:=fc gM
  refine ai (bo aa aa cT ae gL aa ?_)
  refine af 3 aa (fB (aP 6 aa ?_))
  obtain⟨wx10_1,Mm,hnx10_1,Mn⟩:=Ty.au o6
  refine bP aa (aY aa (aV aa) (clI F Mm ae Mn) (fun pN _ lO=>?_))
  obtain⟨pd,Xt,rfl,Dv,VU,nA,hmy11_0,hfy11_0⟩:=lO
  obtain⟨A3,rfl,Mo,Mp⟩:=Ty.az ko
  refine aP 2 aa ?_
  refine bP rfl (cr (rows:=I) (ys:=[[(dJ A3),pd]]) rfl rfl rfl (.bs (rows:=[[(dJ A3),pd]]) rfl) aD ae (fun h=>by rw[h];rfl) (fun h=>by rw[h];rfl) ?_)
  refine cP 2 aa (aS (ai (br aa aa ae ae ?_)))
  refine af 1 aa ?_
  exact⟨((M.length:Int) -((J+1))).toNat,ae,(J+1),(I++[[(dJ A3),pd]]),ae,cn,(bS Y (bX (ao ah (ao (au Dv ae nA) bm)))),(by first|exact A0|exact Ax (by assumption) ae (by assumption) (nD.mk (by assumption) (by assumption) (by assumption))|assumption),rfl,⟨rfl,rfl,rfl,rfl,rfl,rfl,rfl,rfl,rfl,rfl,rfl,rfl,rfl,rfl,rfl,trivial⟩,⟨rfl,rfl,rfl,rfl,rfl,rfl,trivial⟩⟩
 exact bV (aj (ak 1 aa (fO 76 90 aa aa eA (fO 76 91 aa aa eA (fO 76 92 aa aa eA (af 1 aa (ay (aE aa aa ⟨(.cS p),p,dV,Pv,(.cS z),z,(.cS I),I,aa,(.acc _),ae,O,ae,(L3 lr ae),o7,ae,oi,ae,lr,(.acc _),ae,U,ae,(take_A lr ae),(.acc _),ae,Y,ae,(L3 lr ae)⟩))))))))
end Go.Ev.Rp
namespace Go.Ev
open Go
theorem wrote_in{f m:Nat}{l:List Nat}(h:f∈l):wrote f m l=l:=by
 unfold wrote
 rw[show oA f l=true from(Hy _ _).2 h]
 cases Nat.ble m f<;>rfl
theorem wrote_idem{f m:Nat}{ws:List Nat}:wrote f m (wrote f m ws)=wrote f m ws:=by
 by_cases h:f<m
 ·exact wrote_in ((uP _ _ _ _).2 (.inr ⟨aa,h⟩))
 have:∀l,wrote f m l=l:=fun l=>by
  unfold wrote
  rw[gD ax]
  rfl
 rw[this,this]
theorem U':∀l:List DC,gq (l.map .d)=some l
 |[]=>rfl
 |x::r=>by simp only[lg,gq,U' r,rO]
theorem VW{f es n elem aL:Nat}{z:List aw}(G:z.length=es)(h0:0<es):∀(m j:Nat){H:aC}{lo:Nat}{cs:RT},H.t.get f=some (.row elem es aL n lo 0 cs)→lo≤n→(∀q,q<n→∃l,cs.get q=some l∧l.length=es)→j+m≤n→
  ∃H' p A,pr f n es z m (j*es) H= .ok (.tuple []) H'∧H'.next=H.next∧H'.bb=H.bb∧(H'.ws=wrote f H.bb H.ws∨m=0∧H'.ws=H.ws)∧(∀x,x≠f→H'.t.get x=H.t.get x)∧H'.t.get f=some (.row elem es aL n p 0 A)∧p≤n∧∀q,A.get q=if j≤q∧q<j+m then some z else cs.get q
 |0,j,H,lo,cs,I,h2,J,U=>⟨H,lo,cs,rfl,rfl,rfl,.inr ⟨rfl,rfl⟩,fun _ _=>rfl,I,h2,fun q=>by rw[bw ax]⟩
 |m+1,j,H,lo,cs,I,h2,J,U=>by
  obtain⟨l,Y,Z⟩:=J j ax
  have e:=EB (e:=aF.err 28) (K:=fun H=>cA (Nat.add (j*es) es) fun off=>pr f n es z m off H) (q:=j) (o:=0) (n:=es) (new:=z) I h2 ax Y Z G h0 ax
  rw[show(bif Nat.beq es es then z else dH l 0 z)=z by rw[show Nat.beq es es=true from ga es];rfl] at e
  obtain⟨H',p,A,r1,r2,r3,F,r5,r6,r7,r8⟩:=VW G h0 m (j+1) (H:=⟨H.next,H.bb,wrote f H.bb H.ws,H.t.set f (.row elem es aL n n 0 (cs.set j z))⟩) (lo:=n) (cs:=cs.set j z) (by show(H.t.set f _).get f=_;rw[GT.c7,bE rfl]) (bM _)
   (fun q hq=>by
    rw[RT.c7]
    by_cases e:q=j
    ·rw[bE e];exact⟨z,rfl,G⟩
    rw[bw e];exact J q hq) ax
  refine⟨H',p,A,?_,r2,r3,.inl ?_,fun x L=>(r5 x L).trans ?_,r6,r7,fun q=>?_⟩
  ·show wr H f n (j*es) es z (aF.err 28) (fun H=>cA (Nat.add (j*es) es) fun off=>pr f n es z m off H)=_
   have e':wr H f n (j*es) es z (aF.err 28) (fun H=>cA (Nat.add (j*es) es) fun off=>pr f n es z m off H)=_:=e
   rw[e',eP,show Nat.add (j*es) es=(j+1)*es by rw[tp];rfl]
   exact r1
  ·rcases F with F|⟨_,F⟩
   ·rw[F];exact wrote_idem
   exact F
  ·show(H.t.set f _).get x=_
   rw[GT.c7,bw L]
  rw[r8,RT.c7]
  by_cases M:q=j
  ·subst M
   rw[bw ax,bE rfl,bE ax]
  rw[bw M]
  by_cases O:j+1≤q∧q<j+1+m
  ·rw[bE O,bE ax]
  rw[bw O,bw ax]
section
variable{T:bC}{VE:bO}{B:bq}{Q:VV→bq→Prop}
theorem vi_slKhi{x h:aM}{b n es f elem aL e lo j:Nat}{k:IntKind}{rows:List (List DC)}(A:x.vv VE=some (.bs b n es))(F:aZ B b=some (.ct f (.arr elem aL e lo rows)))(G:h.vv VE=some (.d (.i k (j:Int))))(I:j≤n)(J:Q (.k (.slice f n 0 j es)) B):VI T (.rX es x none (some h)) VE B [] Q:=fun H0 X0 E H β p=>by
 obtain⟨_,K,h2⟩:=p.bU A
 obtain⟨_,L,z⟩:=p.bU G
 simp only[aK,cq] at h2 z
 subst h2 z
 refine eu (v:=.slice f n 0 j es) (fun _=>?_) (dp p (v:=.k (.slice f n 0 j es)) (by simp only[aK]) J)
 show bD x E (.err 16) _=_
 rw[cM,K,cJ]
 show aI (Nat.beq es es) (ob (h.ev E) (.err 16) fun v=>ew v (.err 16) fun _ i=>fQ i (.err 16) fun m=>aI (Nat.ble m (rZ n 0 es n)) (cA (Nat.add 0 (Nat.mul 0 es)) fun off=>cA (Nat.sub m 0) fun l=>aF.ok (.slice (β b) n off l es) H) (.err 16)) (.err 16)=_
 rw[show Nat.beq es es=true from ga es,dw,L,cJ]
 show aI (Nat.ble j (rZ n 0 es n)) (cA (Nat.add 0 (Nat.mul 0 es)) fun off=>cA (Nat.sub j 0) fun l=>aF.ok (.slice (β b) n off l es) H) (.err 16)=_
 rw[gD (fY I HM),dw,eP,eP,p.pinned F trivial]
 show aF.ok (aw.slice f n (0+0*es) (j-0) es) H=_
 rw[pn,BU]
theorem vi_slKlo{x h:aM}{b n es f elem aL e lo j:Nat}{k:IntKind}{rows:List (List DC)}(A:x.vv VE=some (.bs b n es))(F:aZ B b=some (.ct f (.arr elem aL e lo rows)))(G:h.vv VE=some (.d (.i k (j:Int))))(I:j≤n)(J:Q (.k (.slice f n (j*es) (n-j) es)) B):VI T (.rX es x (some h) none) VE B [] Q:=fun H0 X0 E H β p=>by
 obtain⟨_,K,h2⟩:=p.bU A
 obtain⟨_,L,z⟩:=p.bU G
 simp only[aK,cq] at h2 z
 subst h2 z
 refine eu (v:=.slice f n (j*es) (n-j) es) (fun _=>?_) (dp p (v:=.k (.slice f n (j*es) (n-j) es)) (by simp only[aK]) J)
 show bD x E (.err 16) _=_
 rw[cM,K,cJ]
 show aI (Nat.beq es es) (ob (h.ev E) (.err 16) fun v=>ew v (.err 16) fun _ i=>fQ i (.err 16) fun m=>aI (Nat.ble m n) (cA (Nat.add 0 (Nat.mul m es)) fun off=>cA (Nat.sub n m) fun l=>aF.ok (.slice (β b) n off l es) H) (.err 16)) (.err 16)=_
 rw[show Nat.beq es es=true from ga es,dw,L,cJ]
 show aI (Nat.ble j n) (cA (Nat.add 0 (Nat.mul j es)) fun off=>cA (Nat.sub n j) fun l=>aF.ok (.slice (β b) n off l es) H) (.err 16)=_
 rw[gD I,dw,eP,eP,p.pinned F trivial]
 show aF.ok (aw.slice f n (0+j*es) (n-j) es) H=_
 rw[fC]
theorem vi_clear{x:aM}{A:List aw}{zr:List DC}{b n es f elem aL lo j:Nat}{rows:List (List DC)}(J:x.vv VE=some (.k (.slice f n (j*es) (n-j) es)))(K:aZ B b=some (.ct f (.arr elem aL es lo rows)))(hn:rows.length=n)(hj:j<n)(hz:od A=some (zr.map .d))(F:A.length=es)(h0:0<es)
  (p:Q (.tuple []) ((b,.ct f (.arr elem aL es n (rows.take j++List.replicate (n-j) zr)))::B)):VI T (.copy es x (.c (.agg A))) VE B [b] Q:=fun H0 X0 E H β I=>by
 obtain⟨_,h1,h2⟩:=I.bU J
 simp only[aK] at h2
 subst h2
 have G:=I.pinned K trivial
 obtain⟨Ab,cs,k1,k2,k3,k4⟩:=(I.box b _ K).2
 rw[G,hn] at k1
 obtain⟨H',L,M,r1,r2,r3,z,r5,r6,r7,r8⟩:=VW (f:=f) F h0 (n-j) j k1 ax (fun q p=>by
  obtain⟨l,O,U,_⟩:=k4 q (rows[q]'(by omega)) (dz _)
  exact⟨l,O,U⟩) ax
 have z:H'.ws=wrote (β b) H.bb H.ws:=by
  rw[G]
  rcases z with z|⟨z,_⟩
  ·exact z
  omega
 refine⟨0,.tuple [],H',fun lf m _ _=>?_,?_⟩
 ·show bD x E (.err 28) _=_
  rw[cM,h1,cJ]
  show aI (Nat.beq es es) (aI (Nat.ble 1 es) (pr f n es A (n-j) (j*es) H) (.err 28)) (.err 28)=_
  rw[show Nat.beq es es=true from ga es,dw,gD h0,dw,r1]
 refine xi (s':=.ct f (.arr elem aL es n (rows.take j++List.replicate (n-j) zr))) I K trivial r2 (fun x J=>r5 x (by rw[←G];exact J)) r3 z (fun X j1 j2=>⟨fun _=>G,?_⟩) (fun X=>by simp only[aK];exact⟨[],rfl,by simp only[bt]⟩) p
 have hlen:(rows.take j++List.replicate (n-j) zr).length=n:=by rw[fZ,jf,qg];omega
 refine⟨L,M,by rw[G,r6,hlen],r7,by rw[hlen];exact bM _,fun q row p=>?_⟩
 rw[r8]
 by_cases Y:q<j
 ·rw[bw ax]
  rw[tn (by rw[jf];omega),yG,bE Y] at p
  obtain⟨l,O,U,m3⟩:=k4 q row p
  exact⟨l,O,U,j2 _ _ m3⟩
 have Z:=(List.getElem?_eq_some_iff.1 p).1
 rw[hlen] at Z
 rw[bE ax]
 rw[rQ (by rw[jf];omega),OT] at p
 split at p
 ·cases p
  exact⟨A,aa,F,(Aq (β:=β) hz).data (U' _)⟩
 cases p
theorem Rel.frzK{H0:Nat→Nat}{X0:Nat→Prop}{E:Env}{H:aC}{β:Nat→Nat}(z:Rel H0 X0 VE B E H β){b f elem aL es lo:Nat}{rows:List (List DC)}(A:aZ B b=some (.ct f (.arr elem aL es lo rows))){k i:Nat}(U:aZ VE k=some (.k (.slice f rows.length 0 i es)))(hi:i≤rows.length):
  Rel H0 X0 ((k,.d (.sl (rows.take i)))::VE) (dT B b) E H β:=by
 have I:=z.pinned A trivial
 have J:¬XB X0 (dT B b) β (β b):=by
  rintro(h|⟨c,s,p,K,h2⟩)
  ·exact(z.new b _ A trivial).1 h
  rw[pW] at p
  by_cases e:b=c
  ·rw[bE e] at p;cases p
  rw[bw e] at p;exact e (z.inj c b s _ p A K trivial h2).symm
 have Y:ff H (XB X0 B β) H (XB X0 (dT B b) β):=⟨bM _,fun f _ J=>⟨fun k=>J (k.imp id fun⟨c,s,p,h2⟩=>⟨c,s,by
  rw[pW] at p
  by_cases e:b=c
  ·rw[bE e] at p;cases p
  rw[bw e] at p;exact p,h2⟩),rfl⟩⟩
 refine(z.drop b).slot U fun a O=>?_
 simp only[aK] at O
 subst O
 have hlen:(rows.take i).length=i:=by rw[jf];omega
 show cq H _ (.sl (rows.take i)) _
 simp only[cq]
 refine⟨f,rows.length,0,es,by rw[hlen],.inr ⟨by rw[←I];exact J,by rw[←I];exact(z.new b _ A trivial).2,0,by simp,dQ.qb fun q row L=>?_⟩⟩
 have F:=(List.getElem?_eq_some_iff.1 L).1
 rw[hlen] at F
 rw[yG,bE F] at L
 have G:=(z.box b _ A).2
 have M:lo≤rows.length:=by obtain⟨_,_,_,_,h,_⟩:=G;exact h
 obtain⟨l,p,h2,Z⟩:=G.cells (g:=rows.length) M (bM _) ax L
 exact⟨l,by rw[fC,←I];exact p,h2,Z.lift Y⟩
theorem vc_frzK{c:IC}{R:Ex→bO→bq→Prop}(k b:Nat){i f elem aL es lo:Nat}{rows:List (List DC)}(p:aZ B b=some (.ct f (.arr elem aL es lo rows)))(z:aZ VE k=some (.k (.slice f rows.length 0 i es)))(hi:i≤rows.length)(h:VC T c ((k,.d (.sl (rows.take i)))::VE) (dT B b) R):VC T c VE B R:=
 fun H0 X0 E H β A=>(h H0 X0 E H β (A.frzK p z hi)).mono fun _ _ _ F=>F.more uV
theorem vc_frzN{c:IC}{R:Ex→bO→bq→Prop}(k b:Nat){i f elem aL es lo n:Nat}{rows:List (List DC)}(p:aZ B b=some (.ct f (.arr elem aL es lo rows)))(z:rows.length=n)(A:aZ VE k=some (.k (.slice f n 0 i es)))(hi:i≤n)(h:VC T c ((k,.d (.sl (rows.take i)))::VE) (dT B b) R):VC T c VE B R:=by
 subst z
 exact vc_frzK k b p A hi h
end
theorem Bz{W w0 w':List (List DC)}{p:List DC→Bool}{i j:Int}{a b:Nat}{r row:List DC}(h:W.take i.toNat=(w0.take j.toNat).filter p)(G:∀q:Nat,j≤q→W[q]?=w0[q]?)(h0:0≤i)(I:i<j)(J:j=a)(K:i=b)(F:W[a]?=some r)(L:p r=true)(M:w'=W.set b (kC row 0 r))(O:row.length=r.length):w'.take (i+1).toNat=(w0.take (j+1).toNat).filter p:=by
 subst J;subst K
 have z:kC row 0 r=r:=by
  unfold kC
  rw[O,show Nat.beq r.length r.length=true from ga _];rfl
 have U:=(List.getElem?_eq_some_iff.1 F).1
 have A:w0[a]?=some r:=by rw[←G a (o9 _)];exact F
 simp only[BT] at h
 rw[M,z,show((b:Int)+1).toNat=b+1 by omega,show((a:Int)+1).toNat=a+1 by omega,qh,List.take_set_of_le (bM _),h,Jh ax,qh,A]
 simp[L]
theorem Py{W w0:List (List DC)}{p:List DC→Bool}{i j:Int}{a:Nat}{r:List DC}(h:W.take i.toNat=(w0.take j.toNat).filter p)(A:∀q:Nat,j≤q→W[q]?=w0[q]?)(F:j=a)(G:W[a]?=some r)(I:p r=false):W.take i.toNat=(w0.take (j+1).toNat).filter p:=by
 subst F
 have z:w0[a]?=some r:=by rw[←A a (o9 _)];exact G
 rw[h,show((a:Int)+1).toNat=a+1 by omega,qh,z]
 simp[I]
theorem Pz{W w0:List (List DC)}{j:Int}(p:∀q:Nat,j≤q→W[q]?=w0[q]?):∀q:Nat,j+1≤q→W[q]?=w0[q]?:=fun q h=>p q ax
theorem del_S{W w0 w':List (List DC)}{i j:Int}{b:Nat}{row:List DC}(p:∀q:Nat,j≤q→W[q]?=w0[q]?)(z:i<j)(F:i=b)(A:w'=W.set b row):∀q:Nat,j+1≤q→w'[q]?=w0[q]?:=fun q h=>by
 rw[A,OX ax]
 exact p q ax
theorem del_0{w0:List (List DC)}{p:List DC→Bool}{i:Int}{r:List DC}(h0:0≤i)(h:(w0.take i.toNat).filter p=w0.take i.toNat)(z:w0[i.toNat]?=some r)(A:p r=false):w0.take i.toNat=(w0.take (i+1).toNat).filter p:=by
 rw[show(i+1).toNat=i.toNat+1 by omega,qh,z,List.filter_append,h]
 simp[A]
theorem del_R{W w0 R:List (List DC)}{p:List DC→Bool}{i j:Int}{a b:Nat}(h:W.take i.toNat=(w0.take j.toNat).filter p)(A:(w0.length:Int)≤j)(z:i=a)(F:i=b)(G:a≤W.length):(W.take a++R).take b=w0.filter p:=by
 have:a=b:=by omega
 subst this
 subst z
 rw[rN (l:=w0) ax] at h
 simp only[BT] at h
 rw[List.take_append_of_le_length (by rw[jf];omega),List.take_take,Nat.min_self,h]
def mu(k:Int)(w:List (List DC))(p:List DC→Bool):Prop:=(w.take k.toNat).filter p=w.take k.toNat
theorem Xu{w:List (List DC)}{p:List DC→Bool}:mu 0 w p:=by simp[mu]
theorem mu.step{k:Int}{w:List (List DC)}{p:List DC→Bool}{a:Nat}{r:List DC}(h:mu k w p)(z:k=a)(A:w[a]?=some r)(F:p r=true):mu (k+1) w p:=by
 subst z
 unfold mu at h⊢
 simp only[BT] at h
 rw[show((a:Int)+1).toNat=a+1 by omega,qh,A,List.filter_append,h]
 simp[F]
theorem mu.all{k:Int}{w:List (List DC)}{p:List DC→Bool}(h:mu k w p)(z:(w.length:Int)≤k):w.filter p=w:=by
 unfold mu at h
 rwa [rN ax] at h
theorem NA{w0:List (List DC)}{p:List DC→Bool}{i:Int}{r:List DC}(h0:0≤i)(h:mu i w0 p)(z:w0[i.toNat]?=some r)(A:p r=false):w0.take i.toNat=(w0.take (i+1).toNat).filter p:=del_0 h0 h z A
theorem NB{W w0 w':List (List DC)}{i j:Int}{b:Nat}{row:List DC}(z:∀q:Nat,j≤q→W[q]?=w0[q]?)(A:w'=W.set b row)(F:i=b)(p:i<j):∀q:Nat,j+1≤q→w'[q]?=w0[q]?:=del_S z p F A
theorem nb_iff{y:Bool}{P:Prop}(h:y=true↔P):((!y)=true↔¬P):=by
 cases y<;>simp_all
section
end
end Go.Ev
namespace Go.Ev.Rp
open Go Go.Ev.Pp
theorem Xv{w:List (List DC)}{z:Int}{a:Nat}{r:List DC}(h:z=a)(p:w[a]?=some r):w[z.toNat]?=some r:=by subst h;exact p
theorem UA{row:List Ty}{w:List (List DC)}{p:List DC→Bool}(h:aH row w):aH row (w.filter p):=fun r z=>h r (List.mem_filter.1 z).1
theorem Zb{T:bC}(F:FT T){a0 a1 a2 a3 L a9 z A G:DC}(M:tJ.ok a0)(O:(Ty.l 1000000000 ee).ok a1)(U:tJ.ok a2)(Y:tJ.ok a3){bc:Int}(pL: -9223372036854775808≤bc)(pM:bc≤9223372036854775807){bH:Int}(Af: -9223372036854775808≤bH)(Ag:bH≤9223372036854775807)(Z:tJ.ok L)(lY:tJ.ok a9)(pz:(Ty.x).ok z){gH:Int}(la11: -9223372036854775808≤gH)(ua11:gH≤9223372036854775807){p:List (List DC)}(I:aR p A)(Zc:p.length≤20)(J:aH fy p)(wv:(Ty.x).ok G):fW T 43 [.agg [.d a0,.d a1,.d a2,.d a3,.d (dJ bc),.d (dJ bH)],.vp 1007 0] [(1008,.one 29 96 [.d L,.d a9,.d z,.d (dJ gH),.d A,.d G]),(1007,.one 63 8 [.vp 1008 0])] fun r B=>∃(y0:Bool),r=dB y0∧B=[(1008,.one 29 96 [.d L,.d a9,.d z,.d (dJ gH),.d A,.d G]),(1007,.one 63 8 [.vp 1008 0])]∧(y0=true↔¬Bx gH p bc bH):=by
 refine lF F.q43 aa ?_
 obtain⟨aQ,rfl,iF,hJ⟩:=Ty.az M
 obtain⟨dn,eI,fS,du⟩:=Ty.au O
 obtain⟨bk,rfl,pA,pB⟩:=Ty.az U
 obtain⟨aO,rfl,lM,lN⟩:=Ty.az Y
 obtain⟨gr,rfl,aa3,aa4⟩:=Ty.az Z
 obtain⟨hU,rfl,Ku,Kv⟩:=Ty.az lY
 refine aj (af 2 aa (cN (aP 5 aa (bP aa (aY aa (aV aa) (keptPr (aO:=gH) (bA:=bc) (bI:=bH) F ah ah jZ ae ae I ae J jZ ae ae ae ae) (fun r1 _ dh=>?_))))))
 obtain⟨K,rfl,dY⟩:=dh
 exact cP 2 aa (ay (⟨_,[(1008,.one 29 96 [.d (dJ gr),.d (dJ hU),.d z,.d (dJ gH),.d A,.d G]),(1007,.one 63 8 [.vp 1008 0])],aa,⟨aa,⟨aa,trivial⟩⟩,⟨(!K),aa,aa,(nb_iff lr)⟩⟩))
theorem idxV{T:bC}(F:FT T){a4 a5 a6 M a9:DC}{A:List (List DC)}(cW:aH gf A)(QX:0≤(A.length:Int))(hxa0:(A.length:Int)≤100000)(dg:tJ.ok a4)(dm:tJ.ok a5)(iX:(Ty.x).ok a6){bI:Int}(nX: -9223372036854775808≤bI)(nY:bI≤9223372036854775807){I:List (List DC)}(iT:aR I M)(zo:I.length≤20)(lL:aH fy I)(lY:(Ty.x).ok a9):fW T 73 [.bs 1001 A.length 6,.fn 43 [.vp 1003 0]] [(1001,.arr 48 64 6 A.length A),(1004,.one 29 96 [.d a4,.d a5,.d a6,.d (dJ bI),.d M,.d a9]),(1003,.one 63 8 [.vp 1004 0])] fun r B=>∃(O:Int),r= .d (dJ O)∧B=[(1001,.arr 48 64 6 A.length A),(1004,.one 29 96 [.d a4,.d a5,.d a6,.d (dJ bI),.d M,.d a9]),(1003,.one 63 8 [.vp 1004 0])]∧((-1)≤O∧O≤(A.length:Int) -1∧((0≤O→mu O A (mi bI I)∧∃r,A[Int.toNat O]?=some r∧mi bI I r=false)∧(O<0→A.filter (mi bI I)=A))):=by
 refine lF F.q73 aa ?_
 obtain⟨bc,rfl,sh,si⟩:=Ty.az dg
 obtain⟨bH,rfl,pC,pD⟩:=Ty.az dm
 refine aj (af 1 aa (aA (aj (af 3 aa (bj ?_)))))
 refine cb (fun k VE B=>∃(G:Int),(0≤G∧(G≤(A.length:Int)∨G=0))∧(mu G A (mi bI I))∧k=((A.length:Int) -G).toNat∧aT [(0,.bs 1001 A.length 6),(1,.fn 43 [.vp 1003 0]),(4,.d i0),(7,.d (dJ (A.length:Int))),(8,.d (dJ G))] VE∧aT [(1001,.arr 48 64 6 A.length A),(1003,.one 63 8 [.vp 1004 0]),(1004,.one 29 96 [.d (dJ bc),.d (dJ bH),.d a6,.d (dJ bI),.d M,.d a9])] B) ?_ (k:=((A.length:Int) -0).toNat) ⟨0,ae,(by first|exact Xu|exact mu.step (by assumption) (by assumption) (by assumption) (vG rfl rfl (Classical.not_not.1 (by assumption)))|assumption),rfl,⟨rfl,rfl,rfl,rfl,rfl,trivial⟩,⟨rfl,rfl,rfl,trivial⟩⟩
 rintro _ VE B⟨G,c9,fr,rfl,hV,hB⟩
 refine bz _ _ hV hB (aj (af 1 aa (aA (aN aa (fun h1 g1=>?_) (fun h1 g1=>?_)))))
 ·refine aG (aA (bj (aj (af 2 aa (aj (ak 3 aa ?_))))))
  obtain⟨j2,ux,U⟩:=cE (z:=G) (n:=A.length) ae ae
  obtain⟨r2,dj,dA⟩:=dX U cW
  obtain⟨fR,fh,gn,lu,oE,se,rfl,Y,Z,iP,gC,kr,ov⟩:=fe dA
  refine ai (e9 rfl (by rw[←ux];rfl) U ?_)
  refine ai (C2 (rows:=A) aa aa (bM _) (bM _) U dj (aX aa) (aX aa) ?_)
  obtain⟨J,rfl,Xe,Xf⟩:=Ty.az kr
  obtain⟨K,rfl,Nb,Nc⟩:=Ty.az ov
  refine ai (LH (dx:=[.agg [.d fR,.d fh,.d gn,.d lu,.d (dJ J),.d (dJ K)],.vp 1007 0]) (Bi:=[(1008,.one 29 96 [.d (dJ bc),.d (dJ bH),.d a6,.d (dJ bI),.d M,.d a9]),(1007,.one 63 8 [.vp 1008 0])]) [(1008,1004),(1007,1003)] 2000 aa aa aa aa aa aa aa aa aa ⟨aa,aa,⟨aa,aa,trivial⟩⟩ (Zb (bc:=J) (bH:=K) (gH:=bI) F Y Z iP gC ae ae ae ae ah ah jZ ae ae iT ae lL jZ) (fun r3 Bn3 fv=>?_))
  obtain⟨iG,rfl,rfl,L⟩:=fv
  refine bn (db aa (fun h4=>?_) (fun h4=>?_))
  ·have k4:=L.1 (by simpa using h4)
   refine aj (af 2 aa (ay ?_))
   exact⟨_,[(1001,.arr 48 64 6 A.length A),(1004,.one 29 96 [.d (dJ bc),.d (dJ bH),.d a6,.d (dJ bI),.d M,.d a9]),(1003,.one 63 8 [.vp 1004 0])],rfl,⟨rfl,⟨rfl,⟨rfl,trivial⟩⟩⟩,⟨G,rfl,rfl,⟨ae,ae,(by first|exact⟨fun _=>⟨by assumption,_,Xv (by assumption) (by assumption),vH rfl rfl (by assumption)⟩,fun h=>absurd h ax⟩|exact⟨fun h=>absurd h aD,fun _=>mu.all (by assumption) ae⟩)⟩⟩⟩
  have k4:¬_:=fun p=>absurd (L.2 p) (by simpa using h4)
  refine aG (aS (ai (br aa aa ae ae ?_)))
  refine af 1 aa ?_
  exact⟨((A.length:Int) -((G+1))).toNat,ae,(G+1),ae,(by first|exact Xu|exact mu.step (by assumption) (by assumption) (by assumption) (vG rfl rfl (Classical.not_not.1 (by assumption)))|assumption),rfl,⟨rfl,rfl,rfl,rfl,rfl,trivial⟩,⟨rfl,rfl,rfl,trivial⟩⟩
 refine bV (aj (af 1 aa (ay ?_)))
 exact⟨_,[(1001,.arr 48 64 6 A.length A),(1004,.one 29 96 [.d (dJ bc),.d (dJ bH),.d a6,.d (dJ bI),.d M,.d a9]),(1003,.one 63 8 [.vp 1004 0])],rfl,⟨rfl,⟨rfl,⟨rfl,trivial⟩⟩⟩,⟨(-1),rfl,rfl,⟨ae,ae,(by first|exact⟨fun _=>⟨by assumption,_,Xv (by assumption) (by assumption),vH rfl rfl (by assumption)⟩,fun h=>absurd h ax⟩|exact⟨fun h=>absurd h aD,fun _=>mu.all (by assumption) ae⟩)⟩⟩⟩
theorem delF{T:bC}(F:FT T){a4 a5 a6 a8 a9:DC}{G:List (List DC)}(O:aH gf G)(QX:0≤(G.length:Int))(hxa0:(G.length:Int)≤100000)(dg:tJ.ok a4)(dm:tJ.ok a5)(iX:(Ty.x).ok a6){bI:Int}(nX: -9223372036854775808≤bI)(nY:bI≤9223372036854775807){Y:List (List DC)}(iT:aR Y a8)(zo:Y.length≤20)(lL:aH fy Y)(lY:(Ty.x).ok a9):fW T 42 [.bs 1001 G.length 6,.fn 43 [.vp 1003 0]] [(1001,.arr 48 64 6 G.length G),(1004,.one 29 96 [.d a4,.d a5,.d a6,.d (dJ bI),.d a8,.d a9]),(1003,.one 63 8 [.vp 1004 0])] fun r B=>∃(y0:DC)(Z:List (List DC)),r= .d y0∧B=[(1004,.one 29 96 [.d a4,.d a5,.d a6,.d (dJ bI),.d a8,.d a9]),(1003,.one 63 8 [.vp 1004 0])]∧aR Z y0∧(Z.length:Int)≤G.length∧aH gf Z∧0≤(Z.length:Int)∧(Z=G.filter (mi bI Y)):=by
 refine lF F.q42 aa ?_
 obtain⟨bc,rfl,sh,si⟩:=Ty.az dg
 obtain⟨bH,rfl,pC,pD⟩:=Ty.az dm
 refine aj (af 1 aa (aj (ak 2 aa (ai (ns (dx:=[.bs 1001 (G.length) 6,.fn 43 [.vp 1003 0]]) (Bi:=[(1001,.arr 48 64 6 (G.length) G),(1004,.one 29 96 [.d (dJ bc),.d (dJ bH),.d a6,.d (dJ bI),.d a8,.d a9]),(1003,.one 63 8 [.vp 1004 0])]) [(1001,1001),(1004,1004),(1003,1003)] 2000 aa aa aa aa aa aa aa ⟨aa,aa,⟨aa,aa,⟨aa,aa,trivial⟩⟩⟩ (idxV (bI:=bI) F O ae ae ah ah jZ ae ae iT ae lL jZ) (fun r1 Bn1 dh=>?_))))))
 obtain⟨U,rfl,rfl,⟨ly1_0,uy1_0,dY⟩⟩:=dh
 refine af 1 aa (aA (aj (af 2 aa (aN aa (fun h2 g2=>?_) (fun h2 g2=>?_)))))
 ·refine aj ?_
  have hrX:=(dY.2 ax).symm
  refine af 2 aa (ma 4 1001 aa aa (fun _=>⟨aa,aa⟩) (ay ?_))
  exact⟨_,[(1004,.one 29 96 [.d (dJ bc),.d (dJ bH),.d a6,.d (dJ bI),.d a8,.d a9]),(1003,.one 63 8 [.vp 1004 0])],rfl,⟨rfl,⟨rfl,trivial⟩⟩,⟨(.sl G),G,rfl,rfl,(.inl rfl),ae,O,ae,(by first|exact hrX|assumption)⟩⟩
 refine aG (aA (aj ?_))
 obtain⟨hk0,rk,hgk,hpk⟩:=dY.1 ax
 refine ak 1 aa (ai (br aa aa ae ae ?_))
 refine af 1 aa (bj ?_)
 refine cb (fun k VE B=>∃(L:Int)(I:Int)(K:Nat)(A:List (List DC)),(0≤L∧L<I)∧(0≤I∧(I≤(G.length:Int)∨I=0))∧(A.length=K)∧(K=G.length)∧(aH gf A)∧(A.take L.toNat=(G.take I.toNat).filter (mi bI Y))∧(∀q:Nat,I≤q→A[q]?=G[q]?)∧k=((G.length:Int) -I).toNat∧aT [(0,.bs 1001 K 6),(1,.fn 43 [.vp 1003 0]),(4,dN),(5,.d (dJ L)),(6,.d (dJ I)),(12,dB (decide (U=(-1))))] VE∧aT [(1001,.arr 48 64 6 K A),(1003,.one 63 8 [.vp 1004 0]),(1004,.one 29 96 [.d (dJ bc),.d (dJ bH),.d a6,.d (dJ bI),.d a8,.d a9])] B) ?_ (k:=((G.length:Int) -((U+1))).toNat) ⟨U,(U+1),(G.length),G,ae,ae,gG,ae,O,(by first|exact NA ae (by assumption) (by assumption) (by assumption)|exact Bz (by assumption) (by assumption) ae ae (by assumption) (by assumption) (by assumption) (vG rfl rfl (Classical.not_not.1 (by assumption))) (by assumption) rfl|exact Bz (by assumption) (by assumption) ae ae (by assumption) (by assumption) (by assumption) (by assumption) (by assumption) rfl|exact Py (by assumption) (by assumption) (by assumption) (by assumption) (vH rfl rfl (by assumption))|assumption),(by first|exact fun _ _=>rfl|exact NB (by assumption) (by assumption) (by assumption) ae|exact Pz (by assumption)|assumption),rfl,⟨rfl,rfl,rfl,rfl,rfl,rfl,trivial⟩,⟨rfl,rfl,rfl,trivial⟩⟩
 rintro _ VE B⟨L,I,K,A,c9,fr,rfl,Cl,J,QY,f0_6,rfl,hV,hB⟩
 refine bz _ _ hV hB (aA (aj (af 4 aa (aN aa (fun h3 g3=>?_) (fun h3 g3=>?_)))))
 ·refine aG (aA (bj (aj (ak 2 aa ?_))))
  obtain⟨j4,uy,pO⟩:=cE (z:=I) (n:=A.length) ae ae
  obtain⟨r4,eg,eZ⟩:=dX pO J
  obtain⟨jw,mr,oG,QW,aa0,aa1,rfl,gB,jR,ot,yh,EF,EG⟩:=fe eZ
  refine ai (e9 rfl (by rw[←uy];rfl) pO ?_)
  refine ai (C2 (rows:=A) aa aa (bM _) (bM _) pO eg (aX aa) (aX aa) ?_)
  refine af 2 aa (aj (ak 2 aa ?_))
  obtain⟨Zd,rfl,hzx4_4,kzx4_4⟩:=Ty.az EF
  obtain⟨Ze,rfl,hzx4_5,kzx4_5⟩:=Ty.az EG
  refine ai (LH (dx:=[.agg [.d jw,.d mr,.d oG,.d QW,.d (dJ Zd),.d (dJ Ze)],.vp 1007 0]) (Bi:=[(1008,.one 29 96 [.d (dJ bc),.d (dJ bH),.d a6,.d (dJ bI),.d a8,.d a9]),(1007,.one 63 8 [.vp 1008 0])]) [(1008,1004),(1007,1003)] 2000 aa aa aa aa aa aa aa aa aa ⟨aa,aa,⟨aa,aa,trivial⟩⟩ (Zb (bc:=Zd) (bH:=Ze) (gH:=bI) F gB jR ot yh ae ae ae ae ah ah jZ ae ae iT ae lL jZ) (fun r5 Sl dL=>?_))
  obtain⟨il,rfl,rfl,jS⟩:=dL
  refine af 1 aa (db aa (fun h6=>?_) (fun h6=>?_))
  ·have k6:¬_:=fun p=>absurd (jS.2 p) (by simpa using h6)
   refine aj (ak 3 aa ?_)
   obtain⟨j7,lD,gu⟩:=cE (z:=L) (n:=A.length) ae ae
   obtain⟨r7,eY,gv⟩:=dX gu J
   obtain⟨nP,qF,wx,aa7,aa8,Kx,rfl,ku,mj,nJ,Jy,Jz,BA⟩:=fe gv
   refine ai (e9 rfl (by rw[←lD];rfl) gu ?_)
   refine jd (pU aa aa aa aa aa aa aD aD eY (fun w8 nh qS=>?_))
   have oP:aH gf w8:=by rw[nh];exact hZ J (ao gB (ao jR (ao ot (ao yh (ao ah (ao ah bm))))))
   rw[←qS]
   refine bn (aS (ak 1 aa (ai (br aa aa ae ae ?_))))
   refine af 1 aa (aS (ak 1 aa (ai (br aa aa ae ae ?_))))
   refine af 1 aa ?_
   exact⟨((G.length:Int) -((I+1))).toNat,ae,(L+1),(I+1),(w8.length),w8,ae,ae,gG,ae,oP,(by first|exact NA ae (by assumption) (by assumption) (by assumption)|exact Bz (by assumption) (by assumption) ae ae (by assumption) (by assumption) (by assumption) (vG rfl rfl (Classical.not_not.1 (by assumption))) (by assumption) rfl|exact Bz (by assumption) (by assumption) ae ae (by assumption) (by assumption) (by assumption) (by assumption) (by assumption) rfl|exact Py (by assumption) (by assumption) (by assumption) (by assumption) (vH rfl rfl (by assumption))|assumption),(by first|exact fun _ _=>rfl|exact NB (by assumption) (by assumption) (by assumption) ae|exact Pz (by assumption)|assumption),rfl,⟨rfl,rfl,rfl,rfl,rfl,rfl,trivial⟩,⟨rfl,rfl,rfl,trivial⟩⟩
  have k6:=jS.1 (by simpa using h6)
  refine aG (aS (ak 1 aa (ai (br aa aa ae ae ?_))))
  refine af 1 aa ?_
  exact⟨((G.length:Int) -((I+1))).toNat,ae,L,(I+1),(A.length),A,ae,ae,gG,ae,J,(by first|exact NA ae (by assumption) (by assumption) (by assumption)|exact Bz (by assumption) (by assumption) ae ae (by assumption) (by assumption) (by assumption) (vG rfl rfl (Classical.not_not.1 (by assumption))) (by assumption) rfl|exact Bz (by assumption) (by assumption) ae ae (by assumption) (by assumption) (by assumption) (by assumption) (by assumption) rfl|exact Py (by assumption) (by assumption) (by assumption) (by assumption) (vH rfl rfl (by assumption))|assumption),(by first|exact fun _ _=>rfl|exact NB (by assumption) (by assumption) (by assumption) ae|exact Pz (by assumption)|assumption),rfl,⟨rfl,rfl,rfl,rfl,rfl,rfl,trivial⟩,⟨rfl,rfl,rfl,trivial⟩⟩
 refine bV (aj (ak 2 aa (Na 1001 aa (fun p9=>?_))))
 obtain⟨M,F1,Cm⟩:=cE (z:=L) (n:=A.length+1) ae ae
 refine ai (vi_slKlo rfl rfl (by rw[←F1];rfl) ae ?_)
 refine jd (vi_clear (b:=1001) (zr:=[i0,.nil,i0,i0,i0,i0]) (n:=A.length) (j:=M) (rows:=A) aa aa aa ae aa aa aD ?_)
 refine bn (aj (ak 2 aa ?_))
 obtain⟨uz,zp,aa9⟩:=cE (z:=L) (n:=A.length+1) ae ae
 refine ai (vi_slKhi rfl rfl (by rw[←zp];rfl) ae ?_)
 refine af 1 aa ?_
 refine vc_frzN 4 1001 (n:=A.length) rfl (by simp only[fZ,jf,qg];omega) rfl ae ?_
 have hres12:(((A.take M++List.replicate (A.length-M) ([i0,.nil,i0,i0,i0,i0]:List DC)):List (List DC)).take uz)=G.filter (mi bI Y):=del_R lr ae lr lr ae
 have hok12:aH gf (((A.take M++List.replicate (A.length-M) ([i0,.nil,i0,i0,i0,i0]:List DC)):List (List DC)).take uz):=by rw[hres12];exact UA O
 refine ay ?_
 exact⟨_,[(1004,.one 29 96 [.d (dJ bc),.d (dJ bH),.d a6,.d (dJ bI),.d a8,.d a9]),(1003,.one 63 8 [.vp 1004 0])],rfl,⟨rfl,⟨rfl,trivial⟩⟩,⟨(.sl (((A.take M++List.replicate (A.length-M) ([i0,.nil,i0,i0,i0,i0]:List DC)):List (List DC)).take uz)),(((A.take M++List.replicate (A.length-M) ([i0,.nil,i0,i0,i0,i0]:List DC)):List (List DC)).take uz),rfl,rfl,(.inl rfl),hH,hok12,ae,(by first|exact hrX|assumption)⟩⟩
end Go.Ev.Rp
