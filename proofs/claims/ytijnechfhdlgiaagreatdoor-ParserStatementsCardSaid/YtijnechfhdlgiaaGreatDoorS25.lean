/- Part 25 of rules for walks through the code of a program, and of such walks; what each part proves is said by its theorems. -/
import Derived.Test.YtijnechfhdlgiaaGreatDoorS23
import Derived.Test.YtijnechfhdlgiaaGreatDoorS24
set_option linter.unusedVariables false
set_option linter.unusedSimpArgs false
noncomputable section
set_option maxRecDepth 100000
set_option maxHeartbeats 4000000
namespace Go.Ev.Pp
open Go
theorem YI{T:bd}(F:FT T){s:Stmt}(G:s.sm):Sound T 19 [eU s.enc,eU s.enc] fun r=>r=dB true:=by
 refine dG F.f19 aa (an 3 aa (aL (ai (ae 4 aa (aj (lV aa aa ?_))))))
 refine ae 1 aa (aw aa aa (dD aa ?_))
 refine aw aa aa (df aa aa aa ?_)
 refine aw aa aa (dD aa ?_)
 refine aw aa aa (df aa aa aa ?_)
 refine aw aa aa (lV aa aa ?_)
 refine ae 2 aa (aw aa aa (dD aa ?_))
 refine aw aa aa (df aa aa aa ?_)
 refine aw aa aa (dD aa ?_)
 refine aw aa aa (df aa aa aa ?_)
 refine aw aa aa (lV aa aa ?_)
 refine ae 2 aa (aw aa aa (dD aa ?_))
 refine aw aa aa (df aa aa aa ?_)
 refine aw aa aa (dD aa ?_)
 refine aw aa aa (df aa aa aa ?_)
 refine aw aa aa (lV aa aa ?_)
 refine ae 2 aa (aw aa aa (dD aa ?_))
 refine aw aa aa (df aa aa aa ?_)
 refine aw aa aa (dD aa ?_)
 refine aw aa aa (df aa aa aa ?_)
 refine aw aa aa (EZ aa aa ?_)
 refine ae 2 aa (aw aa aa (dD aa ?_))
 refine aw aa aa (df aa aa aa ?_)
 refine aw aa aa (dD aa ?_)
 refine aw aa aa (df aa aa aa ?_)
 refine aw aa aa (EZ aa aa ?_)
 refine ae 2 aa (aw aa aa (dD aa ?_))
 refine aw aa aa (oi aa aa (b0 aa) (b0 aa) ?_)
 refine aw aa aa (dD aa ?_)
 refine aw aa aa (oi aa aa (b0 aa) (b0 aa) ?_)
 refine aw aa aa (va (r:=[.i .i64 s.valid.1,.i .i64 s.valid.2]) aa aa aa ?_)
 refine ae 2 aa (aw aa aa (dD aa ?_))
 refine aw aa aa (df aa aa aa ?_)
 refine aw aa aa (dD aa ?_)
 refine aw aa aa (df aa aa aa ?_)
 refine aw aa aa (lV aa aa ?_)
 refine ae 2 aa (aw aa aa (dD aa ?_))
 refine aw aa aa (df aa aa aa ?_)
 refine aw aa aa (dD aa ?_)
 refine aw aa aa (df aa aa aa ?_)
 refine aw aa aa (lV aa aa ?_)
 refine ae 2 aa (aw aa aa (dD aa ?_))
 refine aw aa aa (oi aa aa (b0 aa) (b0 aa) ?_)
 refine aw aa aa (dD aa ?_)
 refine aw aa aa (oi aa aa (b0 aa) (b0 aa) ?_)
 refine aw aa aa (va (r:=[.i .i64 s.xB.1,.i .i64 s.xB.2]) aa aa aa ?_)
 refine ae 2 aa (aw aa aa (dD aa ?_))
 refine aw aa aa (oi aa aa (b0 aa) (b0 aa) ?_)
 refine aw aa aa (dD aa ?_)
 refine aw aa aa (oi aa aa (b0 aa) (b0 aa) ?_)
 refine aw aa aa (cJ (P6 F G.dj) aa aa ?_)
 refine aw aa aa (j0 aa ?_)
 refine ae 2 aa (aw aa aa (dD aa ?_))
 refine aw aa aa (df aa aa aa ?_)
 refine aw aa aa (dD aa ?_)
 refine aw aa aa (df aa aa aa ?_)
 refine aw aa aa (cJ (P4 F G.ex) aa aa ?_)
 refine aw aa aa (j0 aa ?_)
 refine ae 2 aa (aw aa aa (dD aa ?_))
 refine aw aa aa (df aa aa aa ?_)
 refine aw aa aa (dD aa ?_)
 refine aw aa aa (df aa aa aa ?_)
 refine aw aa aa (cJ (FN F G.key) aa aa ?_)
 refine aw aa aa (j0 aa ?_)
 refine ak 1 aa (ef aa aa (aQ (aL (ai (ae 2 aa (aj (iH aa ?_)))))))
 refine ae 2 aa (aj (iH aa ?_))
 refine aj (lV aa aa ?_)
 refine ae 1 aa (aw aa aa (dD aa ?_))
 refine aw aa aa (df aa aa aa ?_)
 refine aw aa aa (iH aa ?_)
 refine aw aa aa (dD aa ?_)
 refine aw aa aa (df aa aa aa ?_)
 refine aw aa aa (iH aa ?_)
 refine aw aa aa (lV aa aa ?_)
 refine ae 2 aa (aw aa aa (dD aa ?_))
 refine aw aa aa (df aa aa aa ?_)
 refine aw aa aa (iH aa ?_)
 refine aw aa aa (dD aa ?_)
 refine aw aa aa (df aa aa aa ?_)
 refine aw aa aa (iH aa ?_)
 refine aw aa aa (lV aa aa ?_)
 refine ae 2 aa (aw aa aa (dD aa ?_))
 refine aw aa aa (df aa aa aa ?_)
 refine aw aa aa (iH aa ?_)
 refine aw aa aa (dD aa ?_)
 refine aw aa aa (df aa aa aa ?_)
 refine aw aa aa (iH aa ?_)
 refine aw aa aa (lV aa aa ?_)
 refine ae 2 aa (aw aa aa (dD aa ?_))
 refine aw aa aa (df aa aa aa ?_)
 refine aw aa aa (iH aa ?_)
 refine aw aa aa (dD aa ?_)
 refine aw aa aa (df aa aa aa ?_)
 refine aw aa aa (iH aa ?_)
 refine aw aa aa (lV aa aa ?_)
 refine ak 1 aa (ef aa aa (aQ (aL (an 1 aa (bM (d7 (fun k VE B=>∃i,i≤s.row.length∧k=s.row.length-i∧bn [(2,.vp 2 0),(3,.vp 3 0),(4,dB false),(5,dI (i:Nat))] VE∧bn [(2,.one 50 328 (s.enc.map .d)),(3,.one 50 328 (s.enc.map .d))] B) ?_ (k:=s.row.length) ⟨0,dp _,aa,⟨aa,aa,aa,aa,trivial⟩,⟨aa,aa,trivial⟩⟩))))))
 rintro k VE B⟨i,hi,rfl,I,J⟩
 refine db _ _ I J (aL (ai (ae 3 aa (aj (iH aa ?_)))))
 refine ak 1 aa (aK aa (fun O=>?_) (fun O=>?_))
 ·have K:=G.row
  have A:i<s.row.length:=by simp at O;omega
  obtain⟨e,he⟩:∃e,s.row[i]?=some e:=⟨_,fe A⟩
  have z:(s.row.map iA.enc)[i]?=some (iA.enc e):=by rw[iJ,he];rfl
  refine aQ (aL (bM (eO (bD 3 aa (bG (jY aa aa z aa ?_))))))
  refine kp aa aa (mR aa aq (bR 3) ?_)
  refine bD 3 aa (bG (jY aa aa z aa ?_))
  refine kp aa aa (mR aa aq (bR 3) ?_)
  refine bG (va (r:=iA.enc e) aa aa aa ?_)
  refine ow (ef aa aa (aQ (bC (ae 1 aa (aj (cM aa aa ah ?_))))))
  exact ak 1 aa (⟨s.row.length-(i+1),ah,i+1,ah,aa,⟨aa,aa,aa,aa,trivial⟩,⟨aa,aa,trivial⟩⟩)
 refine dJ (aL (an 1 aa (bM (d7 (fun k VE B=>∃i,i≤s.nC.length∧k=s.nC.length-i∧bn [(2,.vp 2 0),(3,.vp 3 0),(4,dB false),(6,dI (i:Nat))] VE∧bn [(2,.one 50 328 (s.enc.map .d)),(3,.one 50 328 (s.enc.map .d))] B) ?_ (k:=s.nC.length) ⟨0,dp _,aa,⟨aa,aa,aa,aa,trivial⟩,⟨aa,aa,trivial⟩⟩))))
 rintro k VE B⟨i,hi,rfl,I,J⟩
 refine db _ _ I J (aL (ai (ae 3 aa (aj (iH aa ?_)))))
 refine ak 1 aa (aK aa (fun U=>?_) (fun U=>?_))
 ·have K:=G.nC
  have A:i<s.nC.length:=by simp at U;omega
  obtain⟨e,he⟩:∃e,s.nC[i]?=some e:=⟨_,fe A⟩
  have z:(s.nC.map fm)[i]?=some (fm e):=by rw[iJ,he];rfl
  refine aQ (aL (bM (eO (bD 3 aa (bG (jY aa aa z aa ?_))))))
  refine kp aa aa (mR aa aq (bR 2) ?_)
  refine bD 3 aa (bG (jY aa aa z aa ?_))
  refine kp aa aa (mR aa aq (bR 2) ?_)
  refine bG (va (r:=fm e) aa aa aa ?_)
  refine ow (ef aa aa (aQ (bC (ae 1 aa (aj (cM aa aa ah ?_))))))
  exact ak 1 aa (⟨s.nC.length-(i+1),ah,i+1,ah,aa,⟨aa,aa,aa,aa,trivial⟩,⟨aa,aa,trivial⟩⟩)
 refine dJ (aL (an 1 aa (bM (d7 (fun k VE B=>∃i,i≤s.jK.length∧k=s.jK.length-i∧bn [(2,.vp 2 0),(3,.vp 3 0),(4,dB false),(7,dI (i:Nat))] VE∧bn [(2,.one 50 328 (s.enc.map .d)),(3,.one 50 328 (s.enc.map .d))] B) ?_ (k:=s.jK.length) ⟨0,dp _,aa,⟨aa,aa,aa,aa,trivial⟩,⟨aa,aa,trivial⟩⟩))))
 rintro k VE B⟨i,hi,rfl,I,J⟩
 refine db _ _ I J (aL (ai (ae 3 aa (aj (iH aa ?_)))))
 refine ak 1 aa (aK aa (fun Y=>?_) (fun Y=>?_))
 ·have K:=G.jK
  have A:i<s.jK.length:=by simp at Y;omega
  obtain⟨e,he⟩:∃e,s.jK[i]?=some e:=⟨_,fe A⟩
  have z:(s.jK.map di)[i]?=some (di e):=by rw[iJ,he];rfl
  refine aQ (aL (bM (eO (bD 3 aa (bG (jY aa aa z aa ?_))))))
  refine kp aa aa (mR aa aq (bR 3) ?_)
  refine bD 3 aa (bG (jY aa aa z aa ?_))
  refine kp aa aa (mR aa aq (bR 3) ?_)
  refine bG (va (r:=di e) aa aa aa ?_)
  refine ow (ef aa aa (aQ (bC (ae 1 aa (aj (cM aa aa ah ?_))))))
  exact ak 1 aa (⟨s.jK.length-(i+1),ah,i+1,ah,aa,⟨aa,aa,aa,aa,trivial⟩,⟨aa,aa,trivial⟩⟩)
 refine dJ (aL (an 1 aa (bM (d7 (fun k VE B=>∃i,i≤s.mO.length∧k=s.mO.length-i∧bn [(2,.vp 2 0),(3,.vp 3 0),(4,dB false),(8,dI (i:Nat))] VE∧bn [(2,.one 50 328 (s.enc.map .d)),(3,.one 50 328 (s.enc.map .d))] B) ?_ (k:=s.mO.length) ⟨0,dp _,aa,⟨aa,aa,aa,aa,trivial⟩,⟨aa,aa,trivial⟩⟩))))
 rintro k VE B⟨i,hi,rfl,I,J⟩
 refine db _ _ I J (aL (ai (ae 3 aa (aj (iH aa ?_)))))
 refine ak 1 aa (aK aa (fun Z=>?_) (fun Z=>?_))
 ·have K:=G.mO
  have A:i<s.mO.length:=by simp at Z;omega
  obtain⟨e,he⟩:∃e,s.mO[i]?=some e:=⟨_,fe A⟩
  have z:(s.mO.map Fk.enc)[i]?=some (Fk.enc e):=by rw[iJ,he];rfl
  refine aQ (aL (bM (eO (bD 3 aa (bG (jY aa aa z aa ?_))))))
  refine kp aa aa (mR aa aq (bR 3) ?_)
  refine bD 3 aa (bG (jY aa aa z aa ?_))
  refine kp aa aa (mR aa aq (bR 3) ?_)
  refine du 4 aa (ai (ae 4 aa (aj (EZ aa aa ?_))))
  refine ae 1 aa (aw aa aa (dD aa ?_))
  refine aw aa aa (df aa aa aa ?_)
  refine aw aa aa (dD aa ?_)
  refine aw aa aa (df aa aa aa ?_)
  refine aw aa aa (cJ (FN F (G.fk e (lJ he)).1) aa aa ?_)
  refine aw aa aa (j0 aa ?_)
  refine ae 2 aa (aw aa aa (dD aa ?_))
  refine aw aa aa (df aa aa aa ?_)
  refine aw aa aa (dD aa ?_)
  refine aw aa aa (df aa aa aa ?_)
  refine aw aa aa (cJ (FN F (G.fk e (lJ he)).2) aa aa ?_)
  refine aw aa aa (j0 aa ?_)
  refine ak 1 aa (ef aa aa (aQ (bC (ae 1 aa (aj (cM aa aa ah ?_))))))
  exact ak 1 aa (⟨s.mO.length-(i+1),ah,i+1,ah,aa,⟨aa,aa,aa,aa,trivial⟩,⟨aa,aa,trivial⟩⟩)
 refine dJ (aL (an 1 aa (bM (d7 (fun k VE B=>∃i,i≤s.cons.length∧k=s.cons.length-i∧bn [(2,.vp 2 0),(3,.vp 3 0),(4,dB false),(11,dI (i:Nat))] VE∧bn [(2,.one 50 328 (s.enc.map .d)),(3,.one 50 328 (s.enc.map .d))] B) ?_ (k:=s.cons.length) ⟨0,dp _,aa,⟨aa,aa,aa,aa,trivial⟩,⟨aa,aa,trivial⟩⟩))))
 rintro k VE B⟨i,hi,rfl,I,J⟩
 refine db _ _ I J (aL (ai (ae 3 aa (aj (iH aa ?_)))))
 refine ak 1 aa (aK aa (fun QU=>?_) (fun QU=>?_))
 ·have K:=G.cons
  have A:i<s.cons.length:=by simp at QU;omega
  obtain⟨e,he⟩:∃e,s.cons[i]?=some e:=⟨_,fe A⟩
  have z:(s.cons.map eu)[i]?=some (eu e):=by rw[iJ,he];rfl
  refine aQ (aL (bM (eO (bD 3 aa (bG (jY aa aa z aa ?_))))))
  refine bD 1 aa (kp aa aa (km (x:=.i .i64 e.1) aa aa ?_))
  refine bD 3 aa (bG (jY aa aa z aa ?_))
  refine bD 1 aa (kp aa aa (km (x:=.i .i64 e.1) aa aa ?_))
  refine bG (lV aa aa ?_)
  refine bD 1 aa (ey aa aa (dD aa ?_))
  refine iR aa aa aa (df aa aa aa ?_)
  refine ey aa aa (bY aa ?_)
  refine ey aa aa (jY aa aa z aa ?_)
  refine ey aa aa (oj aa ?_)
  refine iR aa aa aa (km (x:=gC e.2) aa aa ?_)
  refine ey aa aa (dD aa ?_)
  refine iR aa aa aa (df aa aa aa ?_)
  refine ey aa aa (bY aa ?_)
  refine ey aa aa (jY aa aa z aa ?_)
  refine ey aa aa (oj aa ?_)
  refine iR aa aa aa (km (x:=gC e.2) aa aa ?_)
  refine iR aa aa aa (cJ (FN F (G.ik e (lJ he))) aa aa ?_)
  refine ey aa aa (j0 aa ?_)
  refine du 1 aa (ef aa aa (aQ (bC (ae 1 aa (aj (cM aa aa ah ?_))))))
  exact ak 1 aa (⟨s.cons.length-(i+1),ah,i+1,ah,aa,⟨aa,aa,aa,aa,trivial⟩,⟨aa,aa,trivial⟩⟩)
 exact dJ (an 1 aa (ay (bt aa aa aa)))
def qy(s:List UInt8):Stmt×Int×Int:=if¬(e6 s).2.2=0 then({},((e6 s).2.1:Nat),(e6 s).2.2) else md sB (e6 s).1
def qq(s:List UInt8):jW×Int×Int:=if¬(e6 s).2.2=0 then(⟨[],[]⟩,((e6 s).2.1:Nat),(e6 s).2.2) else mb sB (e6 s).1
theorem Ez{s:List UInt8}(h:(e6 s).2.2=0):(e6 s).1.map cu.enc≠[]:=fun k=>by
 have:=(wF h).ne
 rw[List.map_eq_nil_iff.1 k] at this;exact absurd this aq
theorem Uu{s:List UInt8}:(qy s).1.sm:=by
 unfold qy
 split
 ·exact nP
 rename_i h;exact Ut (wF (by simpa using h))
theorem TE{s:List UInt8}:(qq s).1.sm:=by
 unfold qq
 split
 ·exact Ie
 rename_i h;exact TD (wF (by simpa using h))
theorem XO{T:bd}(F:FT T)(X:FX T)(s:List UInt8):Sound T 13 [dS s] fun r=>r= .tuple [eU (qy s).1.enc,dI (qy s).2.1,dI (qy s).2.2]:=by
 refine dG F.f13 aa (an 3 aa (ai (ae 1 aa (aj (cJ (R:=.tuple [.d (.fC ((e6 s).1.map cu.enc)),dI ((e6 s).2.1:Nat),dI (e6 s).2.2]) (P3 F X s) aa aa ?_)))))
 refine ak 7 aa (aL (an 2 aa (aK aa (fun z=>?_) (fun z=>?_))))
 ·have A:qy s=(({}:Stmt),(((e6 s).2.1:Nat):Int),(e6 s).2.2):=az (by simpa using z)
  refine an 6 aa (ay ?_)
  exact bt rfl rfl (by rw[A];rfl)
 have he:(e6 s).2.2=0:=by simpa using z
 have G:=wF he
 rw[DC.rT (Ez he)]
 have A:qy s=md sB (e6 s).1:=al (fun k=>k he)
 refine aQ (ai (ae 1 aa (aj (cJ (Sz F (leaf F X) G) aa aa ?_))))
 refine ak 6 aa (ay ?_)
 exact bt rfl rfl (by rw[A];rfl)
theorem WW{T:bd}(F:FT T)(s:List UInt8):Sound T 17 [dS s] fun r=>r= .tuple [eU (qy s).1.enc,dI (qy s).2.1,dI (qy s).2.2]:=by
 refine dG F.f17 aa (an 3 aa (ai (ae 1 aa (aj (cJ (R:=.tuple [.d (.fC ((e6 s).1.map cu.enc)),dI ((e6 s).2.1:Nat),dI (e6 s).2.2]) (FM F s) aa aa ?_)))))
 refine ak 7 aa (aL (an 2 aa (aK aa (fun z=>?_) (fun z=>?_))))
 ·have A:qy s=(({}:Stmt),(((e6 s).2.1:Nat):Int),(e6 s).2.2):=az (by simpa using z)
  refine an 6 aa (ay ?_)
  exact bt rfl rfl (by rw[A];rfl)
 have he:(e6 s).2.2=0:=by simpa using z
 have G:=wF he
 rw[DC.rT (Ez he)]
 have A:qy s=md sB (e6 s).1:=al (fun k=>k he)
 refine aQ (ai (ae 1 aa (aj (cJ (SA F (P2 F) G) aa aa ?_))))
 refine ak 6 aa (ay ?_)
 exact bt rfl rfl (by rw[A];rfl)
theorem WX{T:bd}(F:FT T)(X:FX T)(s:List UInt8):Sound T 14 [dS s] fun r=>r= .tuple [eU (qq s).1.enc,dI (qq s).2.1,dI (qq s).2.2]:=by
 refine dG F.f14 aa (an 3 aa (ai (ae 1 aa (aj (cJ (R:=.tuple [.d (.fC ((e6 s).1.map cu.enc)),dI ((e6 s).2.1:Nat),dI (e6 s).2.2]) (P3 F X s) aa aa ?_)))))
 refine ak 7 aa (aL (an 2 aa (aK aa (fun z=>?_) (fun z=>?_))))
 ·have A:qq s=((⟨[],[]⟩:jW),(((e6 s).2.1:Nat):Int),(e6 s).2.2):=az (by simpa using z)
  refine an 6 aa (ay ?_)
  exact bt rfl rfl (by rw[A];rfl)
 have he:(e6 s).2.2=0:=by simpa using z
 have G:=wF he
 rw[DC.rT (Ez he)]
 have A:qq s=mb sB (e6 s).1:=al (fun k=>k he)
 refine aQ (ai (ae 1 aa (aj (cJ (Sn F (leaf F X) G) aa aa ?_))))
 refine ak 6 aa (ay ?_)
 exact bt rfl rfl (by rw[A];rfl)
theorem Vw{T:bd}(F:FT T)(s:List UInt8):Sound T 18 [dS s] fun r=>r= .tuple [eU (qq s).1.enc,dI (qq s).2.1,dI (qq s).2.2]:=by
 refine dG F.f18 aa (an 3 aa (ai (ae 1 aa (aj (cJ (R:=.tuple [.d (.fC ((e6 s).1.map cu.enc)),dI ((e6 s).2.1:Nat),dI (e6 s).2.2]) (FM F s) aa aa ?_)))))
 refine ak 7 aa (aL (an 2 aa (aK aa (fun z=>?_) (fun z=>?_))))
 ·have A:qq s=((⟨[],[]⟩:jW),(((e6 s).2.1:Nat):Int),(e6 s).2.2):=az (by simpa using z)
  refine an 6 aa (ay ?_)
  exact bt rfl rfl (by rw[A];rfl)
 have he:(e6 s).2.2=0:=by simpa using z
 have G:=wF he
 rw[DC.rT (Ez he)]
 have A:qq s=mb sB (e6 s).1:=al (fun k=>k he)
 refine aQ (ai (ae 1 aa (aj (cJ (So F (P2 F) G) aa aa ?_))))
 refine ak 6 aa (ay ?_)
 exact bt rfl rfl (by rw[A];rfl)
theorem NY{T:bd}(F:FT T)(X:FX T)(s:List UInt8):Sound T 7 [dS s] fun r=>r=dB true:=by
 refine dG F.f7 aa (an 1 aa (ai (ae 1 aa (aj (cJ (XO F X s) aa aa ?_)))))
 refine ak 8 aa (ai (ae 1 aa (aj (cJ (WW F s) aa aa ?_))))
 refine ak 8 aa (ai (ae 1 aa (aj (cJ (WX F X s) aa aa ?_))))
 refine ak 8 aa (ai (ae 1 aa (aj (cJ (Vw F s) aa aa ?_))))
 refine ak 8 aa (ai (ae 2 aa (aj (E0 aa aa ?_))))
 refine ae 1 aa (aw aa aa (bY aa ?_))
 refine aw aa aa (bY aa ?_)
 refine aw aa aa (E0 aa aa ?_)
 refine ae 2 aa (aw aa aa (oi aa aa (b0 aa) (b0 aa) ?_))
 refine aw aa aa (oi aa aa (b0 aa) (b0 aa) ?_)
 refine aw aa aa (cJ (YI F Uu) aa aa ?_)
 refine ae 2 aa (aw aa aa (bY aa ?_))
 refine aw aa aa (bY aa ?_)
 refine aw aa aa (E0 aa aa ?_)
 refine ae 2 aa (aw aa aa (bY aa ?_))
 refine aw aa aa (bY aa ?_)
 refine aw aa aa (E0 aa aa ?_)
 refine ae 2 aa (aw aa aa (oi aa aa (b0 aa) (b0 aa) ?_))
 refine aw aa aa (oi aa aa (b0 aa) (b0 aa) ?_)
 refine aw aa aa (cJ (P6 F TE) aa aa ?_)
 exact ak 2 aa (ay (bt aa aa aa))
theorem JN{T:bd}(F:FT T){A:List cu}{d:DC}(J:ph (A.map cu.enc) d)(ht:∀t∈A,Ap t)(hl:A.length≤1010):Sound T 22 [.d d] fun r=>∃s:List UInt8,r= .d (cl s):=by
 refine dG F.f22 aa (an 1 aa (an 1 aa (aL (an 1 aa (HG 3 1101 5 1 1 aa aa (bM (d7 (fun k VE B=>∃(i:Nat)(b:List UInt8),i≤A.length∧k=A.length-i∧b.length≤500*i∧bn [(0,.d d),(2,.d (cl [])),(3,.ac 1101 (b.map dQ).length 1),(4,.d (.i .i64 (i:Nat)))] VE∧bn [(1101,.acc 5 1 1 (b.map dQ))] B) ?_ (k:=A.length) ⟨0,[],dp _,aa,dp _,⟨aa,aa,aa,aa,trivial⟩,aa,trivial⟩)))))))
 rintro k VE B⟨i,b,hi,rfl,hb,K,O⟩
 refine db _ _ K O (aL (ai (ae 2 aa (aj (Bz aa J ?_)))))
 rw[ca]
 refine ak 1 aa (aK aa (fun h9=>?_) (fun h9=>?_))
 ·have nD:i<A.length:=by simp at h9;omega
  obtain⟨t,he⟩:∃t,A[i]?=some t:=⟨_,fe nD⟩
  have z:(A.map cu.enc)[i]?=some t.enc:=by rw[iJ,he];rfl
  have G:=ht t (lJ he)
  have mv:¬t.kind=6:=fun e=>by have:=G.1.kind;omega
  refine aQ (aL (bM (aL (ai (ae 2 aa (aj (wX aa J aa z aa ?_)))))))
  refine ae 1 aa ?_
  refine aj (cJ (OA F t.pos G.1 (by have:=G.2;omega)) rfl rfl ?_)
  refine ak 1 aa (aK aa (fun qZ=>?_) (fun qZ=>?_))
  ·exact an 1 aa (ay (bt aa aa ⟨[],aa⟩))
  refine aQ (aL (ai (ae 2 aa (aj (wX aa J aa z aa ?_)))))
  refine ak 3 aa (aK aa (fun Y=>?_) (fun Y=>?_))
  ·exact absurd (by simpa using Y) mv
  refine aQ (ri (fun VE B=>∃b1:List UInt8,b1.length≤500*i+1∧bn [(0,.d d),(2,.d (cl [])),(3,.ac 1101 (b1.map dQ).length 1),(4,.d (.i .i64 (i:Nat)))] VE∧bn [(1101,.acc 5 1 1 (b1.map dQ))] B) ?_ ?_)
  ·rintro VE B⟨b1,hb1,K,O⟩
   refine db _ _ K O (aL (ai (ae 2 aa (aj (wX aa J aa z aa ?_)))))
   refine ak 3 aa (aK aa (fun Kr=>?_) (fun Kr=>?_))
   ·have Z:=G.2
    refine ai (ae 3 aa (aj (wX aa J aa z aa ?_)))
    refine ae 2 aa ?_
    refine aj (Un rfl rfl rfl (by rw[bE,ca,ca];omega) (fun h=>by rw[h];rfl) (fun h=>by rw[h];rfl) ?_)
    refine ak 1 aa (dJ (bC (ae 1 aa (aj (cM aa aa ah ?_)))))
    refine ak 1 aa ?_
    exact⟨A.length-(i+1),ah,i+1,b1++t.text,ah,rfl,by rw[bE];omega,by rw[dx];exact⟨rfl,rfl,rfl,rfl,trivial⟩,by rw[dx];exact⟨rfl,trivial⟩⟩
   have Z:=G.2
   refine aQ (ai (ae 2 aa ?_))
   refine aj (eD (rows:=b1.map dQ) (ys:=[dQ 39]) rfl rfl rfl (.bs (rows:=[dQ 39]) rfl) (b0 rfl) (by rw[bE,ca];simp only[cV,dL];omega) (fun h=>by rw[h];rfl) (fun h=>by rw[h];rfl) ?_)
   refine ak 1 aa (aL (an 1 aa (bM ?_)))
   refine d7 (fun k VE B=>∃(j:Nat)(I:List UInt8),j≤t.text.length∧k=t.text.length-j∧I.length≤500*i+2+2*j∧bn [(0,.d d),(2,.d (cl [])),(3,.ac 1101 (I.map dQ).length 1),(4,.d (.i .i64 (i:Nat))),(5,.d (.i .i64 (j:Nat)))] VE∧bn [(1101,.acc 5 1 1 (I.map dQ))] B) ?_ (k:=t.text.length) ⟨0,b1++[39],dp _,rfl,by rw[bE,dY];omega,by rw[dx];exact⟨rfl,rfl,rfl,rfl,rfl,trivial⟩,by rw[dx];exact⟨rfl,trivial⟩⟩
   rintro k VE B⟨j,I,hj,rfl,hb3,K,O⟩
   refine db _ _ K O (aL (ai (ae 3 aa (aj (wX aa J aa z aa ?_)))))
   refine ak 4 aa (aK aa (fun AN=>?_) (fun AN=>?_))
   ·have hj2:j<t.text.length:=by simp at AN;omega
    obtain⟨c,hc⟩:=jO hj2
    refine aQ (aL (bM (ri (fun VE B=>∃U:List UInt8,U.length≤500*i+3+2*j∧bn [(0,.d d),(2,.d (cl [])),(3,.ac 1101 (U.map dQ).length 1),(4,.d (.i .i64 (i:Nat))),(5,.d (.i .i64 (j:Nat)))] VE∧bn [(1101,.acc 5 1 1 (U.map dQ))] B) ?_ ?_)))
    ·rintro VE B⟨U,hb4,K,O⟩
     refine db _ _ K O (bC (ae 3 aa (aj (wX aa J aa z aa ?_))))
     refine ae 3 aa (aj (fR aa aa hc ?_))
     refine ae 1 aa ?_
     refine aj (eD (rows:=U.map dQ) (ys:=[dQ c]) rfl rfl rfl (.bs (rows:=[dQ c]) rfl) (b0 rfl) (by rw[bE,ca];simp only[cV,dL];omega) (fun h=>by rw[h];rfl) (fun h=>by rw[h];rfl) ?_)
     refine ak 1 aa (bC (ae 1 aa (aj (cM aa aa ah ?_))))
     refine ak 1 aa ?_
     exact⟨t.text.length-(j+1),ah,j+1,U++[c],ah,rfl,by rw[bE,dY];omega,by rw[dx];exact⟨rfl,rfl,rfl,rfl,rfl,trivial⟩,by rw[dx];exact⟨rfl,trivial⟩⟩
    refine ai (ae 2 aa (aj (wX aa J aa z aa ?_)))
    refine ae 3 aa (aj (fR aa aa hc ?_))
    refine ak 1 aa (aK aa (fun Ks=>?_) (fun Ks=>?_))
    ·refine bC (ae 2 aa ?_)
     refine aj (eD (rows:=I.map dQ) (ys:=[dQ 39]) rfl rfl rfl (.bs (rows:=[dQ 39]) rfl) (b0 rfl) (by rw[bE,ca];simp only[cV,dL];omega) (fun h=>by rw[h];rfl) (fun h=>by rw[h];rfl) ?_)
     refine ak 1 aa ?_
     exact⟨I++[39],by rw[bE,dY];omega,by rw[dx];exact⟨rfl,rfl,rfl,rfl,rfl,trivial⟩,by rw[dx];exact⟨rfl,trivial⟩⟩
    exact aQ (⟨I,ah,⟨aa,aa,aa,aa,aa,trivial⟩,aa,trivial⟩)
   refine dJ (bC (ae 2 aa ?_))
   refine aj (eD (rows:=I.map dQ) (ys:=[dQ 39]) rfl rfl rfl (.bs (rows:=[dQ 39]) rfl) (b0 rfl) (by rw[bE,ca];simp only[cV,dL];omega) (fun h=>by rw[h];rfl) (fun h=>by rw[h];rfl) ?_)
   refine ak 1 aa (bC (ae 1 aa (aj (cM aa aa ah ?_))))
   refine ak 1 aa ?_
   exact⟨A.length-(i+1),ah,i+1,I++[39],ah,rfl,by rw[bE,dY];omega,by rw[dx];exact⟨rfl,rfl,rfl,rfl,trivial⟩,by rw[dx];exact⟨rfl,trivial⟩⟩
  refine ai (ae 1 aa (aj (yp aa ?_)))
  refine ak 1 aa (aK aa (fun q7=>?_) (fun q7=>?_))
  ·refine bC (ae 2 aa ?_)
   refine aj (eD (rows:=b.map dQ) (ys:=[dQ 32]) rfl rfl rfl (.bs (rows:=[dQ 32]) rfl) (b0 rfl) (by rw[bE,ca];simp only[cV,dL];omega) (fun h=>by rw[h];rfl) (fun h=>by rw[h];rfl) ?_)
   refine ak 1 aa ?_
   exact⟨b++[32],by rw[bE,dY];omega,by rw[dx];exact⟨rfl,rfl,rfl,rfl,trivial⟩,by rw[dx];exact⟨rfl,trivial⟩⟩
  exact aQ (⟨b,ah,⟨aa,aa,aa,aa,trivial⟩,aa,trivial⟩)
 refine dJ (ai (ae 1 aa ?_))
 rw[ca]
 refine aj (Hx aa aa ?_)
 exact ak 1 aa (ay (bt aa aa ⟨_,aa⟩))
def RX(n:Nat):List DC:=[.i .u16 (n:Int)]
theorem XP{T:bd}(F:FT T)(o:Option (List Nat))(ho:∀n∈mM o,n<65536):Sound T 8 [.d (rn RX o)] fun r=>r= .d (cl (rk ((mM o).take 100))):=by
 refine dG F.f8 aa (an 1 aa (ai (ae 1 aa (gD 6 6 aa aa (fun _=>⟨aa,aa⟩) (ak 1 aa (an 1 aa (aL (an 1 aa (bM ?_)))))))))
 refine d7 (fun k VE B=>∃(i:Nat),i≤100∧k=100-i∧(rk ((mM o).take i)).length≤24*i∧bn [(0,.d (rn RX o)),(3,.d (.sl Iz)),(4,.d (cl (rk ((mM o).take i)))),(5,.d (.i .i64 (i:Nat)))] VE∧bn [] B) ?_ (k:=100) ⟨0,dp _,aa,dp _,⟨aa,aa,aa,aa,trivial⟩,trivial⟩
 rintro k VE B⟨i,hi,rfl,U,J,K⟩
 refine db _ _ J K (aL (ai (ae 2 aa (aj (Np aa ?_)))))
 refine aj (PK aa aa ?_)
 refine ae 1 aa (dc (g:=aW) aa (fun h=>?_) (fun h=>?_))
 ·have z:i<(mM o).length:=by simpa using h
  obtain⟨n,A⟩:∃n,(mM o)[i]?=some n:=⟨_,fe z⟩
  have O:n<65536:=ho n (lJ A)
  refine aw aa h (bY aa ?_)
  refine aw aa h (PK aa aa ?_)
  refine aj (c8 aa h aa ?_)
  refine aX (aK aa (fun h=>?_) (fun h=>?_))
  ·have G:i<100:=by simp at h;omega
   have hp:=Vt n
   have I:=S0 A
   refine aQ (aL (bM (bC (ae 1 aa ?_))))
   refine aj (yq (b:=[32]) rfl rfl (by rw[dY];omega) ?_)
   refine ae 3 aa (aj (Ek aa aa A aa ?_))
   refine aj (km aa aa ?_)
   refine aj (rV aa ah ?_)
   refine ae 1 aa (aj (BM aa ?_))
   refine aj (gQ aa aa aq ?_)
   refine aj (lF aa aa (TC n) aa ?_)
   refine aj (km aa aa ?_)
   refine aj (yq rfl rfl (by rw[bE,dY];omega) ?_)
   rw[←I]
   refine ak 1 aa (bC (ae 1 aa (aj (cM aa aa ah ?_))))
   refine ak 1 aa ?_
   exact⟨100-(i+1),ah,i+1,G,rfl,by rw[I,bE,bE,dY];omega,⟨rfl,rfl,rfl,rfl,trivial⟩,trivial⟩
  obtain rfl:i=100:=by simp at h;omega
  exact dJ (an 2 aa (ay (bt aa aa aa)))
 have he:(mM o).take i=(mM o).take 100:=by rw[pR (by simp at h;omega),pR (by simp at h;omega)]
 refine aY aa h (aY aa h (aj (cS aa h aa ?_)))
 refine aX (ef aa aa (dJ (an 2 aa (ay ?_))))
 exact bt rfl rfl (by rw[←he];rfl)
def Dt(p:Nat×Nat):List DC:=[.i .u16 (p.1:Int),.i .u16 (p.2:Int)]
theorem v7{z:List cu}:∀row,row∈z.map cu.enc→row.length=3:=fun row h=>by
 obtain⟨t,_,rfl⟩:=List.mem_map.1 h
 rfl
theorem Aq{z:List cu}{l n:Nat}:∀row,row∈((z.map cu.enc).drop l).take n→row.length=3:=fun row h=>v7 row (FU (Cu h))
theorem xH(z:List cu)(l n:Nat):((z.map cu.enc).drop l).take n=((z.drop l).take n).map cu.enc:=by rw[List.map_take,IG]
theorem Ar{z:List cu}{l n:Nat}{t:cu}(h:t∈(z.drop l).take n):t∈z:=FU (Cu h)
theorem NZ{T:bd}(F:FT T)(s:List UInt8)(o:Option (List (Nat×Nat)))(ho:∀p∈mM o,p.1<65536∧p.2<65536):Sound T 9 [.d (cl s),.d (rn Dt o)] fun r=>∃z:List UInt8,r= .d (cl z):=by
 refine dG F.f9 aa (an 1 aa (ai (ae 1 aa (aj (cJ (FM F s) aa aa ?_)))))
 refine ak 7 aa (aL (ai (ae 1 aa (aj (iH aa ?_)))))
 rw[ca]
 refine ak 1 aa (aK aa (fun Y=>?_) (fun Y=>?_))
 ·exact an 2 aa (ay (bt aa aa ⟨s,aa⟩))
 obtain⟨A,p,e,O,hl⟩:=(Mk s).resolve_left fun k=>by(rw[k] at Y;exact absurd Y aq)
 have Z:ph ((A++[(⟨6,p,[]⟩:cu)]).map cu.enc) (.fC ((e6 s).1.map cu.enc)):=by rw[←e];exact ph.acc _
 have hle:(e6 s).1.length=A.length+1:=by rw[e];simp
 refine aQ (ai (ae 2 aa (aj (Bz aa Z ?_))))
 rw[ca,bE,dY]
 refine aj (f3 rfl rfl (by simp only[bN];omega) (by simp only[bN];omega) ?_)
 rw[show((A.length+1:Nat):Int) -Int.ofNat 1=((A.length:Nat):Int) by simp]
 refine aj (w7 (l:=0) (h:=A.length) rfl Z v7 (by simp) ⟨_,rfl⟩ rfl ah (by simp) ?_)
 have C3:(((A++[(⟨6,p,[]⟩:cu)]).map cu.enc).drop 0).take (A.length-0)=A.map cu.enc:=by rw[xH];simp
 rw[C3]
 refine ak 1 aa (aL (an 1 aa (bM (d7 (fun k VE B=>∃(i:Nat)(A:List cu)(d:DC),i≤3∧k=3-i∧(∀t∈A,Ap t)∧A.length≤1000+i∧ph (A.map cu.enc) d∧bn [(1,.d (rn Dt o)),(5,.d d),(8,.d (.i .i64 (i:Nat)))] VE∧bn [] B) ?_ (k:=3) ⟨0,A,_,aq,aa,O,hl,.inl aa,⟨aa,aa,aa,trivial⟩,trivial⟩))))
 clear Z hle e O hl C3
 rintro _ VE B⟨i,A,d,hi,rfl,O,hl,U,hV,hB⟩
 refine db _ _ hV hB (aL (ai (ae 2 aa (aj (Np aa ?_)))))
 refine ae 2 aa (dc (g:=cq) aa (fun J=>?_) (fun J=>?_))
 ·have nD:i<(mM o).length:=by simpa using J
  obtain⟨q,hx⟩:∃q,(mM o)[i]?=some q:=⟨_,fe nD⟩
  have hq:=ho q (lJ hx)
  refine aw aa (J) (bY aa ?_)
  refine aw aa (J) (w4 aa aa ?_)
  refine aj (c8 aa (J) aa ?_)
  refine ae 1 aa (dc (g:=cN) aa (fun G=>?_) (fun G=>?_))
  ·have Dj:i+1≤3:=by(simp at G;omega)
   refine aw aa (G) (bY aa ?_)
   refine aw aa (G) (Bz aa U ?_)
   rw[ca]
   refine aw aa (G) (tC aa aa ?_)
   refine aj (c8 aa (G) aa ?_)
   refine aX (aK aa (fun GS=>?_) (fun GS=>?_))
   ·have rI:0<A.length:=by simpa using GS
    have K:0<(A.map cu.enc).length:=by rw[ca];exact rI
    refine aQ (aL (bM (ai (ae 2 aa (aj (Ek aa aa hx aa ?_))))))
    refine aj (Hh aa (k:=.i64) (j:=0) aa aq ?_)
    refine ae 1 aa (aj (rV aa ah ?_))
    refine ae 1 aa (aj (Bz aa U ?_))
    rw[ca]
    refine aj (gQ aa aa rI ?_)
    obtain⟨k,hk,C7⟩:∃k,k=q.1 % A.length∧k<A.length:=⟨_,rfl,eI _ rI⟩
    rw[←hk]
    refine ak 1 aa (ai (ae 2 aa (aj (Ek aa aa hx aa ?_))))
    refine aj (Hh aa (k:=.i64) (j:=1) aa aq ?_)
    refine ae 1 aa (aj (gQ (b:=4) aa aa aq ?_))
    refine aX (bM (an 2 aa (aK aa (fun h85=>?_) (fun h85=>?_))))
    ·refine im (bD 2 aa ?_)
     refine bG (w7 (l:=0) (h:=k) rfl U v7 K ⟨_,rfl⟩ rfl ah (by rw[ca];omega) ?_)
     refine dy rfl (El 90 rfl rfl rfl rfl rfl (.sl Aq) aq (by simp only[bE,jH,gN,ca,cV,dL];omega) ?_)
     refine bD 2 aa (bG (cM aa aa ah ?_))
     refine bG (w7 (l:=k+1) (h:=A.length) rfl U v7 K (ca ..).symm ⟨_,rfl⟩ ah (by rw[ca];omega) ?_)
     refine dy rfl (eD rfl rfl rfl (.sl Aq) aq (by simp only[bE,jH,gN,ca,cV,dL];omega) (fun h=>by rw[h];rfl) (fun h=>by rw[h];rfl) ?_)
     refine du 1 aa (bC (fN 5 90 (rows:=((A.map cu.enc).drop 0).take (k-0)++((A.map cu.enc).drop (k+1)).take (A.length-(k+1))) aa aa (fun _=>⟨aa,aa⟩) (ae 1 aa (aj (cM aa aa ah ?_)))))
     refine ak 1 aa ?_
     refine⟨3-(i+1),ah,i+1,(A.drop 0).take (k-0)++(A.drop (k+1)).take (A.length-(k+1)),_,Dj,rfl,fun t I=>by
      rcases List.mem_append.1 I with I|I
      ·exact O t (Ar I)
      exact O t (Ar I),?_,?_,⟨aa,aa,aa,trivial⟩,trivial⟩
     ·simp only[bE,jH,gN,dY];omega
     rw[dx,←xH,←xH];exact ph.acc _
    refine an 2 aa (aK aa (fun h96=>?_) (fun h96=>?_))
    ·refine im (bD 2 aa (bG (cM aa aa ah ?_)))
     refine bG (w7 (l:=0) (h:=k+1) rfl U v7 K ⟨_,rfl⟩ rfl ah (by rw[ca];omega) ?_)
     refine dy rfl (El 102 rfl rfl rfl rfl rfl (.sl Aq) aq (by simp only[bE,jH,gN,ca,cV,dL];omega) ?_)
     refine bD 2 aa ?_
     refine bG (w7 (l:=k) (h:=A.length) rfl U v7 K (ca ..).symm ⟨_,rfl⟩ ah (by rw[ca];omega) ?_)
     refine dy rfl (eD rfl rfl rfl (.sl Aq) aq (by simp only[bE,jH,gN,ca,cV,dL];omega) (fun h=>by rw[h];rfl) (fun h=>by rw[h];rfl) ?_)
     refine du 1 aa (bC (fN 5 102 (rows:=((A.map cu.enc).drop 0).take (k+1-0)++((A.map cu.enc).drop k).take (A.length-k)) aa aa (fun _=>⟨aa,aa⟩) (ae 1 aa (aj (cM aa aa ah ?_)))))
     refine ak 1 aa ?_
     refine⟨3-(i+1),ah,i+1,(A.drop 0).take (k+1-0)++(A.drop k).take (A.length-k),_,Dj,rfl,fun t I=>by
      rcases List.mem_append.1 I with I|I
      ·exact O t (Ar I)
      exact O t (Ar I),?_,?_,⟨aa,aa,aa,trivial⟩,trivial⟩
     ·simp only[bE,jH,gN,dY];omega
     rw[dx,←xH,←xH];exact ph.acc _
    refine ai (ae 2 aa (aj (Ek aa aa hx aa ?_)))
    refine aj (Hh aa (k:=.i64) (j:=1) aa aq ?_)
    refine ae 1 aa (aj (Ba (b:=4) aa aa ah (EY ah ah) ?_))
    refine ae 1 aa (gD 65 65 aa aa (fun _=>⟨aa,aa⟩) ?_)
    refine aj (cJ (XP F (some [q.2/4]) (fun n hn=>by rcases List.mem_singleton.1 hn with rfl;omega)) rfl rfl ?_)
    obtain⟨t0,r0,hw0,ht0⟩:=YG (q.2/4)
    refine aj (cJ (FM F _) aa aa ?_)
    refine ak 7 aa (im (bD 2 aa ?_))
    refine bG (w7 (l:=0) (h:=k) rfl U v7 K ⟨_,rfl⟩ rfl ah (by rw[ca];omega) ?_)
    refine dy rfl (VI.fresh rfl (El 74 rfl rfl rfl rfl rfl (.sl Aq) aq (by simp only[bE,jH,gN,ca,cV,dL];omega) ?_))
    refine bD 1 aa ?_
    refine bG (jY (j:=0) (row:=t0.enc) rfl rfl (by rw[show(e6 (rk ((mM (some [q.2/4])).take 100))).1=t0::r0 from hw0];rfl) rfl ?_)
    refine bD 2 aa ?_
    refine dy rfl (eD (ys:=[t0.enc]) rfl rfl rfl (.bs (rows:=[t0.enc]) rfl) aq (by simp only[bE,jH,gN,ca,cV,dL];omega) (fun h=>by rw[h];rfl) (fun h=>by rw[h];rfl) ?_)
    refine bD 2 aa (bG (cM aa aa ah ?_))
    refine bG (w7 (l:=k+1) (h:=A.length) rfl U v7 K (ca ..).symm ⟨_,rfl⟩ ah (by rw[ca];omega) ?_)
    refine dy rfl (eD rfl rfl rfl (.sl Aq) aq (by simp only[bE,jH,gN,ca,cV,dL];omega) (fun h=>by simp at h) (fun h=>by simp at h) ?_)
    refine du 1 aa (bC (fN 5 74 (rows:=((A.map cu.enc).drop 0).take (k-0)++[t0.enc]++((A.map cu.enc).drop (k+1)).take (A.length-(k+1))) aa aa (fun _=>⟨aa,aa⟩) (ae 1 aa (aj (cM aa aa ah ?_)))))
    refine ak 1 aa ?_
    refine⟨3-(i+1),ah,i+1,(A.drop 0).take (k-0)++[t0]++(A.drop (k+1)).take (A.length-(k+1)),_,Dj,rfl,fun t I=>by
     rcases List.mem_append.1 I with I|I
     ·rcases List.mem_append.1 I with I|I
      ·exact O t (Ar I)
      rcases List.mem_singleton.1 I with rfl;exact ht0
     exact O t (Ar I),?_,?_,⟨aa,aa,aa,trivial⟩,trivial⟩
    ·simp only[bE,jH,gN,dY];omega
    rw[dx,dx,←xH,←xH];exact ph.acc _
   refine dJ (ai (ae 1 aa (aj (fG aa (gu aa) (JN F U O ah) fun r _ hr=>?_))))
   obtain⟨z,rfl⟩:=hr
   exact ak 1 aa (ay (bt aa aa ⟨z,aa⟩))
  refine aY aa (G) (aY aa (G) (aY aa (G) (aj (cS aa (G) aa ?_))))
  refine aX (ef aa aa (dJ (ai (ae 1 aa (aj (fG aa (gu aa) (JN F U O ah) fun r _ hr=>?_))))))
  obtain⟨z,rfl⟩:=hr
  exact ak 1 aa (ay (bt aa aa ⟨z,aa⟩))
 refine aY aa (J) (aY aa (J) (aj (cS aa (J) aa ?_)))
 refine ae 1 aa (aY aa aa (aY aa aa (aY aa aa (ak 1 aa (ef aa aa (dJ (ai (ae 1 aa (aj (fG aa (gu aa) (JN F U O ah) fun r _ hr=>?_))))))))))
 obtain⟨z,rfl⟩:=hr
 exact ak 1 aa (ay (bt aa aa ⟨z,aa⟩))
def AO(n:Nat):List (List DC)→Prop
 |[]=>True
 |[d]::r=>gK n d∧AO n r
 |_=>False
theorem AO.get{n:Nat}:∀{rows:List (List DC)},AO n rows→∀j,j<rows.length→∃d,rows[j]?=some [d]∧gK n d
 |[],_,j,z=>by cases z
 |r::rs,h,j,z=>by
  match r,h with
  |[d],h=>cases j with
   |zero=>exact⟨d,rfl,h.1⟩
   |succ j=>exact h.2.get j (OG z)
def u16(a:Nat):VV:=.d (.i .u16 (a:Int))
theorem P7{T:bd}(F:FT T){a:Nat}(b c d:Nat)(ha:a<65536):Sound T 12 [.agg [u16 a,u16 b,u16 c,u16 d]] fun r=>∃s,r= .d s∧gK 400 s:=by
 refine dG F.f12 aa (an 2 aa (ai (ae 1 aa (aj (eg aa (k:=.i64) (j:=1) aa aq ?_)))))
 refine ae 1 aa (aj (gQ (b:=4) aa aa aq ?_))
 obtain⟨d12,O,G⟩:=(pF (n:=4) (k:=4) (rows:=[[.s 1 48],[.s 1 49],[.s 3 3219501],[.s 4 1280070990]]) (by decide+kernel) rfl).2 (b % 4) (eI _ aq)
 refine aj (mU aa aa (eI _ aq) ?_)
 refine aj (nh aa aa (bR _) (bR _) (eI _ aq) O aa ?_)
 refine ak 1 aa (ai (ae 1 aa (aj (eg aa (k:=.i64) (j:=2) aa aq ?_))))
 refine ae 1 aa (aj (gQ (b:=3) aa aa aq ?_))
 obtain⟨RY,U,Y⟩:=(pF (n:=5) (k:=3) (rows:=[[.s 2 10023],[.s 3 2580775],[.s 5 168160616999]]) (by decide+kernel) rfl).2 (c % 3) (eI _ aq)
 refine aj (mU aa aa (eI _ aq) ?_)
 refine aj (nh aa aa (bR _) (bR _) (eI _ aq) U aa ?_)
 refine ak 1 aa (eO (bD 1 aa (bG (eg aa (k:=.i64) (j:=3) aa aq ?_))))
 refine bD 1 aa (bG (gQ (b:=2) aa aa aq ?_))
 obtain⟨RZ,Z,z⟩:=(pF (n:=1) (k:=2) (rows:=[[.s 1 116],[.s 1 117]]) (by decide+kernel) rfl).2 (d % 2) (eI _ aq)
 refine bG (mU aa aa (eI _ aq) ?_)
 refine dy aa (nh aa aa (bR _) (bR _) (eI _ aq) Z aa ?_)
 refine bD 1 aa (bG (eg aa (k:=.i64) (j:=3) aa aq ?_))
 refine bD 1 aa (bG (gQ (b:=2) aa aa aq ?_))
 obtain⟨d30,e30,A⟩:=(pF (n:=1) (k:=2) (rows:=[[.s 1 117],[.s 1 116]]) (by decide+kernel) rfl).2 (d % 2) (eI _ aq)
 refine bG (mU aa aa (eI _ aq) ?_)
 refine dy aa (nh aa aa (bR _) (bR _) (eI _ aq) e30 aa ?_)
 refine du 2 aa (ai (ae 1 aa ?_))
 refine aj (dE rfl (eh (n:=14) (by decide+kernel)) rfl z aq (fun d33 h33=>?_))
 refine ae 1 aa ?_
 refine aj (dE rfl (eh (n:=18) (by decide+kernel)) rfl z aq (fun d35 Kr=>?_))
 refine aj (dE rfl Kr rfl (eh (n:=11) (by decide+kernel)) aq (fun d36 uF=>?_))
 refine ae 1 aa (aj (dE aa uF aa G aq (fun d38 xO=>?_)))
 refine aj (dE rfl xO rfl (eh (n:=8) (by decide+kernel)) aq (fun d39 h39=>?_))
 refine ae 1 aa (aj (dE aa h39 aa Y aq (fun R0 q8=>?_)))
 refine ae 1 aa ?_
 refine aj (dE rfl (eh (n:=14) (by decide+kernel)) rfl z aq (fun d43 h43=>?_))
 refine aj (dE rfl h43 rfl (eh (n:=15) (by decide+kernel)) aq (fun d44 h44=>?_))
 refine ae 1 aa (aj (dE aa h44 aa G aq (fun R1 Kt=>?_)))
 refine ae 1 aa ?_
 refine aj (dE rfl (eh (n:=24) (by decide+kernel)) rfl z aq (fun d48 sT=>?_))
 refine ae 1 aa ?_
 refine aj (dE rfl (eh (n:=35) (by decide+kernel)) rfl z aq (fun d50 h50=>?_))
 refine aj (dE rfl h50 rfl (eh (n:=11) (by decide+kernel)) aq (fun d51 Dh=>?_))
 refine ae 1 aa ?_
 refine aj (dE rfl (eh (n:=34) (by decide+kernel)) rfl z aq (fun d53 AN=>?_))
 refine aj (dE rfl AN rfl (eh (n:=11) (by decide+kernel)) aq (fun d54 Ku=>?_))
 refine ae 1 aa (aj (dE aa Ku aa G aq (fun d56 wy=>?_)))
 refine ae 1 aa ?_
 refine aj (dE rfl (eh (n:=26) (by decide+kernel)) rfl z aq (fun d58 xP=>?_))
 refine aj (dE rfl xP rfl (eh (n:=16) (by decide+kernel)) aq (fun d59 h59=>?_))
 refine ae 1 aa (aj (dE aa h59 aa A aq (fun d61 h61=>?_)))
 refine aj (dE rfl h61 rfl (eh (n:=40) (by decide+kernel)) aq (fun d62 xQ=>?_))
 refine ae 1 aa ?_
 refine aj (dE rfl (eh (n:=14) (by decide+kernel)) rfl z aq (fun d64 Kv=>?_))
 refine aj (dE rfl Kv rfl (eh (n:=26) (by decide+kernel)) aq (fun d65 h65=>?_))
 refine ae 1 aa (aj (dE aa h65 aa A aq (fun d67 h67=>?_)))
 refine ae 1 aa ?_
 refine aj (dE rfl (eh (n:=14) (by decide+kernel)) rfl z aq (fun d69 h69=>?_))
 refine aj (dE rfl h69 rfl (eh (n:=29) (by decide+kernel)) aq (fun d70 Ds=>?_))
 refine ae 1 aa (aj (dE aa Ds aa A aq (fun R2 xR=>?_)))
 refine ae 1 aa ?_
 refine aj (dE rfl (eh (n:=18) (by decide+kernel)) rfl z aq (fun d74 h74=>?_))
 refine aj (dE rfl h74 rfl (eh (n:=29) (by decide+kernel)) aq (fun d75 h75=>?_))
 refine ae 1 aa (aj (dE aa h75 aa A aq (fun R3 Kw=>?_)))
 refine ae 1 aa ?_
 refine aj (dE rfl (eh (n:=23) (by decide+kernel)) rfl z aq (fun R4 Kx=>?_))
 refine ae 1 aa ?_
 refine aj (dE rfl (eh (n:=22) (by decide+kernel)) rfl z aq (fun d81 Dq=>?_))
 refine ae 1 aa ?_
 refine aj (dE rfl (eh (n:=14) (by decide+kernel)) rfl z aq (fun d83 Ky=>?_))
 refine aj (dE rfl Ky rfl (eh (n:=16) (by decide+kernel)) aq (fun R5 xS=>?_))
 refine ae 1 aa ?_
 refine aj (dE rfl (eh (n:=23) (by decide+kernel)) rfl z aq (fun d86 Kz=>?_))
 refine aj (dE rfl Kz rfl (eh (n:=38) (by decide+kernel)) aq (fun d87 KA=>?_))
 refine ae 1 aa (aj (dE aa KA aa G aq (fun d89 Dr=>?_)))
 refine aj (dE rfl Dr rfl (eh (n:=6) (by decide+kernel)) aq (fun d90 KB=>?_))
 refine ae 1 aa (aj (dE aa KB aa A aq (fun d92 h92=>?_)))
 refine ak 2 aa (ai (ae 1 aa (aj (eg aa (k:=.i64) (j:=0) aa aq ?_))))
 refine ae 1 aa (aj (rV aa ah ?_))
 refine ae 2 aa (aj (gQ (b:=15) aa aa aq ?_))
 obtain⟨I,J,K⟩:=AO.get (n:=84) (rows:=[[d33],[R0],[R1],[d48],[d51],[d56],[.s 51 250802836897146067041583090060478008241135904689160299582463649850049496622166772829493036873657347118657512449423765685587],[d62],[d67],[R2],[R3],[R4],[d81],[R5],[d92]]) ⟨h33.mono aq,q8.mono aq,Kt.mono aq,sT.mono aq,Dh.mono aq,wy.mono aq,(eh (n:=51) (by decide+kernel)).mono aq,xQ,h67.mono aq,xR.mono aq,Kw.mono aq,Kx.mono aq,Dq.mono aq,xS.mono aq,h92.mono aq,trivial⟩ (a % 15) (eI _ aq)
 refine aj (mU aa aa (eI _ aq) ?_)
 refine aj (nh aa aa (bR _) (bR _) (eI _ aq) J aa ?_)
 exact ak 1 aa (ay (bt aa aa ⟨I,aa,K.mono aq⟩))
theorem sJ{n:Int}(h:(Lit.int .u16 n).wf=true):∃m:Nat,n=m∧m<65536:=by
 simp[Lit.wf,IntKind.min,IntKind.max,IntKind.signed,IntKind.bits] at h
 exact⟨n.toNat,(Int.toNat_of_nonneg h.1).symm,ah⟩
theorem r8{k:IntKind}{ps:List oh}{r:List DC}(h:jF (.i k::ps) r):∃n q,r= .i k n::q∧(Lit.int k n).wf=true∧jF ps q:=by
 rw[jF] at h
 obtain⟨_,q,rfl,⟨n,rfl,z⟩,h⟩:=h
 exact⟨n,q,aa,z,h⟩
theorem IB{r:List DC}(h:jF [] r):r=[]:=by rwa [jF] at h
theorem fits_pairs{r:List DC}(h:jF [.sl [.i .u16,.i .u16]] r):∃o:Option (List (Nat×Nat)),r=[rn Dt o]∧∀p∈mM o,p.1<65536∧p.2<65536:=by
 rw[jF] at h
 obtain⟨d,_,rfl,z,h⟩:=h
 obtain rfl:=IB h
 obtain⟨o,rfl⟩:=V7 (e:=fun a:{p:Nat×Nat//p.1<65536∧p.2<65536}=>Dt a.1) (fun r A=>by
  obtain⟨a,_,rfl,G,h⟩:=r8 A
  obtain⟨b,_,rfl,I,h⟩:=r8 h
  obtain rfl:=IB h
  obtain⟨a,rfl,z⟩:=sJ G
  obtain⟨b,rfl,h2⟩:=sJ I
  exact⟨⟨(a,b),z,h2⟩,aa⟩) z
 refine⟨o.map (·.map (·.1)),?_,?_⟩
 ·cases o with
  |none=>rfl
  |some l=>simp only[rn,tU,E7];rfl
 cases o with
 |none=>intro n h;cases h
 |some l=>
  intro n h
  obtain⟨a,_,rfl⟩:=List.mem_map.1 h
  exact a.2
end Go.Ev.Pp
namespace Go.Ev
open Go
variable{T:bd}{VE:cj}{B:bw}{Q:VV→bw→Prop}
theorem HO{x:aI}{v:VV}{s:List UInt8}(G:x.vv VE=some v)(I:YR B 1 v (s.map dQ))(J:Q (.d (cl s)) B):VI T (.nN x) VE B [] Q:=fun _ X0 _ H β z=>by
 obtain⟨a,K,h2⟩:=z.ch G
 refine gq (v:=.str s.length (pack s)) (fun call=>?_) (fi z (v:=.d (cl s)) (by simp only[aP,cl,cY]) J)
 show bI x _ (.err 39) (fun v=>hO v (.err 39) (.ok (.str 0 0) H) fun f g off n _=>
  ob (elems H f g 1 n off) (.err 39) fun l=>ob (ni l) (.err 39) fun s=>dz s fun s=>.ok (.str n s) H)=_
 rw[dw,K,dk]
 rcases I.elems z aq h2 with⟨rfl,h⟩|⟨f,g,off,e,ls,rfl,A,O⟩
 ·obtain rfl:=List.map_eq_nil_iff.1 h;rfl
 rw[ca] at A⊢
 show ob (elems H f g 1 s.length off) (aH.err 39) (fun l=>ob (ni l) (aH.err 39) fun v=>dz v fun v=>aH.ok (.str s.length v) H)=_
 rw[A,dk,Iy O,dk]
 exact iG (pack s) fun v=>aH.ok (.str s.length v) H
theorem YR.bB{b elem aV lo es:Nat}{s:List UInt8}(h:bf B b=some (.arr elem aV 1 lo (s.map dQ))):YR B 1 (.bs b s.length es) (s.map dQ):=by
 have:=YR.bs (es:=1) (fA:=es) h
 rwa [ca] at this
theorem I'{s:List UInt8}:∀row,row∈s.map dQ→row.length=1:=fun row h=>by
 obtain⟨c,_,rfl⟩:=List.mem_map.1 h
 rfl
end Go.Ev
namespace Go.Ev.Pp
open Go
theorem FO{n:Int}(z:0≤n)(h2:n<18446744073709551616):IntKind.u64.wrap n=n:=by
 simp[IntKind.wrap,IntKind.bits,IntKind.signed]
 omega
theorem QV{u:Nat}(h:u<10):IntKind.u8.wrap (IntKind.u64.wrap (Int.ofNat 48+(u:Int)))=(((UInt8.ofNat (48+u)).toNat:Nat):Int):=by
 rw[FO (by simp only[bN];omega) (by simp only[bN];omega),F4]
 simp[IntKind.wrap,IntKind.bits,IntKind.signed]
theorem YJ{u:Nat}(h:u<10):IntKind.u8.wrap (Int.ofNat 48+(u:Int))=(((UInt8.ofNat (48+u)).toNat:Nat):Int):=by
 rw[F4]
 simp[IntKind.wrap,IntKind.bits,IntKind.signed]
theorem ID(s:List UInt8){n:Nat}(h:s.length≤n):gK n (cl s):=⟨s,rfl,h⟩
theorem YK{T:bd}(F:FT T){f t:Int}(h0:0≤f)(A:f<t)(h2:t≤1000000):Sound T 163 [.agg [.d (.i .i64 f),.d (.i .i64 t)]] fun r=>r= .d (.b true):=by
 refine dG F.abb aa (an 2 aa (ai (ae 4 aa (dc (g:=aC) aa (fun z=>?_) (fun z=>?_)))))
 ·first|refine aw rfl (z) (oj rfl ?_)|refine aw rfl (z) (dD rfl ?_)|refine aw rfl (z) (wM rfl ?_)
  first|refine aw rfl (z) (df rfl rfl rfl ?_)|refine aw rfl (z) (km rfl rfl ?_)
  first|refine aw rfl (z) (oj rfl ?_)|refine aw rfl (z) (dD rfl ?_)|refine aw rfl (z) (wM rfl ?_)
  first|refine aw rfl (z) (df rfl rfl rfl ?_)|refine aw rfl (z) (km rfl rfl ?_)
  refine aw aa (z) (w4 aa aa ?_)
  refine aj (c8 aa (z) aa ?_)
  refine ae 1 aa (dc (g:=aS) aa (fun bQ=>?_) (fun bQ=>?_))
  ·first|refine aw rfl (bQ) (oj rfl ?_)|refine aw rfl (bQ) (dD rfl ?_)|refine aw rfl (bQ) (wM rfl ?_)
   first|refine aw rfl (bQ) (df rfl rfl rfl ?_)|refine aw rfl (bQ) (km rfl rfl ?_)
   refine aw aa (bQ) (nO aa aa ?_)
   refine aj (c8 aa (bQ) aa ?_)
   refine ak 1 aa (ay ?_)
   exact bt rfl rfl (congrArg (fun b=>VV.d (DC.b b)) (decide_eq_true (by simp only[bN];omega)))
  exact absurd bQ (by simp;omega)
 exact absurd z (by simp;omega)
theorem YL{T:bd}(F:FT T){f t:Int}(h0:0≤f)(z:f<t)(h2:t≤1000000):Sound T 110 [.agg [.d (.i .i64 f),.d (.i .i64 t)]] fun r=>r= .d (.b true):=by
 refine dG F.aa8 aa (an 2 aa (ai (ae 1 aa (aj (cJ (YK F h0 z h2) aa aa ?_)))))
 refine ae 1 aa ?_
 first|refine aw rfl (rfl) (oj rfl ?_)|refine aw rfl (rfl) (dD rfl ?_)|refine aw rfl (rfl) (wM rfl ?_)
 first|refine aw rfl (rfl) (df rfl rfl rfl ?_)|refine aw rfl (rfl) (km rfl rfl ?_)
 refine aw aa aa (nO aa aa ?_)
 refine ak 2 aa (ay ?_)
 exact bt rfl rfl (congrArg (fun b=>VV.d (DC.b b)) (decide_eq_true (by simp only[bN];omega)))
theorem XQ{T:bd}(F:FT T){n:Int}(h0:0≤n)(A:n<1000000):Sound T 164 [.d (.i .i64 n)] fun r=>r= .d (.b true):=by
 refine dG F.abc aa (an 1 aa (ai (ae 3 aa (dc (g:=ao) aa (fun z=>?_) (fun z=>?_)))))
 ·refine aw aa (z) (bY aa ?_)
  refine aw aa (z) (w4 aa aa ?_)
  refine aj (c8 aa (z) aa ?_)
  refine ak 1 aa (ay ?_)
  exact bt rfl rfl (congrArg (fun b=>VV.d (DC.b b)) (decide_eq_true (by simp only[bN];omega)))
 exact absurd z (by simp;omega)
theorem rG{T:bd}(F:FT T)(n:Int):Sound T 52 [.d (.i .i64 n)] fun r=>r= .agg [.d (.i .i64 1),.d (.i .i64 n),.d (cl [])]:=by
 exact dG F.f52 aa (an 1 aa (an 3 aa (ay (bt aa aa aa))))
theorem XR{T:bd}(F:FT T)(n:Nat):Sound T 108 [.agg [.d (.i .i64 1),.d (.i .i64 (n:Nat)),.d (cl [])]] fun r=>r= .d (.b true):=by
 refine dG F.QC aa (an 2 aa (aL (an 2 aa (bM (an 2 aa (ef aa aa (an 2 aa (eW aa aa (ai ?_)))))))))
 refine ae 2 aa (aj (nL (a:=[]) (b:=[]) aa aa ?_))
 exact ak 1 aa (ay (bt aa aa aa))
theorem XS{T:bd}(F:FT T){s:List UInt8}(z:s.length≤200):Sound T 108 [.agg [.d (.i .i64 2),.d (.i .i64 0),.d (cl s)]] fun r=>r= .d (.b true):=by
 refine dG F.QC aa (an 2 aa (aL (an 2 aa (bM (an 2 aa (ef aa aa (an 2 aa (ef aa aa (an 2 aa ?_)))))))))
 refine eW aa aa (ai (ae 4 aa ?_))
 first|refine aw rfl (rfl) (oj rfl ?_)|refine aw rfl (rfl) (dD rfl ?_)|refine aw rfl (rfl) (wM rfl ?_)
 first|refine aw rfl (rfl) (df rfl rfl rfl ?_)|refine aw rfl (rfl) (km rfl rfl ?_)
 refine aw aa aa (uM aa ?_)
 refine aw aa aa (nO aa aa ?_)
 refine ak 2 aa (ay ?_)
 exact bt rfl rfl (congrArg (fun b=>VV.d (DC.b b)) (decide_eq_true (by simp only[bN];omega)))
theorem adn{T:bd}(F:FT T){n:Nat}(J:n<65536):Sound T 109 [.d (.i .i64 (n:Nat))] fun r=>∃d,r= .d d∧gK 65537 d:=by
 refine dG F.aa7 aa (an 1 aa (ai (ae 1 aa (aj (uW aa ?_)))))
 rw[FO ah ah]
 refine ak 1 aa (an 1 aa (aL (an 2 aa (aK aa (fun I=>?_) (fun I=>?_)))))
 ·exact absurd I (by simp)
 refine aQ (an 1 aa (aL (bM ?_)))
 refine d7 (fun k VE B=>∃(u:Nat)(b:List UInt8)(d:DC),u<65536∧b.length+u≤65537∧k=2*u+(1-b.length)∧ph (b.map dQ) d∧bn [(3,.d (.i .u64 (u:Nat))),(4,.d (cl [])),(5,.d d)] VE∧bn [] B) ?_ (k:=2*n+1) ⟨n,[],.nil,J,by simp;omega,rfl,.inr ⟨rfl,rfl⟩,⟨rfl,rfl,rfl,trivial⟩,trivial⟩
 rintro _ VE B⟨u,b,d,Y,Z,rfl,G,K,O⟩
 refine db _ _ K O (aL (ai (ae 3 aa (dc (g:=aZ) aa (fun z=>?_) (fun z=>?_)))))
 ·have h0:0<u:=by simp at z;omega
  refine aY aa (z) (aY aa (z) (aY aa (z) (aj (c8 aa (z) aa ?_))))
  refine aX (eW aa aa (aQ (bM (ai (ae 1 aa (aj (gQ (b:=10) aa aa aq ?_)))))))
  refine aj (uX aa aa ?_)
  refine aj (uW aa ?_)
  rw[QV (eI u aq)]
  refine ae 2 aa ?_
  refine aj (ot (rows:=[dQ (UInt8.ofNat (48+u % 10))]) (ys:=b.map dQ) rfl rfl rfl (.sD G I') aq (by simp only[bE,ca,dY];omega) ?_)
  refine ak 1 aa (bC (ae 1 aa (gD 5 23 aa aa (fun _=>⟨aa,aa⟩) (aj (Ba (b:=10) aa aa aq (FO ah ah) ?_)))))
  refine ak 1 aa ?_
  exact⟨2*(u/10)+(1-(UInt8.ofNat (48+u % 10)::b).length),by rw[cV];omega,u/10,UInt8.ofNat (48+u % 10)::b,_,ah,by rw[cV];omega,rfl,.inl rfl,⟨rfl,rfl,rfl,trivial⟩,trivial⟩
 have h0:u=0:=by simp at z;omega
 refine aw aa (z) (bY aa ?_)
 refine aw aa (z) (Bz aa G ?_)
 rw[ca]
 first|refine aw rfl (z) (nL rfl rfl ?_)|refine aw rfl (z) (iC rfl rfl ?_)
 refine aj (cS aa (z) aa ?_)
 refine aX (aK aa (fun A=>?_) (fun A=>?_))
 ·have U:b.length=0:=by simp at A;simp[A]
  refine aQ (bM (ai (ae 1 aa (aj (gQ (b:=10) aa aa aq ?_)))))
  refine aj (uX aa aa ?_)
  refine aj (uW aa ?_)
  rw[QV (eI u aq)]
  refine ae 2 aa ?_
  refine aj (ot (rows:=[dQ (UInt8.ofNat (48+u % 10))]) (ys:=b.map dQ) rfl rfl rfl (.sD G I') aq (by simp only[bE,ca,dY];omega) ?_)
  refine ak 1 aa (bC (ae 1 aa (gD 5 23 aa aa (fun _=>⟨aa,aa⟩) (aj (Ba (b:=10) aa aa aq (FO ah ah) ?_)))))
  refine ak 1 aa ?_
  exact⟨2*(u/10)+(1-(UInt8.ofNat (48+u % 10)::b).length),by rw[cV];omega,u/10,UInt8.ofNat (48+u % 10)::b,_,ah,by rw[cV];omega,rfl,.inl rfl,⟨rfl,rfl,rfl,trivial⟩,trivial⟩
 refine dJ (ai (ae 2 aa (aj (HO aa (.sD G I') ?_))))
 refine aj (yq (a:=[]) rfl rfl (by rw[dL];omega) ?_)
 refine ak 1 aa (ay ?_)
 exact bt rfl rfl ⟨_,rfl,ID _ (by rw[Cv];omega)⟩
theorem JO{T:bd}(F:FT T){n:Nat}(z:n<65536):Sound T 51 [.agg [.d (.i .i64 1),.d (.i .i64 (n:Nat)),.d (cl [])]] fun r=>∃d,r= .d d∧gK 65537 d:=by
 refine dG F.Ru aa (an 2 aa (aL (ai (ae 1 aa (aj (cJ (XR F n) aa aa ?_))))))
 refine ak 1 aa (ef aa aa (aQ (aL (an 2 aa (bM (an 2 aa (ef aa aa (an 2 aa (eW aa aa ?_)))))))))
 refine ai (ae 2 aa (aj (fG aa (gu aa) (adn F z) (fun r _ A=>?_))))
 obtain⟨d,rfl,G⟩:=A
 exact ak 1 aa (ay (bt aa aa ⟨_,aa,G⟩))
theorem ado{T:bd}(F:FT T){s:List UInt8}(K:s.length≤200):Sound T 51 [.agg [.d (.i .i64 2),.d (.i .i64 0),.d (cl s)]] fun r=>∃d,r= .d d∧gK 500 d:=by
 refine dG F.Ru aa (an 2 aa (aL (ai (ae 1 aa (aj (cJ (XS F K) aa aa ?_))))))
 refine ak 1 aa (ef aa aa (aQ (aL (an 2 aa (bM (an 2 aa (ef aa aa (an 2 aa (ef aa aa ?_)))))))))
 refine an 2 aa (ef aa aa (aQ (an 2 aa (aL (an 1 aa (bM (d7 (fun k VE B=>∃(j:Nat)(b:List UInt8),j≤s.length∧k=s.length-j∧b.length≤1+2*j∧bn [(1,.vp 1 0),(3,.bs 22 (b.map dQ).length 1),(4,.d (.i .i64 (j:Nat)))] VE∧bn [(1,.one 92 32 [.d (.i .i64 2),.d (.i .i64 0),.d (cl s)]),(22,.arr 5 1 1 (b.map dQ).length (b.map dQ))] B) ?_ (k:=s.length) ⟨0,[39],dp _,aa,aq,⟨aa,aa,aa,trivial⟩,aa,aa,trivial⟩)))))))
 rintro _ VE B⟨j,b,Y,rfl,Z,z,A⟩
 refine db _ _ z A (aL (an 5 aa (aK aa (fun dr=>?_) (fun dr=>?_))))
 ·have G:j<s.length:=by simp at dr;omega
  obtain⟨c,J⟩:=jO G
  refine aQ (aL (bM (ri (fun VE B=>∃b1:List UInt8,b1.length≤2+2*j∧bn [(1,.vp 1 0),(3,.bs 22 (b1.map dQ).length 1),(4,.d (.i .i64 (j:Nat)))] VE∧bn [(1,.one 92 32 [.d (.i .i64 2),.d (.i .i64 0),.d (cl s)]),(22,.arr 5 1 1 (b1.map dQ).length (b1.map dQ))] B) ?_ ?_)))
  ·rintro VE B⟨b1,O,z,A⟩
   refine db _ _ z A (bC (ae 4 aa (aj (fR aa aa J ?_))))
   refine ae 1 aa ?_
   refine aj (ot (rows:=b1.map dQ) (ys:=[dQ c]) rfl rfl rfl (.bs (rows:=[dQ c]) rfl) aq (by rw[bE,ca,dY];omega) ?_)
   refine ak 1 aa (bC (ae 1 aa (aj (cM aa aa ah ?_))))
   refine ak 1 aa ?_
   exact⟨s.length-(j+1),ah,j+1,b1++[c],ah,rfl,by rw[bE,dY];omega,by rw[dx];exact⟨rfl,rfl,rfl,trivial⟩,by rw[dx];exact⟨rfl,rfl,trivial⟩⟩
  refine ai (ae 3 aa (aj (fR aa aa J ?_)))
  refine ak 1 aa (aK aa (fun I=>?_) (fun I=>?_))
  ·refine bC (ae 2 aa ?_)
   refine aj (ot (rows:=b.map dQ) (ys:=[dQ 39]) rfl rfl rfl (.bs (rows:=[dQ 39]) rfl) aq (by rw[bE,ca,dY];omega) ?_)
   refine ak 1 aa ?_
   exact⟨b++[39],by rw[bE,dY];omega,by rw[dx];exact⟨rfl,rfl,rfl,trivial⟩,by rw[dx];exact⟨rfl,rfl,trivial⟩⟩
  exact aQ (⟨b,ah,⟨aa,aa,aa,trivial⟩,aa,aa,trivial⟩)
 refine dJ (ai (ae 2 aa ?_))
 refine aj (ot (rows:=b.map dQ) (ys:=[dQ 39]) rfl rfl rfl (.bs (rows:=[dQ 39]) rfl) aq (by rw[bE,ca,dY];omega) ?_)
 have U:(b.map dQ++[dQ 39]).length=(b++[39]).length:=by simp
 rw[U]
 refine aj (HO rfl (YR.bB (s:=b++[39]) (by rw[dx];rfl)) ?_)
 refine ak 1 aa (ay ?_)
 exact bt rfl rfl ⟨_,rfl,ID _ (by rw[bE,dY];omega)⟩
theorem ys0:pg 1600=0:=by decide
theorem ys1:pg 1601=366:=by decide
theorem QW:kE 1600 1=31:=by decide
theorem adp:kE 1600 2=29:=by decide
theorem toDate{T:bd}(F:FT T){n:Nat}(O:n≤59):Sound T 111 [.d (.i .i64 (n:Nat))] fun r=>∃y m d:Nat,r= .tuple [.d (.i .i64 (y:Nat)),.d (.i .i64 (m:Nat)),.d (.i .i64 (d:Nat)),.d (.b true)]∧y<100000∧m<100000∧d<100000:=by
 refine dG F.aa9 aa (an 4 aa (aL (ai (ae 1 aa (aj (cJ (XQ F (n:=(n:Nat)) ah ah) aa aa ?_))))))
 refine ak 1 aa (ef aa aa (aQ (ai (ae 1 aa (aj (u7 aa aa aa cQ aq cQ ?_))))))
 rw[show((n:Nat):Int)/Int.ofNat 366=((0:Nat):Int) by simp only[bN];omega]
 refine aj (jj aa aa aq aq ?_)
 rw[show Int.ofNat 1600+((0:Nat):Int)=((1600:Nat):Int) from rfl]
 refine ak 1 aa (aL (bM (d7 (fun _ VE B=>bn [(0,.d (.i .i64 (n:Nat))),(6,.d (.i .i64 (1600:Nat)))] VE∧bn [] B) ?_ (k:=0) ⟨⟨aa,aa,trivial⟩,trivial⟩)))
 rintro _ VE B⟨A,G⟩
 refine db _ _ A G (aL (ai (ae 1 aa (aj (cM aa aa aq ?_)))))
 refine aj (cJ (I8 F (y:=1601) aq aq) aa aa ?_)
 rw[ys1]
 refine ak 2 aa (aK aa (fun eC=>?_) (fun eC=>?_))
 ·exact absurd eC (by simp;omega)
 refine dJ (ai (ae 2 aa (aj (cJ (I8 F (y:=1600) aq aq) aa aa ?_))))
 rw[ys0]
 refine aj (f3 aa aa cQ cQ ?_)
 rw[show((n:Nat):Int) -0=((n:Nat):Int) by omega]
 refine ak 1 aa (an 1 aa (aL (bM (d7 (fun k VE B=>∃m l:Nat,(m=1∧l=n∨m=2∧l+31=n)∧k=2-m∧bn [(0,.d (.i .i64 (n:Nat))),(6,.d (.i .i64 (1600:Nat))),(7,.d (.i .i64 (l:Nat))),(8,.d (.i .i64 (m:Nat)))] VE∧bn [] B) ?_ (k:=1) ⟨1,n,.inl ⟨aa,aa⟩,aa,⟨aa,aa,aa,aa,trivial⟩,trivial⟩))))
 rintro _ VE B⟨m,l,J,rfl,A,G⟩
 refine db _ _ A G (aL (ai (ae 3 aa (aj (cJ (Gq F 1600 m) aa aa ?_)))))
 refine ak 1 aa (aK aa (fun z=>?_) (fun z=>?_))
 ·obtain⟨rfl,I⟩:m=1∧31≤l:=by
   rcases J with⟨rfl,rfl⟩|⟨rfl,h⟩
   ·rw[QW] at z;refine⟨rfl,?_⟩;simp at z;omega
   rw[adp] at z;simp at z;omega
  have K:l=n:=by omega
  refine aQ (bM (ai (ae 3 aa (aj (cJ (Gq F 1600 1) aa aa ?_)))))
  rw[QW]
  refine aj (f3 aa aa cQ cQ ?_)
  rw[show((l:Nat):Int) -((31:Nat):Int)=((l-31:Nat):Int) by omega]
  refine ak 1 aa (bC (ae 1 aa (aj (cM aa aa aq ?_))))
  exact ak 1 aa (⟨0,ah,2,l-31,.inr ⟨aa,ah⟩,aa,⟨aa,aa,aa,aa,trivial⟩,trivial⟩)
 refine dJ (ai (ae 3 aa (aj (cM aa aa ah ?_))))
 exact ak 4 aa (ay (bt aa aa ⟨1600,m,l+1,aa,aq,ah,ah⟩))
theorem Ig{T:bd}(F:FT T){n w:Nat}(I:n<100000)(hw:w≤10):Sound T 112 [.d (.i .i64 (n:Nat)),.d (.i .i64 (w:Nat))] fun r=>∃d,r= .d d∧gK w d:=by
 refine dG F.aba aa (an 1 aa (ai (ae 1 aa (aj (V5 (n:=w) 8 aa aa aa aa aa aa aa ah ah ?_)))))
 refine ak 1 aa (aL (ai (ae 1 aa (aj (f3 aa aa cQ cQ ?_)))))
 refine ak 1 aa (bM ?_)
 refine d7 (fun k VE B=>∃(j n:Nat)(b:List UInt8),j≤w∧k=j∧n<100000∧b.length=w∧bn [(0,.d (.i .i64 (n:Nat))),(5,.bs 8 w 1),(6,.d (.i .i64 ((j:Int) -1)))] VE∧bn [(8,.arr 5 1 1 w (b.map dQ))] B) ?_ (k:=w) ⟨w,n,List.replicate w 0,bR _,rfl,I,E5,⟨rfl,rfl,rfl,trivial⟩,by rw[List.map_replicate];exact⟨rfl,trivial⟩⟩
 clear I
 rintro k VE B⟨j,n,b,hj,O,I,J,U,Y⟩
 refine db _ _ U Y (aL (an 2 aa (aK aa (fun z=>?_) (fun z=>?_))))
 ·have Z:1≤j:=by simp at z;omega
  obtain⟨x,hx⟩:∃x,b[j-1]?=some x:=⟨_,fe ah⟩
  have A:(b.map dQ)[j-1]?=some (dQ x):=by rw[iJ,hx];rfl
  have G:(b.map dQ).length=w:=by rw[ca,J]
  refine aQ (aL (bM (ai ?_)))
  rw[show((j:Int) -1)=((j-1:Nat):Int) by omega]
  refine ae 3 aa (aj (gQ (b:=10) aa aa aq ?_))
  refine aj (jj aa aa cQ cQ ?_)
  refine aj (uW aa ?_)
  rw[YJ (eI n aq)]
  refine aj (mU aa aa ah ?_)
  refine Ir (T9 (rows:=b.map dQ) (row:=dQ x) (by rw[G];rfl) rfl rfl rfl rfl rfl aq aq A ?_)
  refine aX (bC ?_)
  have K:(b.map dQ).set (j-1) (Gh (dQ x) 0 [.i .u8 (((UInt8.ofNat (48+n % 10)).toNat:Nat):Int)])=(b.map dQ).set (j-1) (dQ (UInt8.ofNat (48+n % 10))):=rfl
  rw[K,G]
  refine ae 1 aa (aj (u7 aa aa aa cQ aq cQ ?_))
  rw[show((n:Nat):Int)/Int.ofNat 10=((n/10:Nat):Int) from rfl]
  refine ak 1 aa (bC (ae 1 aa (aj (f3 aa aa cQ cQ ?_))))
  rw[show((j-1:Nat):Int) -Int.ofNat 1=(((j-1:Nat):Int) -1) from rfl]
  refine ak 1 aa ?_
  exact⟨j-1,ah,j-1,n/10,b.set (j-1) (UInt8.ofNat (48+n % 10)),ah,rfl,ah,by rw[E6];exact J,⟨rfl,rfl,rfl,trivial⟩,by rw[List.map_set];exact⟨rfl,trivial⟩⟩
 refine dJ (ai (ae 1 aa ?_))
 refine aj (HO rfl (by rw[←J];exact YR.bB rfl) ?_)
 exact ak 1 aa (ay (bt aa aa ⟨_,aa,ID _ ah⟩))
end Go.Ev.Pp
