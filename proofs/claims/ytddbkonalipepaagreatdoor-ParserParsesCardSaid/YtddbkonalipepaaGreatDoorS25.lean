/- Part 25 of rules for walks through the code of a program, and of such walks; what each part proves is said by its theorems. -/
import Derived.Test.YtddbkonalipepaaGreatDoorS24
set_option linter.unusedVariables false
set_option linter.unusedSimpArgs false
namespace Go.Ev.Pp
open Go
set_option maxRecDepth 10000
set_option maxHeartbeats 4000000 in
theorem Wv{T:bf}(F:FT T){s:Stmt}(G:s.sm):Sound T 12 [ep s.enc,ep s.enc] fun r=>r=dB true:=by
 refine eo F.f12 aa (ak 3 aa (aM (ai (ae 4 aa (al (kZ aa aa ?_))))))
 refine ae 1 aa (ao aa aa (dq aa ?_))
 refine ao aa aa (cW aa aa aa ?_)
 refine ao aa aa (dq aa ?_)
 refine ao aa aa (cW aa aa aa ?_)
 refine ao aa aa (kZ aa aa ?_)
 refine ae 2 aa (ao aa aa (dq aa ?_))
 refine ao aa aa (cW aa aa aa ?_)
 refine ao aa aa (dq aa ?_)
 refine ao aa aa (cW aa aa aa ?_)
 refine ao aa aa (kZ aa aa ?_)
 refine ae 2 aa (ao aa aa (dq aa ?_))
 refine ao aa aa (cW aa aa aa ?_)
 refine ao aa aa (dq aa ?_)
 refine ao aa aa (cW aa aa aa ?_)
 refine ao aa aa (kZ aa aa ?_)
 refine ae 2 aa (ao aa aa (dq aa ?_))
 refine ao aa aa (cW aa aa aa ?_)
 refine ao aa aa (dq aa ?_)
 refine ao aa aa (cW aa aa aa ?_)
 refine ao aa aa (CQ aa aa ?_)
 refine ae 2 aa (ao aa aa (dq aa ?_))
 refine ao aa aa (cW aa aa aa ?_)
 refine ao aa aa (dq aa ?_)
 refine ao aa aa (cW aa aa aa ?_)
 refine ao aa aa (CQ aa aa ?_)
 refine ae 2 aa (ao aa aa (dq aa ?_))
 refine ao aa aa (qb aa aa (bS aa) (bS aa) ?_)
 refine ao aa aa (dq aa ?_)
 refine ao aa aa (qb aa aa (bS aa) (bS aa) ?_)
 refine ao aa aa (tz (r:=[.i .i64 s.valid.1,.i .i64 s.valid.2]) aa aa aa ?_)
 refine ae 2 aa (ao aa aa (dq aa ?_))
 refine ao aa aa (cW aa aa aa ?_)
 refine ao aa aa (dq aa ?_)
 refine ao aa aa (cW aa aa aa ?_)
 refine ao aa aa (kZ aa aa ?_)
 refine ae 2 aa (ao aa aa (dq aa ?_))
 refine ao aa aa (cW aa aa aa ?_)
 refine ao aa aa (dq aa ?_)
 refine ao aa aa (cW aa aa aa ?_)
 refine ao aa aa (kZ aa aa ?_)
 refine ae 2 aa (ao aa aa (dq aa ?_))
 refine ao aa aa (qb aa aa (bS aa) (bS aa) ?_)
 refine ao aa aa (dq aa ?_)
 refine ao aa aa (qb aa aa (bS aa) (bS aa) ?_)
 refine ao aa aa (tz (r:=[.i .i64 s.wq.1,.i .i64 s.wq.2]) aa aa aa ?_)
 refine ae 2 aa (ao aa aa (dq aa ?_))
 refine ao aa aa (qb aa aa (bS aa) (bS aa) ?_)
 refine ao aa aa (dq aa ?_)
 refine ao aa aa (qb aa aa (bS aa) (bS aa) ?_)
 refine ao aa aa (cO (Oe F G.cQ) aa aa ?_)
 refine ao aa aa (jv aa ?_)
 refine ae 2 aa (ao aa aa (dq aa ?_))
 refine ao aa aa (cW aa aa aa ?_)
 refine ao aa aa (dq aa ?_)
 refine ao aa aa (cW aa aa aa ?_)
 refine ao aa aa (cO (Oc F G.ex) aa aa ?_)
 refine ao aa aa (jv aa ?_)
 refine ae 2 aa (ao aa aa (dq aa ?_))
 refine ao aa aa (cW aa aa aa ?_)
 refine ao aa aa (dq aa ?_)
 refine ao aa aa (cW aa aa aa ?_)
 refine ao aa aa (cO (Ef F G.key) aa aa ?_)
 refine ao aa aa (jv aa ?_)
 refine ae 1 aa (af ?_)
 refine eI aa aa (aT (aM (ai (ae 2 aa (al (hU aa ?_))))))
 refine ae 2 aa (al (hU aa ?_))
 refine al (kZ aa aa ?_)
 refine ae 1 aa (ao aa aa (dq aa ?_))
 refine ao aa aa (cW aa aa aa ?_)
 refine ao aa aa (hU aa ?_)
 refine ao aa aa (dq aa ?_)
 refine ao aa aa (cW aa aa aa ?_)
 refine ao aa aa (hU aa ?_)
 refine ao aa aa (kZ aa aa ?_)
 refine ae 2 aa (ao aa aa (dq aa ?_))
 refine ao aa aa (cW aa aa aa ?_)
 refine ao aa aa (hU aa ?_)
 refine ao aa aa (dq aa ?_)
 refine ao aa aa (cW aa aa aa ?_)
 refine ao aa aa (hU aa ?_)
 refine ao aa aa (kZ aa aa ?_)
 refine ae 2 aa (ao aa aa (dq aa ?_))
 refine ao aa aa (cW aa aa aa ?_)
 refine ao aa aa (hU aa ?_)
 refine ao aa aa (dq aa ?_)
 refine ao aa aa (cW aa aa aa ?_)
 refine ao aa aa (hU aa ?_)
 refine ao aa aa (kZ aa aa ?_)
 refine ae 2 aa (ao aa aa (dq aa ?_))
 refine ao aa aa (cW aa aa aa ?_)
 refine ao aa aa (hU aa ?_)
 refine ao aa aa (dq aa ?_)
 refine ao aa aa (cW aa aa aa ?_)
 refine ao aa aa (hU aa ?_)
 refine ao aa aa (kZ aa aa ?_)
 refine ae 1 aa (af ?_)
 refine eI aa aa (aT (aM (ak 1 aa (bN (d7 (fun k VE B=>∃i,i≤s.row.length∧k=s.row.length-i∧bu [(2,.vp 2 0),(3,.vp 3 0),(4,dB false),(5,dI (i:Nat))] VE∧bu [(2,.one 38 328 (s.enc.map .d)),(3,.one 38 328 (s.enc.map .d))] B) ?_ (k:=s.row.length) ⟨0,dh _,aa,⟨aa,aa,aa,aa,trivial⟩,⟨aa,aa,trivial⟩⟩)))))
 rintro k VE B⟨i,hi,rfl,I,J⟩
 refine dy _ _ I J (aM (ai (ae 3 aa (al (hU aa ?_)))))
 refine ae 1 aa (af ?_)
 refine aJ aa (fun O=>?_) (fun O=>?_)
 ·have K:=G.row
  have A:i<s.row.length:=by simp at O;omega
  obtain⟨e,he⟩:∃e,s.row[i]?=some e:=⟨_,eY A⟩
  have z:(s.row.map gX.enc)[i]?=some (gX.enc e):=by rw[iO,he];rfl
  refine aT (aM (bN (eU (bm 3 aa (dE (jM aa aa z aa ?_))))))
  refine jJ rfl rfl (mc rfl (by decide) (bY 3) ?_)
  refine bm 3 aa (dE (jM aa aa z aa ?_))
  refine jJ rfl rfl (mc rfl (by decide) (bY 3) ?_)
  refine dE (tz (r:=gX.enc e) aa aa aa ?_)
  refine da (eI aa aa (aT (bG (ae 1 aa ?_))))
  refine al (cV rfl rfl (by omega) ?_)
  refine ae 1 aa (af ?_)
  exact⟨s.row.length-(i+1),by omega,i+1,by omega,rfl,⟨rfl,rfl,rfl,rfl,trivial⟩,⟨rfl,rfl,trivial⟩⟩
 refine dM (aM (ak 1 aa (bN (d7 (fun k VE B=>∃i,i≤s.mS.length∧k=s.mS.length-i∧bu [(2,.vp 2 0),(3,.vp 3 0),(4,dB false),(6,dI (i:Nat))] VE∧bu [(2,.one 38 328 (s.enc.map .d)),(3,.one 38 328 (s.enc.map .d))] B) ?_ (k:=s.mS.length) ⟨0,dh _,aa,⟨aa,aa,aa,aa,trivial⟩,⟨aa,aa,trivial⟩⟩))))
 rintro k VE B⟨i,hi,rfl,I,J⟩
 refine dy _ _ I J (aM (ai (ae 3 aa (al (hU aa ?_)))))
 refine ae 1 aa (af ?_)
 refine aJ aa (fun U=>?_) (fun U=>?_)
 ·have K:=G.mS
  have A:i<s.mS.length:=by simp at U;omega
  obtain⟨e,he⟩:∃e,s.mS[i]?=some e:=⟨_,eY A⟩
  have z:(s.mS.map eK)[i]?=some (eK e):=by rw[iO,he];rfl
  refine aT (aM (bN (eU (bm 3 aa (dE (jM aa aa z aa ?_))))))
  refine jJ rfl rfl (mc rfl (by decide) (bY 2) ?_)
  refine bm 3 aa (dE (jM aa aa z aa ?_))
  refine jJ rfl rfl (mc rfl (by decide) (bY 2) ?_)
  refine dE (tz (r:=eK e) aa aa aa ?_)
  refine da (eI aa aa (aT (bG (ae 1 aa ?_))))
  refine al (cV rfl rfl (by omega) ?_)
  refine ae 1 aa (af ?_)
  exact⟨s.mS.length-(i+1),by omega,i+1,by omega,rfl,⟨rfl,rfl,rfl,rfl,trivial⟩,⟨rfl,rfl,trivial⟩⟩
 refine dM (aM (ak 1 aa (bN (d7 (fun k VE B=>∃i,i≤s.ji.length∧k=s.ji.length-i∧bu [(2,.vp 2 0),(3,.vp 3 0),(4,dB false),(7,dI (i:Nat))] VE∧bu [(2,.one 38 328 (s.enc.map .d)),(3,.one 38 328 (s.enc.map .d))] B) ?_ (k:=s.ji.length) ⟨0,dh _,aa,⟨aa,aa,aa,aa,trivial⟩,⟨aa,aa,trivial⟩⟩))))
 rintro k VE B⟨i,hi,rfl,I,J⟩
 refine dy _ _ I J (aM (ai (ae 3 aa (al (hU aa ?_)))))
 refine ae 1 aa (af ?_)
 refine aJ aa (fun Y=>?_) (fun Y=>?_)
 ·have K:=G.ji
  have A:i<s.ji.length:=by simp at Y;omega
  obtain⟨e,he⟩:∃e,s.ji[i]?=some e:=⟨_,eY A⟩
  have z:(s.ji.map cP)[i]?=some (cP e):=by rw[iO,he];rfl
  refine aT (aM (bN (eU (bm 3 aa (dE (jM aa aa z aa ?_))))))
  refine jJ rfl rfl (mc rfl (by decide) (bY 3) ?_)
  refine bm 3 aa (dE (jM aa aa z aa ?_))
  refine jJ rfl rfl (mc rfl (by decide) (bY 3) ?_)
  refine dE (tz (r:=cP e) aa aa aa ?_)
  refine da (eI aa aa (aT (bG (ae 1 aa ?_))))
  refine al (cV rfl rfl (by omega) ?_)
  refine ae 1 aa (af ?_)
  exact⟨s.ji.length-(i+1),by omega,i+1,by omega,rfl,⟨rfl,rfl,rfl,rfl,trivial⟩,⟨rfl,rfl,trivial⟩⟩
 refine dM (aM (ak 1 aa (bN (d7 (fun k VE B=>∃i,i≤s.ma.length∧k=s.ma.length-i∧bu [(2,.vp 2 0),(3,.vp 3 0),(4,dB false),(8,dI (i:Nat))] VE∧bu [(2,.one 38 328 (s.enc.map .d)),(3,.one 38 328 (s.enc.map .d))] B) ?_ (k:=s.ma.length) ⟨0,dh _,aa,⟨aa,aa,aa,aa,trivial⟩,⟨aa,aa,trivial⟩⟩))))
 rintro k VE B⟨i,hi,rfl,I,J⟩
 refine dy _ _ I J (aM (ai (ae 3 aa (al (hU aa ?_)))))
 refine ae 1 aa (af ?_)
 refine aJ aa (fun Z=>?_) (fun Z=>?_)
 ·have K:=G.ma
  have A:i<s.ma.length:=by simp at Z;omega
  obtain⟨e,he⟩:∃e,s.ma[i]?=some e:=⟨_,eY A⟩
  have z:(s.ma.map Fk.enc)[i]?=some (Fk.enc e):=by rw[iO,he];rfl
  refine aT (aM (bN (eU (bm 3 aa (dE (jM aa aa z aa ?_))))))
  refine jJ rfl rfl (mc rfl (by decide) (bY 3) ?_)
  refine bm 3 aa (dE (jM aa aa z aa ?_))
  refine jJ rfl rfl (mc rfl (by decide) (bY 3) ?_)
  refine bm 4 aa (da ?_)
  refine ai (ae 4 aa (al (CQ aa aa ?_)))
  refine ae 1 aa (ao aa aa (dq aa ?_))
  refine ao aa aa (cW aa aa aa ?_)
  refine ao aa aa (dq aa ?_)
  refine ao aa aa (cW aa aa aa ?_)
  refine ao aa aa (cO (Ef F (G.fk e (lW he)).1) aa aa ?_)
  refine ao aa aa (jv aa ?_)
  refine ae 2 aa (ao aa aa (dq aa ?_))
  refine ao aa aa (cW aa aa aa ?_)
  refine ao aa aa (dq aa ?_)
  refine ao aa aa (cW aa aa aa ?_)
  refine ao aa aa (cO (Ef F (G.fk e (lW he)).2) aa aa ?_)
  refine ao aa aa (jv aa ?_)
  refine ae 1 aa (af ?_)
  refine eI aa aa (aT (bG (ae 1 aa ?_)))
  refine al (cV rfl rfl (by omega) ?_)
  refine ae 1 aa (af ?_)
  exact⟨s.ma.length-(i+1),by omega,i+1,by omega,rfl,⟨rfl,rfl,rfl,rfl,trivial⟩,⟨rfl,rfl,trivial⟩⟩
 refine dM (aM (ak 1 aa (bN (d7 (fun k VE B=>∃i,i≤s.cons.length∧k=s.cons.length-i∧bu [(2,.vp 2 0),(3,.vp 3 0),(4,dB false),(11,dI (i:Nat))] VE∧bu [(2,.one 38 328 (s.enc.map .d)),(3,.one 38 328 (s.enc.map .d))] B) ?_ (k:=s.cons.length) ⟨0,dh _,aa,⟨aa,aa,aa,aa,trivial⟩,⟨aa,aa,trivial⟩⟩))))
 rintro k VE B⟨i,hi,rfl,I,J⟩
 refine dy _ _ I J (aM (ai (ae 3 aa (al (hU aa ?_)))))
 refine ae 1 aa (af ?_)
 refine aJ aa (fun OZ=>?_) (fun OZ=>?_)
 ·have K:=G.cons
  have A:i<s.cons.length:=by simp at OZ;omega
  obtain⟨e,he⟩:∃e,s.cons[i]?=some e:=⟨_,eY A⟩
  have z:(s.cons.map dQ)[i]?=some (dQ e):=by rw[iO,he];rfl
  refine aT (aM (bN (eU (bm 3 aa (dE (jM aa aa z aa ?_))))))
  refine bm 1 aa (jJ aa aa (mA (x:=.i .i64 e.1) aa aa ?_))
  refine bm 3 aa (dE (jM aa aa z aa ?_))
  refine bm 1 aa (jJ aa aa (mA (x:=.i .i64 e.1) aa aa ?_))
  refine dE (kZ aa aa ?_)
  refine bm 1 aa (dZ aa aa (dq aa ?_))
  refine kq aa aa aa (cW aa aa aa ?_)
  refine dZ aa aa (bM aa ?_)
  refine dZ aa aa (jM aa aa z aa ?_)
  refine dZ aa aa (tl aa ?_)
  refine kq aa aa aa (mA (x:=fP e.2) aa aa ?_)
  refine dZ aa aa (dq aa ?_)
  refine kq aa aa aa (cW aa aa aa ?_)
  refine dZ aa aa (bM aa ?_)
  refine dZ aa aa (jM aa aa z aa ?_)
  refine dZ aa aa (tl aa ?_)
  refine kq aa aa aa (mA (x:=fP e.2) aa aa ?_)
  refine kq aa aa aa (cO (Ef F (G.gS e (lW he))) aa aa ?_)
  refine dZ aa aa (jv aa ?_)
  refine bm 1 aa (da ?_)
  refine eI aa aa (aT (bG (ae 1 aa ?_)))
  refine al (cV rfl rfl (by omega) ?_)
  refine ae 1 aa (af ?_)
  exact⟨s.cons.length-(i+1),by omega,i+1,by omega,rfl,⟨rfl,rfl,rfl,rfl,trivial⟩,⟨rfl,rfl,trivial⟩⟩
 exact dM (ak 1 aa (ax (bB aa aa aa)))
open Go
set_option maxRecDepth 10000
def pJ(s:List UInt8):Stmt×Int×Int:=if¬(e9 s).2.2=0 then({},((e9 s).2.1:Nat),(e9 s).2.2) else lv rb (e9 s).1
def pC(s:List UInt8):js×Int×Int:=if¬(e9 s).2.2=0 then(⟨[],[]⟩,((e9 s).2.1:Nat),(e9 s).2.2) else lq rb (e9 s).1
theorem Cu{s:List UInt8}(h:(e9 s).2.2=0):(e9 s).1.map cL.enc≠[]:=fun k=>by
 have:=(vl h).ne
 rw[List.map_eq_nil_iff.1 k] at this;exact absurd this (by decide)
theorem Sd{s:List UInt8}:(pJ s).1.sm:=by
 unfold pJ
 split
 ·exact m5
 rename_i h;exact Sc (vl (by simpa using h))
theorem Rp{s:List UInt8}:(pC s).1.sm:=by
 unfold pC
 split
 ·exact GC
 rename_i h;exact Ro (vl (by simpa using h))
set_option maxHeartbeats 1000000 in
theorem Vw{T:bf}(F:FT T)(X:FX T)(s:List UInt8):Sound T 6 [dS s] fun r=>r= .tuple [ep (pJ s).1.enc,dI (pJ s).2.1,dI (pJ s).2.2]:=by
 refine eo F.f6 aa (ak 3 aa (ai (ae 1 aa (al (cO (R:=.tuple [.d (.e8 ((e9 s).1.map cL.enc)),dI ((e9 s).2.1:Nat),dI (e9 s).2.2]) (Oa F X s) aa aa ?_)))))
 refine ae 7 aa (af ?_)
 refine aM (ak 2 aa (aJ aa (fun z=>?_) (fun z=>?_)))
 ·have A:pJ s=(({}:Stmt),(((e9 s).2.1:Nat):Int),(e9 s).2.2):=aq (by simpa using z)
  refine ak 6 aa (ax ?_)
  exact bB rfl rfl (by rw[A];rfl)
 have he:(e9 s).2.2=0:=by simpa using z
 have G:=vl he
 rw[DC.qN (Cu he)]
 have A:pJ s=lv rb (e9 s).1:=aj (fun k=>k he)
 refine aT (ai (ae 1 aa (al (cO (Qm F (leaf F X) G) aa aa ?_))))
 refine ae 6 aa (af ?_)
 refine ax ?_
 exact bB rfl rfl (by rw[A];rfl)
set_option maxHeartbeats 1000000 in
theorem UD{T:bf}(F:FT T)(s:List UInt8):Sound T 10 [dS s] fun r=>r= .tuple [ep (pJ s).1.enc,dI (pJ s).2.1,dI (pJ s).2.2]:=by
 refine eo F.f10 aa (ak 3 aa (ai (ae 1 aa (al (cO (R:=.tuple [.d (.e8 ((e9 s).1.map cL.enc)),dI ((e9 s).2.1:Nat),dI (e9 s).2.2]) (Ob F s) aa aa ?_)))))
 refine ae 7 aa (af ?_)
 refine aM (ak 2 aa (aJ aa (fun z=>?_) (fun z=>?_)))
 ·have A:pJ s=(({}:Stmt),(((e9 s).2.1:Nat):Int),(e9 s).2.2):=aq (by simpa using z)
  refine ak 6 aa (ax ?_)
  exact bB rfl rfl (by rw[A];rfl)
 have he:(e9 s).2.2=0:=by simpa using z
 have G:=vl he
 rw[DC.qN (Cu he)]
 have A:pJ s=lv rb (e9 s).1:=aj (fun k=>k he)
 refine aT (ai (ae 1 aa (al (cO (Qn F (N' F) G) aa aa ?_))))
 refine ae 6 aa (af ?_)
 refine ax ?_
 exact bB rfl rfl (by rw[A];rfl)
set_option maxHeartbeats 1000000 in
theorem UE{T:bf}(F:FT T)(X:FX T)(s:List UInt8):Sound T 7 [dS s] fun r=>r= .tuple [ep (pC s).1.enc,dI (pC s).2.1,dI (pC s).2.2]:=by
 refine eo F.f7 aa (ak 3 aa (ai (ae 1 aa (al (cO (R:=.tuple [.d (.e8 ((e9 s).1.map cL.enc)),dI ((e9 s).2.1:Nat),dI (e9 s).2.2]) (Oa F X s) aa aa ?_)))))
 refine ae 7 aa (af ?_)
 refine aM (ak 2 aa (aJ aa (fun z=>?_) (fun z=>?_)))
 ·have A:pC s=((⟨[],[]⟩:js),(((e9 s).2.1:Nat):Int),(e9 s).2.2):=aq (by simpa using z)
  refine ak 6 aa (ax ?_)
  exact bB rfl rfl (by rw[A];rfl)
 have he:(e9 s).2.2=0:=by simpa using z
 have G:=vl he
 rw[DC.qN (Cu he)]
 have A:pC s=lq rb (e9 s).1:=aj (fun k=>k he)
 refine aT (ai (ae 1 aa (al (cO (Qb F (leaf F X) G) aa aa ?_))))
 refine ae 6 aa (af ?_)
 refine ax ?_
 exact bB rfl rfl (by rw[A];rfl)
set_option maxHeartbeats 1000000 in
theorem Th{T:bf}(F:FT T)(s:List UInt8):Sound T 11 [dS s] fun r=>r= .tuple [ep (pC s).1.enc,dI (pC s).2.1,dI (pC s).2.2]:=by
 refine eo F.f11 aa (ak 3 aa (ai (ae 1 aa (al (cO (R:=.tuple [.d (.e8 ((e9 s).1.map cL.enc)),dI ((e9 s).2.1:Nat),dI (e9 s).2.2]) (Ob F s) aa aa ?_)))))
 refine ae 7 aa (af ?_)
 refine aM (ak 2 aa (aJ aa (fun z=>?_) (fun z=>?_)))
 ·have A:pC s=((⟨[],[]⟩:js),(((e9 s).2.1:Nat):Int),(e9 s).2.2):=aq (by simpa using z)
  refine ak 6 aa (ax ?_)
  exact bB rfl rfl (by rw[A];rfl)
 have he:(e9 s).2.2=0:=by simpa using z
 have G:=vl he
 rw[DC.qN (Cu he)]
 have A:pC s=lq rb (e9 s).1:=aj (fun k=>k he)
 refine aT (ai (ae 1 aa (al (cO (Qc F (N' F) G) aa aa ?_))))
 refine ae 6 aa (af ?_)
 refine ax ?_
 exact bB rfl rfl (by rw[A];rfl)
set_option maxHeartbeats 1000000 in
theorem UF{T:bf}(F:FT T)(X:FX T)(s:List UInt8):Sound T 5 [dS s] fun r=>r=dB true:=by
 refine eo F.f5 aa (ak 1 aa (ai (ae 1 aa (al (cO (Vw F X s) aa aa ?_)))))
 refine ae 8 aa (af ?_)
 refine ai (ae 1 aa (al (cO (UD F s) aa aa ?_)))
 refine ae 8 aa (af ?_)
 refine ai (ae 1 aa (al (cO (UE F X s) aa aa ?_)))
 refine ae 8 aa (af ?_)
 refine ai (ae 1 aa (al (cO (Th F s) aa aa ?_)))
 refine ae 8 aa (af ?_)
 refine ai (ae 2 aa (al (CR aa aa ?_)))
 refine ae 1 aa (ao aa aa (bM aa ?_))
 refine ao aa aa (bM aa ?_)
 refine ao aa aa (CR aa aa ?_)
 refine ae 2 aa (ao aa aa (qb aa aa (bS aa) (bS aa) ?_))
 refine ao aa aa (qb aa aa (bS aa) (bS aa) ?_)
 refine ao aa aa (cO (Wv F Sd) aa aa ?_)
 refine ae 2 aa (ao aa aa (bM aa ?_))
 refine ao aa aa (bM aa ?_)
 refine ao aa aa (CR aa aa ?_)
 refine ae 2 aa (ao aa aa (bM aa ?_))
 refine ao aa aa (bM aa ?_)
 refine ao aa aa (CR aa aa ?_)
 refine ae 2 aa (ao aa aa (qb aa aa (bS aa) (bS aa) ?_))
 refine ao aa aa (qb aa aa (bS aa) (bS aa) ?_)
 refine ao aa aa (cO (Oe F Rp) aa aa ?_)
 refine ae 2 aa (af ?_)
 exact ax (bB aa aa aa)
theorem law28{T:bf}(F:FT T)(X:FX T)(A:Sound T 4 [] fun r=>r=dB true)(s:List UInt8):Sound T 3 [dS s] fun r=>r=dB true:=by
 refine eo F.f3 aa (ak 1 aa (ai (al (cO (A) aa aa ?_))))
 refine ae 1 aa (ao aa aa (bM aa ?_))
 refine ao aa aa (vh aa ?_)
 refine ao aa aa (r8 aa aa ?_)
 refine ao aa aa (bM aa ?_)
 refine cX (g:=aC) aa (fun z=>?_) (fun z=>?_)
 ·refine aO aa (z) (aO aa (z) (ao aa aa (cS aa (z) aa ?_)))
  refine ae 2 aa (af ?_)
  exact ax (bB aa aa aa)
 refine ao aa (z) (bM aa ?_)
 refine ao aa (z) (cO (UF F X s) aa aa ?_)
 refine ao aa aa (cI aa (z) aa ?_)
 refine ae 2 aa (af ?_)
 exact ax (bB aa aa aa)
end Go.Ev.Pp
