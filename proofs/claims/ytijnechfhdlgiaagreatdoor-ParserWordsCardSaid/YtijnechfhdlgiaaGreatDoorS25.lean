/- Part 25 of rules for walks through the code of a program, and of such walks; what each part proves is said by its theorems. -/
import Derived.Test.YtijnechfhdlgiaaGreatDoorS19
import Derived.Test.YtijnechfhdlgiaaGreatDoorS22
import Derived.Test.YtijnechfhdlgiaaGreatDoorS24
set_option linter.unusedVariables false
set_option linter.unusedSimpArgs false
namespace Go.Ev.Pp
open Go
set_option maxRecDepth 10000
set_option maxHeartbeats 4000000 in
theorem WN{T:bf}(F:FT T){s:Stmt}(G:s.sm):Sound T 19 [et s.enc,et s.enc] fun r=>r=dB true:=by
 refine ep F.f19 aa (ak 3 aa (aM (ai (ae 4 aa (al (k9 aa aa ?_))))))
 refine ae 1 aa (au aa aa (du aa ?_))
 refine au aa aa (c8 aa aa aa ?_)
 refine au aa aa (du aa ?_)
 refine au aa aa (c8 aa aa aa ?_)
 refine au aa aa (k9 aa aa ?_)
 refine ae 2 aa (au aa aa (du aa ?_))
 refine au aa aa (c8 aa aa aa ?_)
 refine au aa aa (du aa ?_)
 refine au aa aa (c8 aa aa aa ?_)
 refine au aa aa (k9 aa aa ?_)
 refine ae 2 aa (au aa aa (du aa ?_))
 refine au aa aa (c8 aa aa aa ?_)
 refine au aa aa (du aa ?_)
 refine au aa aa (c8 aa aa aa ?_)
 refine au aa aa (k9 aa aa ?_)
 refine ae 2 aa (au aa aa (du aa ?_))
 refine au aa aa (c8 aa aa aa ?_)
 refine au aa aa (du aa ?_)
 refine au aa aa (c8 aa aa aa ?_)
 refine au aa aa (CR aa aa ?_)
 refine ae 2 aa (au aa aa (du aa ?_))
 refine au aa aa (c8 aa aa aa ?_)
 refine au aa aa (du aa ?_)
 refine au aa aa (c8 aa aa aa ?_)
 refine au aa aa (CR aa aa ?_)
 refine ae 2 aa (au aa aa (du aa ?_))
 refine au aa aa (qe aa aa (bW aa) (bW aa) ?_)
 refine au aa aa (du aa ?_)
 refine au aa aa (qe aa aa (bW aa) (bW aa) ?_)
 refine au aa aa (tQ (r:=[.i .i64 s.valid.1,.i .i64 s.valid.2]) aa aa aa ?_)
 refine ae 2 aa (au aa aa (du aa ?_))
 refine au aa aa (c8 aa aa aa ?_)
 refine au aa aa (du aa ?_)
 refine au aa aa (c8 aa aa aa ?_)
 refine au aa aa (k9 aa aa ?_)
 refine ae 2 aa (au aa aa (du aa ?_))
 refine au aa aa (c8 aa aa aa ?_)
 refine au aa aa (du aa ?_)
 refine au aa aa (c8 aa aa aa ?_)
 refine au aa aa (k9 aa aa ?_)
 refine ae 2 aa (au aa aa (du aa ?_))
 refine au aa aa (qe aa aa (bW aa) (bW aa) ?_)
 refine au aa aa (du aa ?_)
 refine au aa aa (qe aa aa (bW aa) (bW aa) ?_)
 refine au aa aa (tQ (r:=[.i .i64 s.wq.1,.i .i64 s.wq.2]) aa aa aa ?_)
 refine ae 2 aa (au aa aa (du aa ?_))
 refine au aa aa (qe aa aa (bW aa) (bW aa) ?_)
 refine au aa aa (du aa ?_)
 refine au aa aa (qe aa aa (bW aa) (bW aa) ?_)
 refine au aa aa (cQ (Ou F G.cT) aa aa ?_)
 refine au aa aa (ju aa ?_)
 refine ae 2 aa (au aa aa (du aa ?_))
 refine au aa aa (c8 aa aa aa ?_)
 refine au aa aa (du aa ?_)
 refine au aa aa (c8 aa aa aa ?_)
 refine au aa aa (cQ (Oq F G.ex) aa aa ?_)
 refine au aa aa (ju aa ?_)
 refine ae 2 aa (au aa aa (du aa ?_))
 refine au aa aa (c8 aa aa aa ?_)
 refine au aa aa (du aa ?_)
 refine au aa aa (c8 aa aa aa ?_)
 refine au aa aa (cQ (Eh F G.key) aa aa ?_)
 refine au aa aa (ju aa ?_)
 refine ae 1 aa (af ?_)
 refine eJ aa aa (aU (aM (ai (ae 2 aa (al (hO aa ?_))))))
 refine ae 2 aa (al (hO aa ?_))
 refine al (k9 aa aa ?_)
 refine ae 1 aa (au aa aa (du aa ?_))
 refine au aa aa (c8 aa aa aa ?_)
 refine au aa aa (hO aa ?_)
 refine au aa aa (du aa ?_)
 refine au aa aa (c8 aa aa aa ?_)
 refine au aa aa (hO aa ?_)
 refine au aa aa (k9 aa aa ?_)
 refine ae 2 aa (au aa aa (du aa ?_))
 refine au aa aa (c8 aa aa aa ?_)
 refine au aa aa (hO aa ?_)
 refine au aa aa (du aa ?_)
 refine au aa aa (c8 aa aa aa ?_)
 refine au aa aa (hO aa ?_)
 refine au aa aa (k9 aa aa ?_)
 refine ae 2 aa (au aa aa (du aa ?_))
 refine au aa aa (c8 aa aa aa ?_)
 refine au aa aa (hO aa ?_)
 refine au aa aa (du aa ?_)
 refine au aa aa (c8 aa aa aa ?_)
 refine au aa aa (hO aa ?_)
 refine au aa aa (k9 aa aa ?_)
 refine ae 2 aa (au aa aa (du aa ?_))
 refine au aa aa (c8 aa aa aa ?_)
 refine au aa aa (hO aa ?_)
 refine au aa aa (du aa ?_)
 refine au aa aa (c8 aa aa aa ?_)
 refine au aa aa (hO aa ?_)
 refine au aa aa (k9 aa aa ?_)
 refine ae 1 aa (af ?_)
 refine eJ aa aa (aU (aM (ak 1 aa (bN (d6 (fun k VE B=>∃i,i≤s.row.length∧k=s.row.length-i∧bw [(2,.vp 2 0),(3,.vp 3 0),(4,dB false),(5,dI (i:Nat))] VE∧bw [(2,.one 50 328 (s.enc.map .d)),(3,.one 50 328 (s.enc.map .d))] B) ?_ (k:=s.row.length) ⟨0,df _,aa,⟨aa,aa,aa,aa,trivial⟩,⟨aa,aa,trivial⟩⟩)))))
 rintro k VE B⟨i,hi,rfl,I,J⟩
 refine dx _ _ I J (aM (ai (ae 3 aa (al (hO aa ?_)))))
 refine ae 1 aa (af ?_)
 refine aK aa (fun O=>?_) (fun O=>?_)
 ·have K:=G.row
  have A:i<s.row.length:=by simp at O;omega
  obtain⟨e,he⟩:∃e,s.row[i]?=some e:=⟨_,eY A⟩
  have z:(s.row.map gU.enc)[i]?=some (gU.enc e):=by rw[iw,he];rfl
  refine aU (aM (bN (eX (bo 3 aa (dG (jN aa aa z aa ?_))))))
  refine jJ rfl rfl (mj rfl (by decide) (bY 3) ?_)
  refine bo 3 aa (dG (jN aa aa z aa ?_))
  refine jJ rfl rfl (mj rfl (by decide) (bY 3) ?_)
  refine dG (tQ (r:=gU.enc e) aa aa aa ?_)
  refine dc (eJ aa aa (aU (bG (ae 1 aa ?_))))
  refine al (cX rfl rfl (by omega) ?_)
  refine ae 1 aa (af ?_)
  exact⟨s.row.length-(i+1),by omega,i+1,by omega,rfl,⟨rfl,rfl,rfl,rfl,trivial⟩,⟨rfl,rfl,trivial⟩⟩
 refine dM (aM (ak 1 aa (bN (d6 (fun k VE B=>∃i,i≤s.mR.length∧k=s.mR.length-i∧bw [(2,.vp 2 0),(3,.vp 3 0),(4,dB false),(6,dI (i:Nat))] VE∧bw [(2,.one 50 328 (s.enc.map .d)),(3,.one 50 328 (s.enc.map .d))] B) ?_ (k:=s.mR.length) ⟨0,df _,aa,⟨aa,aa,aa,aa,trivial⟩,⟨aa,aa,trivial⟩⟩))))
 rintro k VE B⟨i,hi,rfl,I,J⟩
 refine dx _ _ I J (aM (ai (ae 3 aa (al (hO aa ?_)))))
 refine ae 1 aa (af ?_)
 refine aK aa (fun U=>?_) (fun U=>?_)
 ·have K:=G.mR
  have A:i<s.mR.length:=by simp at U;omega
  obtain⟨e,he⟩:∃e,s.mR[i]?=some e:=⟨_,eY A⟩
  have z:(s.mR.map eM)[i]?=some (eM e):=by rw[iw,he];rfl
  refine aU (aM (bN (eX (bo 3 aa (dG (jN aa aa z aa ?_))))))
  refine jJ rfl rfl (mj rfl (by decide) (bY 2) ?_)
  refine bo 3 aa (dG (jN aa aa z aa ?_))
  refine jJ rfl rfl (mj rfl (by decide) (bY 2) ?_)
  refine dG (tQ (r:=eM e) aa aa aa ?_)
  refine dc (eJ aa aa (aU (bG (ae 1 aa ?_))))
  refine al (cX rfl rfl (by omega) ?_)
  refine ae 1 aa (af ?_)
  exact⟨s.mR.length-(i+1),by omega,i+1,by omega,rfl,⟨rfl,rfl,rfl,rfl,trivial⟩,⟨rfl,rfl,trivial⟩⟩
 refine dM (aM (ak 1 aa (bN (d6 (fun k VE B=>∃i,i≤s.jh.length∧k=s.jh.length-i∧bw [(2,.vp 2 0),(3,.vp 3 0),(4,dB false),(7,dI (i:Nat))] VE∧bw [(2,.one 50 328 (s.enc.map .d)),(3,.one 50 328 (s.enc.map .d))] B) ?_ (k:=s.jh.length) ⟨0,df _,aa,⟨aa,aa,aa,aa,trivial⟩,⟨aa,aa,trivial⟩⟩))))
 rintro k VE B⟨i,hi,rfl,I,J⟩
 refine dx _ _ I J (aM (ai (ae 3 aa (al (hO aa ?_)))))
 refine ae 1 aa (af ?_)
 refine aK aa (fun Y=>?_) (fun Y=>?_)
 ·have K:=G.jh
  have A:i<s.jh.length:=by simp at Y;omega
  obtain⟨e,he⟩:∃e,s.jh[i]?=some e:=⟨_,eY A⟩
  have z:(s.jh.map cS)[i]?=some (cS e):=by rw[iw,he];rfl
  refine aU (aM (bN (eX (bo 3 aa (dG (jN aa aa z aa ?_))))))
  refine jJ rfl rfl (mj rfl (by decide) (bY 3) ?_)
  refine bo 3 aa (dG (jN aa aa z aa ?_))
  refine jJ rfl rfl (mj rfl (by decide) (bY 3) ?_)
  refine dG (tQ (r:=cS e) aa aa aa ?_)
  refine dc (eJ aa aa (aU (bG (ae 1 aa ?_))))
  refine al (cX rfl rfl (by omega) ?_)
  refine ae 1 aa (af ?_)
  exact⟨s.jh.length-(i+1),by omega,i+1,by omega,rfl,⟨rfl,rfl,rfl,rfl,trivial⟩,⟨rfl,rfl,trivial⟩⟩
 refine dM (aM (ak 1 aa (bN (d6 (fun k VE B=>∃i,i≤s.mh.length∧k=s.mh.length-i∧bw [(2,.vp 2 0),(3,.vp 3 0),(4,dB false),(8,dI (i:Nat))] VE∧bw [(2,.one 50 328 (s.enc.map .d)),(3,.one 50 328 (s.enc.map .d))] B) ?_ (k:=s.mh.length) ⟨0,df _,aa,⟨aa,aa,aa,aa,trivial⟩,⟨aa,aa,trivial⟩⟩))))
 rintro k VE B⟨i,hi,rfl,I,J⟩
 refine dx _ _ I J (aM (ai (ae 3 aa (al (hO aa ?_)))))
 refine ae 1 aa (af ?_)
 refine aK aa (fun Z=>?_) (fun Z=>?_)
 ·have K:=G.mh
  have A:i<s.mh.length:=by simp at Z;omega
  obtain⟨e,he⟩:∃e,s.mh[i]?=some e:=⟨_,eY A⟩
  have z:(s.mh.map Fk.enc)[i]?=some (Fk.enc e):=by rw[iw,he];rfl
  refine aU (aM (bN (eX (bo 3 aa (dG (jN aa aa z aa ?_))))))
  refine jJ rfl rfl (mj rfl (by decide) (bY 3) ?_)
  refine bo 3 aa (dG (jN aa aa z aa ?_))
  refine jJ rfl rfl (mj rfl (by decide) (bY 3) ?_)
  refine bo 4 aa (dc ?_)
  refine ai (ae 4 aa (al (CR aa aa ?_)))
  refine ae 1 aa (au aa aa (du aa ?_))
  refine au aa aa (c8 aa aa aa ?_)
  refine au aa aa (du aa ?_)
  refine au aa aa (c8 aa aa aa ?_)
  refine au aa aa (cQ (Eh F (G.fk e (lG he)).1) aa aa ?_)
  refine au aa aa (ju aa ?_)
  refine ae 2 aa (au aa aa (du aa ?_))
  refine au aa aa (c8 aa aa aa ?_)
  refine au aa aa (du aa ?_)
  refine au aa aa (c8 aa aa aa ?_)
  refine au aa aa (cQ (Eh F (G.fk e (lG he)).2) aa aa ?_)
  refine au aa aa (ju aa ?_)
  refine ae 1 aa (af ?_)
  refine eJ aa aa (aU (bG (ae 1 aa ?_)))
  refine al (cX rfl rfl (by omega) ?_)
  refine ae 1 aa (af ?_)
  exact⟨s.mh.length-(i+1),by omega,i+1,by omega,rfl,⟨rfl,rfl,rfl,rfl,trivial⟩,⟨rfl,rfl,trivial⟩⟩
 refine dM (aM (ak 1 aa (bN (d6 (fun k VE B=>∃i,i≤s.cons.length∧k=s.cons.length-i∧bw [(2,.vp 2 0),(3,.vp 3 0),(4,dB false),(11,dI (i:Nat))] VE∧bw [(2,.one 50 328 (s.enc.map .d)),(3,.one 50 328 (s.enc.map .d))] B) ?_ (k:=s.cons.length) ⟨0,df _,aa,⟨aa,aa,aa,aa,trivial⟩,⟨aa,aa,trivial⟩⟩))))
 rintro k VE B⟨i,hi,rfl,I,J⟩
 refine dx _ _ I J (aM (ai (ae 3 aa (al (hO aa ?_)))))
 refine ae 1 aa (af ?_)
 refine aK aa (fun Pf=>?_) (fun Pf=>?_)
 ·have K:=G.cons
  have A:i<s.cons.length:=by simp at Pf;omega
  obtain⟨e,he⟩:∃e,s.cons[i]?=some e:=⟨_,eY A⟩
  have z:(s.cons.map dQ)[i]?=some (dQ e):=by rw[iw,he];rfl
  refine aU (aM (bN (eX (bo 3 aa (dG (jN aa aa z aa ?_))))))
  refine bo 1 aa (jJ aa aa (lT (x:=.i .i64 e.1) aa aa ?_))
  refine bo 3 aa (dG (jN aa aa z aa ?_))
  refine bo 1 aa (jJ aa aa (lT (x:=.i .i64 e.1) aa aa ?_))
  refine dG (k9 aa aa ?_)
  refine bo 1 aa (eb aa aa (du aa ?_))
  refine kp aa aa aa (c8 aa aa aa ?_)
  refine eb aa aa (bM aa ?_)
  refine eb aa aa (jN aa aa z aa ?_)
  refine eb aa aa (tD aa ?_)
  refine kp aa aa aa (lT (x:=fR e.2) aa aa ?_)
  refine eb aa aa (du aa ?_)
  refine kp aa aa aa (c8 aa aa aa ?_)
  refine eb aa aa (bM aa ?_)
  refine eb aa aa (jN aa aa z aa ?_)
  refine eb aa aa (tD aa ?_)
  refine kp aa aa aa (lT (x:=fR e.2) aa aa ?_)
  refine kp aa aa aa (cQ (Eh F (G.gN e (lG he))) aa aa ?_)
  refine eb aa aa (ju aa ?_)
  refine bo 1 aa (dc ?_)
  refine eJ aa aa (aU (bG (ae 1 aa ?_)))
  refine al (cX rfl rfl (by omega) ?_)
  refine ae 1 aa (af ?_)
  exact⟨s.cons.length-(i+1),by omega,i+1,by omega,rfl,⟨rfl,rfl,rfl,rfl,trivial⟩,⟨rfl,rfl,trivial⟩⟩
 exact dM (ak 1 aa (ax (bC aa aa aa)))
open Go
set_option maxRecDepth 10000
def pN(s:List UInt8):Stmt×Int×Int:=if¬(fg s).2.2=0 then({},((fg s).2.1:Nat),(fg s).2.2) else lz rm (fg s).1
def pG(s:List UInt8):jr×Int×Int:=if¬(fg s).2.2=0 then(⟨[],[]⟩,((fg s).2.1:Nat),(fg s).2.2) else lu rm (fg s).1
theorem Cu{s:List UInt8}(h:(fg s).2.2=0):(fg s).1.map cM.enc≠[]:=fun k=>by
 have:=(vn h).ne
 rw[List.map_eq_nil_iff.1 k] at this;exact absurd this (by decide)
theorem Sq{s:List UInt8}:(pN s).1.sm:=by
 unfold pN
 split
 ·exact mZ
 rename_i h;exact Sp (vn (by simpa using h))
theorem RD{s:List UInt8}:(pG s).1.sm:=by
 unfold pG
 split
 ·exact GL
 rename_i h;exact RC (vn (by simpa using h))
set_option maxHeartbeats 1000000 in
theorem VS{T:bf}(F:FT T)(X:FX T)(s:List UInt8):Sound T 13 [dS s] fun r=>r= .tuple [et (pN s).1.enc,dI (pN s).2.1,dI (pN s).2.2]:=by
 refine ep F.f13 aa (ak 3 aa (ai (ae 1 aa (al (cQ (R:=.tuple [.d (.ff ((fg s).1.map cM.enc)),dI ((fg s).2.1:Nat),dI (fg s).2.2]) (On F X s) aa aa ?_)))))
 refine ae 7 aa (af ?_)
 refine aM (ak 2 aa (aK aa (fun z=>?_) (fun z=>?_)))
 ·have A:pN s=(({}:Stmt),(((fg s).2.1:Nat):Int),(fg s).2.2):=aw (by simpa using z)
  refine ak 6 aa (ax ?_)
  exact bC rfl rfl (by rw[A];rfl)
 have he:(fg s).2.2=0:=by simpa using z
 have G:=vn he
 rw[DC.qO (Cu he)]
 have A:pN s=lz rm (fg s).1:=aj (fun k=>k he)
 refine aU (ai (ae 1 aa (al (cQ (Qz F (leaf F X) G) aa aa ?_))))
 refine ae 6 aa (af ?_)
 refine ax ?_
 exact bC rfl rfl (by rw[A];rfl)
set_option maxHeartbeats 1000000 in
theorem US{T:bf}(F:FT T)(s:List UInt8):Sound T 17 [dS s] fun r=>r= .tuple [et (pN s).1.enc,dI (pN s).2.1,dI (pN s).2.2]:=by
 refine ep F.f17 aa (ak 3 aa (ai (ae 1 aa (al (cQ (R:=.tuple [.d (.ff ((fg s).1.map cM.enc)),dI ((fg s).2.1:Nat),dI (fg s).2.2]) (Oo F s) aa aa ?_)))))
 refine ae 7 aa (af ?_)
 refine aM (ak 2 aa (aK aa (fun z=>?_) (fun z=>?_)))
 ·have A:pN s=(({}:Stmt),(((fg s).2.1:Nat):Int),(fg s).2.2):=aw (by simpa using z)
  refine ak 6 aa (ax ?_)
  exact bC rfl rfl (by rw[A];rfl)
 have he:(fg s).2.2=0:=by simpa using z
 have G:=vn he
 rw[DC.qO (Cu he)]
 have A:pN s=lz rm (fg s).1:=aj (fun k=>k he)
 refine aU (ai (ae 1 aa (al (cQ (QA F (Om F) G) aa aa ?_))))
 refine ae 6 aa (af ?_)
 refine ax ?_
 exact bC rfl rfl (by rw[A];rfl)
set_option maxHeartbeats 1000000 in
theorem UT{T:bf}(F:FT T)(X:FX T)(s:List UInt8):Sound T 14 [dS s] fun r=>r= .tuple [et (pG s).1.enc,dI (pG s).2.1,dI (pG s).2.2]:=by
 refine ep F.f14 aa (ak 3 aa (ai (ae 1 aa (al (cQ (R:=.tuple [.d (.ff ((fg s).1.map cM.enc)),dI ((fg s).2.1:Nat),dI (fg s).2.2]) (On F X s) aa aa ?_)))))
 refine ae 7 aa (af ?_)
 refine aM (ak 2 aa (aK aa (fun z=>?_) (fun z=>?_)))
 ·have A:pG s=((⟨[],[]⟩:jr),(((fg s).2.1:Nat):Int),(fg s).2.2):=aw (by simpa using z)
  refine ak 6 aa (ax ?_)
  exact bC rfl rfl (by rw[A];rfl)
 have he:(fg s).2.2=0:=by simpa using z
 have G:=vn he
 rw[DC.qO (Cu he)]
 have A:pG s=lu rm (fg s).1:=aj (fun k=>k he)
 refine aU (ai (ae 1 aa (al (cQ (Qo F (leaf F X) G) aa aa ?_))))
 refine ae 6 aa (af ?_)
 refine ax ?_
 exact bC rfl rfl (by rw[A];rfl)
set_option maxHeartbeats 1000000 in
theorem Tw{T:bf}(F:FT T)(s:List UInt8):Sound T 18 [dS s] fun r=>r= .tuple [et (pG s).1.enc,dI (pG s).2.1,dI (pG s).2.2]:=by
 refine ep F.f18 aa (ak 3 aa (ai (ae 1 aa (al (cQ (R:=.tuple [.d (.ff ((fg s).1.map cM.enc)),dI ((fg s).2.1:Nat),dI (fg s).2.2]) (Oo F s) aa aa ?_)))))
 refine ae 7 aa (af ?_)
 refine aM (ak 2 aa (aK aa (fun z=>?_) (fun z=>?_)))
 ·have A:pG s=((⟨[],[]⟩:jr),(((fg s).2.1:Nat):Int),(fg s).2.2):=aw (by simpa using z)
  refine ak 6 aa (ax ?_)
  exact bC rfl rfl (by rw[A];rfl)
 have he:(fg s).2.2=0:=by simpa using z
 have G:=vn he
 rw[DC.qO (Cu he)]
 have A:pG s=lu rm (fg s).1:=aj (fun k=>k he)
 refine aU (ai (ae 1 aa (al (cQ (Qp F (Om F) G) aa aa ?_))))
 refine ae 6 aa (af ?_)
 refine ax ?_
 exact bC rfl rfl (by rw[A];rfl)
set_option maxHeartbeats 1000000 in
theorem UU{T:bf}(F:FT T)(X:FX T)(s:List UInt8):Sound T 7 [dS s] fun r=>r=dB true:=by
 refine ep F.f7 aa (ak 1 aa (ai (ae 1 aa (al (cQ (VS F X s) aa aa ?_)))))
 refine ae 8 aa (af ?_)
 refine ai (ae 1 aa (al (cQ (US F s) aa aa ?_)))
 refine ae 8 aa (af ?_)
 refine ai (ae 1 aa (al (cQ (UT F X s) aa aa ?_)))
 refine ae 8 aa (af ?_)
 refine ai (ae 1 aa (al (cQ (Tw F s) aa aa ?_)))
 refine ae 8 aa (af ?_)
 refine ai (ae 2 aa (al (CS aa aa ?_)))
 refine ae 1 aa (au aa aa (bM aa ?_))
 refine au aa aa (bM aa ?_)
 refine au aa aa (CS aa aa ?_)
 refine ae 2 aa (au aa aa (qe aa aa (bW aa) (bW aa) ?_))
 refine au aa aa (qe aa aa (bW aa) (bW aa) ?_)
 refine au aa aa (cQ (WN F Sq) aa aa ?_)
 refine ae 2 aa (au aa aa (bM aa ?_))
 refine au aa aa (bM aa ?_)
 refine au aa aa (CS aa aa ?_)
 refine ae 2 aa (au aa aa (bM aa ?_))
 refine au aa aa (bM aa ?_)
 refine au aa aa (CS aa aa ?_)
 refine ae 2 aa (au aa aa (qe aa aa (bW aa) (bW aa) ?_))
 refine au aa aa (qe aa aa (bW aa) (bW aa) ?_)
 refine au aa aa (cQ (Ou F RD) aa aa ?_)
 refine ae 2 aa (af ?_)
 exact ax (bC aa aa aa)
end Go.Ev.Pp
namespace Go.Ev
open Go
variable{T:bf}{VE:b0}{B:br}{Q:VV→br→Prop}
def rn(n:Nat)(d:DC):Prop:=∃a:List UInt8,d=cJ a∧a.length≤n
def Jb(n:Nat):DC→Bool
 |.s l v=>Nat.beq (o6 l v).length l&&(Nat.beq (pack (o6 l v)) v&&Nat.ble l n)
 |_=>false
theorem G4{n:Nat}{d:DC}(h:Jb n d=true):rn n d:=by
 unfold Jb at h
 split at h
 ·rename_i l v
  simp only[eZ] at h
  have z:=dZ h.1
  have h2:=dZ h.2.1
  exact⟨o6 l v,by unfold cJ;rw[z,h2],by rw[z];exact bW h.2.2⟩
 cases h
theorem rn.mono{n m:Nat}{d:DC}(h:rn n d)(z:n≤m):rn m d:=let⟨a,A,h2⟩:=h;⟨a,A,jT h2 z⟩
def Mp(n k:Nat)(rows:List (List DC)):Prop:=rows.length=k∧∀j,j<k→∃d,rows[j]?=some [d]∧rn n d
def Io(n:Nat):List (List DC)→Bool
 |[]=>true
 |[d]::r=>Jb n d&&Io n r
 |_=>false
theorem UW{n k:Nat}{rows:List (List DC)}(h:Io n rows=true)(hk:rows.length=k):Mp n k rows:=by
 subst hk
 refine⟨aa,?_⟩
 induction rows with
 |nil=>intro j z;cases z
 |cons r rs A=>
  match r,h with
  |[d],h=>
   simp only[Io,eZ] at h
   intro j z
   cases j with
   |zero=>exact⟨d,rfl,G4 h.1⟩
   |succ j=>exact A h.2 j (Nat.lt_of_succ_lt_succ z)
theorem Mq{x y:aG}{n m:Nat}{a b:DC}(A:x.vv VE=some (.d a))(z:rn n a)(G:y.vv VE=some (.d b))(h2:rn m b)(J:n+m≤4611686018427387904)(I:∀c,rn (n+m) c→Q (.d c) B):VI T (.bin .add x y) VE B [] Q:=by
 obtain⟨s,rfl,z⟩:=z
 obtain⟨t,rfl,h2⟩:=h2
 exact LX A G (by omega) (I _ ⟨_,rfl,by rw[bK];omega⟩)
theorem Tx{x y:aG}{k:IntKind}{a b:Nat}(z:x.vv VE=some (.d (.i k (a:Int))))(A:y.vv VE=some (.d (.i k (b:Int))))(h0:0<b)(G:Q (.d (.i k ((a % b:Nat):Int))) B):VI T (.bin .rem x y) VE B [] Q:=
 LZ z A (by cases b with
  |zero=>cases h0
  |succ b=>rfl) (by rw[show(a:Int).tmod (b:Int)=((a % b:Nat):Int) from(Int.ofNat_tmod a b).symm];exact G)
end Go.Ev
namespace Go.Ev.Pp
open Go
set_option maxRecDepth 10000
def wH(n:Nat):List DC:=[.i .u16 (n:Int)]
def M0:List (List DC):=[[.s 6 92647902168403],[.s 4 1297044038],[.s 5 297733015639],[.s 5 345028645447],[.s 2 22850],[.s 2 21313],[.s 2 17999],[.s 2 21569],[.s 3 5849412],[.s 4 1313427274],[.s 4 1413891404],[.s 2 20047],[.s 5 336337653333],[.s 3 5000257],[.s 5 362091466563],[.s 3 5068115],[.s 1 40],[.s 1 41],[.s 1 42],[.s 1 44],[.s 1 97],[.s 1 98],[.s 1 116],[.s 1 46],[.s 1 61],[.s 1 60],[.s 1 43],[.s 1 45],[.s 1 49],[.s 3 2586663],[.s 3 5525326],[.s 3 4476481],[.s 2 21071],[.s 2 21321],[.s 4 1280070990],[.s 6 92712327138889],[.s 4 1330925129],[.s 6 91557248909654],[.s 3 5394246],[.s 6 76228174565461],[.s 3 5522771],[.s 12 12130589181252232790632968487],[.s 23 3750964992481078039988528574964577776190968761165110055],[.s 6 76228174631491],[.s 5 297632153940],[.s 3 5850443],[.s 3 5525065],[.s 4 1145851720],[.s 2 20308],[.s 5 327647776341],[.s 6 83890396153170]]
theorem Sr:Mp 23 51 M0:=UW (by decide+kernel) rfl
theorem VT{T:bf}(F:FT T)(o:Option (List Nat))(ho:∀n∈tb o,n<65536):Sound T 8 [.d (so wH o)] fun r=>∃d,r= .d d∧rn 2400 d:=by
 refine ep F.f8 aa (ak 1 aa (ai (ae 1 aa (gn 6 6 aa aa (fun _=>⟨aa,aa⟩) (ae 1 aa (af ?_))))))
 refine ak 1 aa (aM (ak 1 aa (bN (d6 (fun k VE B=>∃(i:Nat)(d:DC),i≤100∧k=100-i∧rn (24*i) d∧bw [(0,.d (so wH o)),(3,.d (.sl M0)),(4,.d d),(5,.d (.i .i64 (i:Nat)))] VE∧bw [] B) ?_ (k:=100) ⟨0,.s 0 0,df _,aa,G4 aa,⟨aa,aa,aa,aa,trivial⟩,trivial⟩))))
 rintro k VE B⟨i,d,hi,rfl,z,K,O⟩
 refine dx _ _ K O (aM (ai (ae 2 aa (al (T1 aa ?_)))))
 refine al (N8 aa aa ?_)
 refine ae 1 aa (da (g:=aQ) aa (fun h=>?_) (fun h=>?_))
 ·have A:i<(tb o).length:=by simpa using h
  obtain⟨n,J⟩:∃n,(tb o)[i]?=some n:=⟨_,eY A⟩
  have U:n<65536:=ho n (lG J)
  refine au aa h (bM aa ?_)
  refine au aa h (N8 aa aa ?_)
  refine al (cU aa h aa ?_)
  refine af (aK aa (fun h=>?_) (fun h=>?_))
  ·have G:i<100:=by simp at h;omega
   refine aU (aM (bN (bG (ae 1 aa ?_))))
   refine al (Mq rfl z rfl (G4 (n:=1) rfl) (by omega) (fun d1 Y=>?_))
   refine ae 3 aa (al (T2 aa aa J aa ?_))
   refine al (lT aa aa ?_)
   refine al (Gm rfl (by omega) ?_)
   refine ae 1 aa (al (CK aa ?_))
   refine al (Tx rfl rfl (by decide) ?_)
   obtain⟨w,Z,I⟩:=Sr.2 (n % 51) (wz _ (by decide))
   refine al (kZ aa aa Z aa ?_)
   refine al (lT aa aa ?_)
   refine al (Mq rfl Y rfl I (by omega) (fun d2 h2=>?_))
   refine ae 1 aa (af ?_)
   refine bG (ae 1 aa ?_)
   refine al (cX rfl rfl (by omega) ?_)
   refine ae 1 aa (af ?_)
   exact⟨100-(i+1),by omega,i+1,d2,G,rfl,h2.mono (by omega),⟨rfl,rfl,rfl,rfl,trivial⟩,trivial⟩
  refine dM (ak 2 aa (ax ?_))
  exact bC rfl rfl ⟨d,rfl,z.mono (by omega)⟩
 refine aS aa h (aS aa h (al (cK aa h aa ?_)))
 refine af (eJ aa aa (dM (ak 2 aa (ax ?_))))
 exact bC rfl rfl ⟨d,rfl,z.mono (by omega)⟩
theorem VU{r:List DC}(h:jL [.i .u16] r):∃n:Nat,r=wH n∧n<65536:=by
 simp only[jL,ny.fits] at h
 obtain⟨_,_,rfl,⟨n,rfl,z⟩,rfl⟩:=h
 simp[Lit.wf,IntKind.min,IntKind.max,IntKind.signed,IntKind.bits] at z
 refine⟨n.toNat,?_,by omega⟩
 unfold wH
 rw[Int.toNat_of_nonneg z.1]
theorem fits_words{r:List DC}(h:jL [.sl [.i .u16]] r):∃o:Option (List Nat),r=[so wH o]∧∀n∈tb o,n<65536:=by
 rw[jL] at h
 obtain⟨d,_,rfl,z,h⟩:=h
 rw[jL] at h
 subst h
 obtain⟨o,rfl⟩:=T6 (e:=fun a:{n:Nat//n<65536}=>wH a.1) (fun r A=>let⟨n,z,h2⟩:=VU A;⟨⟨n,h2⟩,z⟩) z
 refine⟨o.map (·.map (·.1)),?_,?_⟩
 ·cases o with
  |none=>rfl
  |some l=>simp only[so,sA,CV];rfl
 cases o with
 |none=>intro n h;cases h
 |some l=>
  intro n h
  obtain⟨a,_,rfl⟩:=List.mem_map.1 h
  exact a.2
theorem lawW{T:bf}(F:FT T)(X:FX T)(z:Sound T 6 [] fun r=>r= .d (.b true))(o:Option (List Nat))(ho:∀n∈tb o,n<65536):Sound T 3 [.d (so wH o)] fun r=>r= .d (.b true):=by
 refine ep F.f3 aa (ak 1 aa (ai (al (cQ z aa aa ?_))))
 refine ae 1 aa (au aa aa (bM aa ?_))
 refine au aa aa (pD aa (vM aa) (VT F o ho) fun r _ A=>?_)
 obtain⟨_,rfl,s,rfl,_⟩:=A
 refine au aa aa (cQ (UU F X s) aa aa ?_)
 refine al (cU aa aa aa ?_)
 refine ae 1 aa (af ?_)
 exact ax (bC aa aa aa)
end Go.Ev.Pp
