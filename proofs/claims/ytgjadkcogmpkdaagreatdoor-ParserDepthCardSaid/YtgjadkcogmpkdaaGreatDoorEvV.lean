/- A part of an evaluator for the program's code: Regions that draw their order: the theorem. It holds for every program. -/
import Derived.Test.YtgjadkcogmpkdaaGreatDoorEvU
/-! Regions that draw their order: the theorem. -/
set_option linter.unusedVariables false
set_option linter.unusedSimpArgs false
namespace Go.Ev

/-- what one operation of the trace does -/
structure Fact (call : CallF) (o : IOp) (E : Env) (H : AHeap) (b : Bool) (v : AVal) (fp : FP) (H1 : AHeap) : Prop where
  tame : Tame H H1
  touch : ∀ f, ((H.next ≤ f ∧ f < H1.next) ∨ H1.t.get f ≠ H.t.get f) → o.q.isSome = true ∧ (f ∈ fp.ws ∨ (fp.lo ≤ f ∧ f < fp.hi ∧ H.next ≤ f ∧ f < H1.next))
  wants : Wants E o.g b
  off : b = false → v = .undef ∧ H1 = H
  on : b = true → ∃ Hm Hn, o.op.ev call E Hm = .ok v Hn ∧ Hm.mrk ≤ Hm.next ∧ Hm.next = H.next ∧ Hm.t = H.t ∧ Hn.next = H1.next ∧ Hn.t = H1.t ∧ (∀ f, Wr Hn f → Wr H1 f) ∧ (o.q.isSome = true → fp.rd = o.op.reads E)

section
variable {P : Program} {call : CallF}
theorem Step1.fact {o : IOp} {E : Env} {H : AHeap} {recs : List FP} {b : Bool} {v : AVal} {fp : FP} {H1 : AHeap} (hc : CallOk P call) (hp : o.q = none → pureIO o.op = true) (hm : H.mrk ≤ H.next) (hwf : WF H) (h : Step1 call o E H recs b v fp H1) :
    Fact call o E H b v fp H1 := by
  cases h with
  | skip hw hq => exact ⟨Tame.refl _, fun f hf => absurd hf (by rintro (hf | hf); omega; exact hf rfl), hw, fun _ => ⟨rfl, rfl⟩, fun h => by cases h⟩
  | plain hw hq he =>
    have e := pure_same (hp hq) v H1 he
    subst e
    exact ⟨Tame.refl _, fun f hf => absurd hf (by rintro (hf | hf); omega; exact hf rfl), hw, fun h => (by cases h), fun _ => ⟨H1, H1, he, hm, rfl, rfl, rfl, rfl, fun _ h => h, fun h => by rw [hq] at h; cases h⟩⟩
  | marked hw hq he ha =>
    rename_i q H2
    have t := TM.ins (H := H.mark) (Nat.le_refl _) (fun f a => hc.tame f a _ (Nat.le_refl _)) E o.op v H2 he
    refine ⟨t.unmark hm, fun f hf => ⟨by rw [hq]; rfl, ?_⟩, hw, fun h => (by cases h), fun _ => ⟨H.mark, H2, he, Nat.le_refl _, rfl, rfl, rfl, rfl, fun f hf => ?_, fun _ => rfl⟩⟩
    · have hf : ((H.next ≤ f ∧ f < H2.next) ∨ H2.t.get f ≠ H.t.get f) := hf
      show f ∈ H2.ws ∨ (H.next ≤ f ∧ f < H2.next ∧ H.next ≤ f ∧ f < H2.next)
      by_cases h1 : f < H.next
      · rcases hf with hf | hf
        · omega
        · exact .inl (Classical.byContradiction fun k => hf (t.same f h1 k))
      · by_cases h2 : f < H2.next
        · exact .inr ⟨by omega, h2, by omega, h2⟩
        · rcases hf with hf | hf
          · omega
          · have e1 : H.t.get f = none := hwf f (by omega)
            have e2 : H2.t.get f = none := t.wf hwf f (by omega)
            exact absurd (e2.trans e1.symm) hf
    · rcases hf with hf | hf
      · by_cases h1 : f < H.mrk
        · exact .inl ((mergeWs_mem _ _ _ _).2 (.inr ⟨hf, h1⟩))
        · exact .inr (by show H.mrk ≤ f; omega)
      · have : H.next ≤ f := by rw [t.mrk] at hf; exact hf
        exact .inr (by show H.mrk ≤ f; omega)
end

structure RegOk (P : Program) (nt : Nat) (ops : Array Oper) (l : List IOp) : Prop where
  len : l.length = ops.size
  opof : ∀ (i : Nat) (o : Oper) (io : IOp), ops[i]? = some o → l[i]? = some io → OpOf P nt ops o io
  back : ∀ (j : Nat) (o : Oper) (e : Edge), ops[j]? = some o → e ∈ o.after → Region.binds .any e = true → e.on < j
  tmps : ∀ (i j : Nat) (x y : IOp), i < j → l[i]? = some x → l[j]? = some y → Before ops i j ∨ ApartI x y
  pure : ∀ (i : Nat) (x : IOp), l[i]? = some x → x.q = none → pureIO x.op = true

section
variable {P : Program} {call : CallF} {nt : Nat} {ops : Array Oper} {l : List IOp} {E E' : Env} {H H' : AHeap} {Es : Nat → Env} {Hs : Nat → AHeap} {Rs : Nat → List FP} {Wn : Nat → Bool} {Vs : Nat → AVal} {Fp : Nat → FP}

theorem Trace.wf (hc : CallOk P call) (hr : RegOk P nt ops l) (T : Trace call l E H [] E' H' Es Hs Rs Wn Vs Fp) (hm : H.mrk ≤ H.next) (hwf : WF H) : ∀ i, i ≤ l.length → (Hs i).mrk ≤ (Hs i).next ∧ WF (Hs i)
  | 0, _ => by rw [T.h0]; exact ⟨hm, hwf⟩
  | i + 1, hi => by
    obtain ⟨h1, h2⟩ := Trace.wf hc hr T hm hwf i (by omega)
    obtain ⟨o, ho⟩ : ∃ o, l[i]? = some o := ⟨_, List.getElem?_eq_getElem (by omega)⟩
    have t := ((T.step i o ho).1.fact hc (hr.pure i o ho) h1 h2).tame
    exact ⟨by rw [t.mrk]; exact Nat.le_trans h1 t.next, t.wf h2⟩
theorem Trace.fact (hc : CallOk P call) (hr : RegOk P nt ops l) (T : Trace call l E H [] E' H' Es Hs Rs Wn Vs Fp) (hm : H.mrk ≤ H.next) (hwf : WF H) {i : Nat} {o : IOp} (ho : l[i]? = some o) :
    Fact call o (Es i) (Hs i) (Wn i) (Vs i) (Fp i) (Hs (i + 1)) := by
  have hi : i < l.length := (List.getElem?_eq_some_iff.1 ho).1
  obtain ⟨h1, h2⟩ := T.wf hc hr hm hwf i (by omega)
  exact (T.step i o ho).1.fact hc (hr.pure i o ho) h1 h2
theorem Trace.tame (hc : CallOk P call) (hr : RegOk P nt ops l) (T : Trace call l E H [] E' H' Es Hs Rs Wn Vs Fp) (hm : H.mrk ≤ H.next) (hwf : WF H) {i : Nat} : ∀ k, i ≤ k → k ≤ l.length → Tame (Hs i) (Hs k)
  | 0, h, _ => by have : i = 0 := by omega
                  subst this; exact Tame.refl _
  | k + 1, h, hk => by
    rcases Nat.lt_or_eq_of_le h with hlt | rfl
    · obtain ⟨o, ho⟩ : ∃ o, l[k]? = some o := ⟨_, List.getElem?_eq_getElem (by omega)⟩
      exact (Trace.tame hc hr T hm hwf k (by omega) (by omega)).trans (T.fact hc hr hm hwf ho).tame
    · exact Tame.refl _
theorem Trace.env (T : Trace call l E H [] E' H' Es Hs Rs Wn Vs Fp) : ∀ n, n ≤ l.length → Es n = rE l E Vs (fun _ => true) n
  | 0, _ => T.e0
  | n + 1, hn => by
    obtain ⟨o, ho⟩ : ∃ o, l[n]? = some o := ⟨_, List.getElem?_eq_getElem (by omega)⟩
    rw [(T.step n o ho).2.1, rE_succ, Trace.env T n (by omega), if_pos rfl]
    simp [dstAt, ho]

structure Inv (P : Program) (nt : Nat) (l : List IOp) (E : Env) (H H' : AHeap) (Hs : Nat → AHeap) (Vs : Nat → AVal) (ρ0 : Ho) (C0 : Nat → Option AObj) (w0 : World) (S : Nat → Bool) (a : Act) (w : World) (ρ : Ho) : Prop where
  ar : AR P ρ nt (rE l E Vs S l.length) a
  r : R ρ (rC C0 Hs S l.length) w
  ext : Ext (Wr H') H.next H'.next ρ0 ρ w0 w
  dom : ∀ f g h, ρ f g = some h → (∃ g0 h0, ρ0 f g0 = some h0) ∨ ∃ k, k < l.length ∧ S k = true ∧ (Hs k).next ≤ f ∧ f < (Hs (k + 1)).next

theorem AR.congr {ρ : Ho} {a : Act} {E1 E2 : Env} (h : AR P ρ nt E1 a) (he : ∀ t, E2.get t = E1.get t) : AR P ρ nt E2 a :=
  ⟨h.size, h.defers, fun t v k => h.tmp t v (by rw [← he]; exact k), h.glob⟩

theorem step_any (hc : CallOk P call) (hr : RegOk P nt ops l) (T : Trace call l E H [] E' H' Es Hs Rs Wn Vs Fp)
    (hpairs : ∀ (i j : Nat) (x y : IOp), i < j → l[i]? = some x → l[j]? = some y → x.q.isSome = true → y.q.isSome = true → Before ops i j ∨ FPApart (Fp j) (Fp i))
    (hm : H.mrk ≤ H.next) (hwf : WF H) {ρ0 : Ho} {C0 : Nat → Option AObj} {w0 : World} (hK0 : Known ρ0 C0 H) (hF0 : Free ρ0 H.next H'.next)
    {S : Nat → Bool} (hS : Closed ops S) {j : Nat} (hj : j < l.length) (hjS : S j = false) (hjr : Ready ops S j) {a : Act} {w : World} {ρ : Ho} (hI : Inv P nt l E H H' Hs Vs ρ0 C0 w0 S a w ρ)
    {Q : Exit → Act → World → Prop} {K : Act → World → Prop} (hK : ∀ a' w' ρ', Inv P nt l E H H' Hs Vs ρ0 C0 w0 (ins S j) a' w' ρ' → K a' w') : wpOp P ops Q j K a w := by
  obtain ⟨io, hio⟩ : ∃ io, l[j]? = some io := ⟨_, List.getElem?_eq_getElem hj⟩
  obtain ⟨o, ho⟩ : ∃ o, ops[j]? = some o := ⟨_, Array.getElem?_eq_getElem (by rw [← hr.len]; exact hj)⟩
  have hof := hr.opof j o io ho hio
  have fj := T.fact hc hr hm hwf hio
  have nxt : ∀ i k, i ≤ k → k ≤ l.length → (Hs i).next ≤ (Hs k).next := fun i k h1 h2 => (T.tame hc hr hm hwf k h1 h2).next
  have h0 : Hs 0 = H := T.h0
  have hN : Hs l.length = H' := T.hN
  have notB : ∀ k, S k = true → ¬ Before ops j k := fun k hk hb => by rw [hb.closed hS hk] at hjS; cases hjS
  have notA : ∀ i, S i = false → ¬ Before ops i j := fun i hi hb => by rw [hb.ready hS hjr] at hi; cases hi
  have get : ∀ {k}, k < l.length → ∃ y, l[k]? = some y := fun hk => ⟨_, List.getElem?_eq_getElem hk⟩
  have dstOf : ∀ {k y}, l[k]? = some y → dstAt l k = y.dst := fun hy => by simp [dstAt, hy]
  -- the slots it looks at
  have hlk : ∀ t, t ∈ looksI io → (rE l E Vs S l.length).get t = (Es j).get t := by
    intro t ht
    rw [T.env j (by omega), rE_high (j := j) t l.length (by omega) fun k h1 h2 hs => ?_]
    · refine rE_low t j fun i hi hs => ?_
      obtain ⟨x, hx⟩ := get (k := i) (by omega)
      have hs : S i = false := by simpa using hs
      rw [dstOf hx]
      exact ((hr.tmps i j x io hi hx hio).resolve_left (notA i hs)).xy t ht
    · obtain ⟨y, hy⟩ := get h2
      have hne : j ≠ k := fun e => by rw [← e, hjS] at hs; cases hs
      rw [dstOf hy]
      exact ((hr.tmps j k io y (by omega) hio hy).resolve_left (notB k hs)).yx t ht
  have hdst : ∀ k t, j < k → S k = true → dstAt l j = some t → dstAt l k ≠ some t := by
    intro k t hk hs hd hd2
    by_cases hkl : k < l.length
    · obtain ⟨y, hy⟩ := get hkl
      rw [dstOf hy] at hd2; rw [dstOf hio] at hd
      exact ((hr.tmps j k io y hk hio hy).resolve_left (notB k hs)).dd t hd2 hd
    · simp [dstAt, List.getElem?_eq_none (Nat.le_of_not_lt hkl)] at hd2
  have touchOf : ∀ {k f y}, l[k]? = some y → Touch Hs k f → y.q.isSome = true ∧ (f ∈ (Fp k).ws ∨ ((Fp k).lo ≤ f ∧ f < (Fp k).hi ∧ (Hs k).next ≤ f ∧ f < (Hs (k + 1)).next)) :=
    fun hy ht => (T.fact hc hr hm hwf hy).touch _ ht
  have wfAt : ∀ i, i ≤ l.length → WF (Hs i) := fun i hi => (T.wf hc hr hm hwf i hi).2
  -- a family made by j, or touched by it
  have htouch : ∀ k f, j < k → k < l.length → S k = true → Touch Hs j f → ¬ Touch Hs k f := by
    intro k f hk hkl hs tj tk
    obtain ⟨y, hy⟩ := get hkl
    obtain ⟨qj, ej⟩ := touchOf hio tj
    obtain ⟨qk, ek⟩ := touchOf hy tk
    have fa := (hpairs j k io y hk hio hy qj qk).resolve_left (notB k hs)
    have n1 := nxt (j + 1) k hk (by omega)
    have n2 := nxt j (j + 1) (by omega) (by omega)
    rcases ek with ek | ⟨e1, e2, e3, e4⟩
    · rcases ej with ej | ⟨e1, e2, e3, e4⟩
      · exact fa.ww f ek ej
      · exact fa.out f ek ⟨e1, e2⟩
    · rcases tj with tj | tj
      · omega
      · refine tj ((wfAt (j + 1) (by omega) f (by omega)).trans (wfAt j (by omega) f (by omega)).symm)
  -- the homes of the families that j makes are free
  have hdis : ∀ {i f}, i < l.length → S i = false → (Hs i).next ≤ f → f < (Hs (i + 1)).next → ∀ g, ρ f g = none := by
    intro i f hi hs h1 h2 g
    cases hx : ρ f g with
    | none => rfl
    | some x =>
      rcases hI.dom f g x hx with ⟨g0, x0, e⟩ | ⟨k, hk, hsk, e1, e2⟩
      · have n1 := nxt 0 i (by omega) (by omega)
        have n2 := nxt (i + 1) l.length (by omega) (by omega)
        rw [h0] at n1; rw [hN] at n2
        rw [hF0 f g0 (by omega) (by omega)] at e; cases e
      · rcases Nat.lt_trichotomy i k with hlt | rfl | hgt
        · have := nxt (i + 1) k (by omega) (by omega); omega
        · rw [hs] at hsk; cases hsk
        · have := nxt (k + 1) i (by omega) (by omega); omega
  have hfree : Free ρ (Hs j).next (Hs (j + 1)).next := fun f g h1 h2 => hdis hj hjS h1 h2 g
  -- what it reads is as the trace has it
  have hreads : Wn j = true → ∀ f ob, (∀ ls, io.op.reads (Es j) = some ls → f ∈ ls) → (∃ g h, ρ f g = some h) → (Hs j).t.get f = some ob → rC C0 Hs S l.length f = some ob := by
    intro hon f ob hrd ⟨g, x, hx⟩ hob
    obtain ⟨_, _, _, _, _, _, _, _, _, hrd2⟩ := fj.on hon
    have noPure : io.q.isSome = true := by
      cases hq : io.q with
      | some q => rfl
      | none => have := hrd [] (pure_reads (hr.pure j io hio hq)); cases this
    have hrdj : (Fp j).rd = io.op.reads (Es j) := hrd2 noPure
    have noRd : ∀ m, (Fp j).rd = some m → f ∈ m := fun m hm => hrd m (hrdj ▸ hm)
    have fj2 : f < (Hs j).next := Classical.byContradiction fun k => by rw [wfAt j (by omega) f (by omega)] at hob; cases hob
    rw [rC_high (j := j) f l.length (by omega) fun k h1 h2 hs tk => ?_]
    · refine rC_known f (fun o' ho' => ?_) j (fun i hi hs ti => ?_) ob hob
      · rw [h0] at ho'
        refine hK0 f o' ?_ ho'
        rcases hI.dom f g x hx with e | ⟨k, hk, hsk, e1, e2⟩
        · exact e
        · have n1 := nxt 0 k (by omega) (by omega)
          rw [h0] at n1
          rw [hwf f (by omega)] at ho'; cases ho'
      · obtain ⟨y, hy⟩ := get (k := i) (by omega)
        obtain ⟨qi, ei⟩ := touchOf hy ti
        rcases ei with ei | ⟨_, _, e3, e4⟩
        · obtain ⟨m, hm1, hm2⟩ := ((hpairs i j y io hi hy hio qi noPure).resolve_left (notA i hs)).ba f ei
          exact hm2 (noRd m hm1)
        · rw [hdis (by omega) hs e3 e4 g] at hx; cases hx
    · obtain ⟨y, hy⟩ := get h2
      have hne : j ≠ k := fun e => by rw [← e, hjS] at hs; cases hs
      obtain ⟨qk, ek⟩ := touchOf hy tk
      rcases ek with ek | ⟨_, _, e3, e4⟩
      · obtain ⟨m, hm1, hm2⟩ := ((hpairs j k io y (by omega) hio hy noPure qk).resolve_left (notB k hs)).ab f ek
        exact hm2 (noRd m hm1)
      · have := nxt j k (by omega) (by omega); omega
  have insMono : ∀ k, S k = true → ins S j k = true := fun k hk => by simp [ins, hk]
  unfold wpOp
  simp only [ho]
  have hw := looks_wants (E' := rE l E Vs S l.length) (fun t ht => (hlk t ht).symm) fj.wants
  rw [wanted_ok hof hw hI.ar.tmp]
  cases hb : Wn j with
  | false =>
    rw [if_neg (by simp)]
    obtain ⟨e1, e2⟩ := fj.off hb
    refine hK _ _ ρ ⟨?_, ?_, hI.ext, fun f g x hx => (hI.dom f g x hx).imp_right fun ⟨k, h1, h2, h3⟩ => ⟨k, h1, insMono k h2, h3⟩⟩
    · refine AR.congr (E1 := putE (rE l E Vs S l.length) io.dst .undef) (by rw [hof.dst]; exact hI.ar.putO hof.lt (by simp only [VR])) fun t => ?_
      rw [rE_ins hjS hj hdst t, dstOf hio, e1]
    · rw [show rC C0 Hs (ins S j) l.length = rC C0 Hs S l.length from funext fun f => by rw [rC_ins hjS hj htouch f, e2, upd_same]]
      exact hI.r
  | true =>
    rw [if_pos rfl]
    left
    obtain ⟨Hm, Hn, he, k1, k2, k3, k4, k5, k6, k7⟩ := fj.on hb
    rcases hof.op with hop | hbad
    case inr => rw [hbad] at he; exact (bad_err he).elim
    have hop2 : io.op.ev call (rE l E Vs S l.length) Hm = .ok (Vs j) Hn := by
      rw [Ins.ev_congr io.op (looks_opd (E' := Es j) hlk)]; exact he
    have hok := ins_sound (o := o) hop hI.ar hI.r (by rw [k2, k4]; exact hfree) (fun f ob hrd hx hob => by
      rw [k3] at hob
      refine hreads hb f ob (fun ls hls => hrd ls ?_) hx hob
      rw [Ins.reads_congr io.op (looks_opd (E' := Es j) hlk)]; exact hls) k1 (fun x hx => by rw [k3]; exact wfAt j (by omega) x (by rw [← k2]; exact hx)) hc hop2
    refine wp_of_OpOk hok fun cv w' hp => ?_
    obtain ⟨ρ', hv, hext, hR'⟩ := hp
    have hupd : upd (rC C0 Hs S l.length) Hm Hn = upd (rC C0 Hs S l.length) (Hs j) (Hs (j + 1)) := by
      funext f; unfold upd; rw [k2, k3, k4, k5]
    refine hK _ _ ρ' ⟨?_, ?_, hI.ext.transW (Ext.wide (hext.mono fun f hf => ?_) ?_ ?_), fun f g x hx => ?_⟩
    · refine AR.congr (E1 := putE (rE l E Vs S l.length) io.dst (Vs j)) (by rw [hof.dst]; exact (hI.ar.mono hext.le).putO hof.lt hv) fun t => ?_
      rw [rE_ins hjS hj hdst t, dstOf hio]
    · rw [show rC C0 Hs (ins S j) l.length = upd (rC C0 Hs S l.length) Hm Hn from funext fun f => by rw [rC_ins hjS hj htouch f, hupd]]
      exact hR'
    · have t := T.tame hc hr hm hwf (i := j + 1) l.length (by omega) (by omega)
      rw [hN] at t
      exact Wr_mono t f (k6 f hf)
    · rw [k2, ← h0]; exact nxt 0 j (by omega) (by omega)
    · rw [k4, ← hN]; exact nxt (j + 1) l.length (by omega) (by omega)
    · rcases hext.dom f g x hx with ⟨g0, x0, e⟩ | e
      · exact (hI.dom f g0 x0 e).imp_right fun ⟨k, h1, h2, h3⟩ => ⟨k, h1, insMono k h2, h3⟩
      · rw [k2, k4] at e
        exact .inr ⟨j, hj, by simp [ins], e⟩
end

end Go.Ev
