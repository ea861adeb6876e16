/- A part of an evaluator for the program's code, and of rules for walks through it. It holds for every program. -/
import Derived.Test.YtffkihiledcilaaGreatDoorEv4
set_option linter.unusedVariables false
set_option linter.unusedSimpArgs false
namespace Go.Ev
structure Tab where
  ft : Tr IFn
  xt : Tr Nat
noncomputable def Tab.call (T : Tab) (lf n : Nat) : CallF := evF T.ft T.xt lf n
def wpI (T : Tab) (op : Ins) (E : Env) (H : AHeap) (Q : AVal → AHeap → Prop) : Prop := ∃ N v H', (∀ lf n, N ≤ lf → N ≤ n → op.ev (T.call lf n) E H = .ok v H') ∧ Q v H'
def wpO (T : Tab) (ops : List IOp) (E : Env) (H : AHeap) (Q : Env → AHeap → Prop) : Prop := ∃ N E' H', (∀ lf n, N ≤ lf → N ≤ n → evOps (T.call lf n) ops E H = .ok E' H') ∧ Q E' H'
def wpQ (T : Tab) (ops : List IOp) (E : Env) (H : AHeap) (recs : List FP) (Q : Env → AHeap → Prop) : Prop := ∃ N E' H', (∀ lf n, N ≤ lf → N ≤ n → evOpsQ (T.call lf n) ops E H recs = .ok E' H') ∧ Q E' H'
def wpC (T : Tab) (c : IC) (E : Env) (H : AHeap) (Q : Ex → Env → AHeap → Prop) : Prop := ∃ N x E' H', (∀ lf n, N ≤ lf → N ≤ n → c.ev (T.call lf n) lf E H = .ok x E' H') ∧ Q x E' H'
def wpF (T : Tab) (f : Nat) (args : List AVal) (H : AHeap) (Q : AVal → AHeap → Prop) : Prop := ∃ N v H', (∀ lf n, N ≤ lf → N ≤ n → T.call lf n f args H = .ok v H') ∧ Q v H'
section
variable {T : Tab} {E : Env} {H : AHeap}
theorem wpF.mono {f : Nat} {args : List AVal} {Q Q' : AVal → AHeap → Prop} (h : wpF T f args H Q) (k : ∀ v H', Q v H' → Q' v H') : wpF T f args H Q' :=
  let ⟨N, v, H', a, b⟩ := h; ⟨N, v, H', a, k _ _ b⟩
theorem wpC.mono {c : IC} {Q Q' : Ex → Env → AHeap → Prop} (h : wpC T c E H Q) (k : ∀ x E' H', Q x E' H' → Q' x E' H') : wpC T c E H Q' :=
  let ⟨N, x, E', H', a, b⟩ := h; ⟨N, x, E', H', a, k _ _ _ b⟩
theorem wpI_ok {op : Ins} {v : AVal} {H' : AHeap} {Q : AVal → AHeap → Prop} (h : ∀ call, op.ev call E H = .ok v H') (hq : Q v H') : wpI T op E H Q := ⟨0, v, H', fun _ _ _ _ => h _, hq⟩
theorem wpI_mov {x : Opd} {v : AVal} {Q : AVal → AHeap → Prop} (h : x.ev E = some v) (hq : Q v H) : wpI T (.mov x) E H Q :=
  wpI_ok (fun _ => by rw [mov_ev, h, ob_mk]) hq
theorem wpI_bin {op : BinOp} {x y : Opd} {a b v : AVal} {Q : AVal → AHeap → Prop} (hx : x.ev E = some a) (hy : y.ev E = some b) (h : binA op a b = some v) (hq : Q v H) : wpI T (.bin op x y) E H Q :=
  wpI_ok (fun _ => by rw [bin_ev, hx, hy, ob_mk, ob_mk, h, ob_mk]) hq
theorem wpI_un {op : UnOp} {x : Opd} {a v : AVal} {Q : AVal → AHeap → Prop} (hx : x.ev E = some a) (h : unA op a = some v) (hq : Q v H) : wpI T (.un op x) E H Q :=
  wpI_ok (fun _ => by show withO x E (.err 8) (fun a => ob (unA op a) (.err 8) fun v => seqVal v fun v => .ok v H) = _; rw [withO_eq, hx, ob_mk, h, ob_mk, seqVal_eq]) hq
theorem wpI_eqv {c : EqC} {neg : Bool} {x y : Opd} {a b : AVal} {r : Bool} {Q : AVal → AHeap → Prop} (hx : x.ev E = some a) (hy : y.ev E = some b) (h : eqA c a b = some r) (hq : Q (.bool (Bool.xor neg r)) H) : wpI T (.eqv c neg x y) E H Q :=
  wpI_ok (fun _ => by show withO x E (.err 7) (fun a => withO y E (.err 7) fun b => ob (eqA c a b) (.err 7) fun r => seqBool (Bool.xor neg r) fun r => .ok (.bool r) H) = _; rw [withO_eq, hx, ob_mk, withO_eq, hy, ob_mk, h, ob_mk, seqBool_eq]) hq
theorem wpI_pick {c x y : Opd} {t : Bool} {v : AVal} {Q : AVal → AHeap → Prop} (hc : c.ev E = some (.bool t)) (hv : (if t then x.ev E else y.ev E) = some v) (hq : Q v H) : wpI T (.pick c x y) E H Q :=
  wpI_ok (fun _ => by
    show withO c E (.err 2) (fun v => onBool v (.err 2) fun t => chk t (eMov x E H) (eMov y E H)) = _
    rw [withO_eq, hc, ob_mk]
    cases t
    · show eMov y E H = _
      have hv : y.ev E = some v := hv
      unfold eMov; rw [withO_eq, hv, ob_mk]
    · show eMov x E H = _
      have hv : x.ev E = some v := hv
      unfold eMov; rw [withO_eq, hv, ob_mk]) hq
theorem wpI_conv {k k0 : IntKind} {x : Opd} {n : Int} {Q : AVal → AHeap → Prop} (hx : x.ev E = some (.int k0 n)) (hq : Q (.int k (wrapF k n)) H) : wpI T (.conv k x) E H Q :=
  wpI_ok (fun _ => by rw [conv_ev, hx, ob_mk, onInt_mk]) hq
theorem wpI_offs {x : Opd} {k f g o : Nat} {Q : AVal → AHeap → Prop} (hx : x.ev E = some (.ptr f g o)) (hq : Q (.ptr f g (o + k)) H) : wpI T (.offs x k) E H Q :=
  wpI_ok (fun _ => by show withO x E (.err 9) (fun v => onPtr v (.err 9) fun f g off => seqNat (Nat.add off k) fun off => .ok (.ptr f g off) H) = _; rw [withO_eq, hx, ob_mk]; show seqNat (o + k) (fun off => Res.ok (.ptr f g off) H) = _; rw [seqNat_eq]) hq
theorem wpI_len {x : Opd} {f g o l es : Nat} {Q : AVal → AHeap → Prop} (hx : x.ev E = some (.slice f g o l es)) (hq : Q (.int .i64 l) H) : wpI T (.len x) E H Q :=
  wpI_ok (fun _ => by show withO x E (.err 25) (fun v => onSlice v (.err 25) (.ok (.int .i64 (.ofNat 0)) H) fun _ _ _ l _ => .ok (.int .i64 (.ofNat l)) H) = _; rw [withO_eq, hx, ob_mk]; rfl) hq
theorem wpI_len_nil {x : Opd} {Q : AVal → AHeap → Prop} (hx : x.ev E = some .nilslice) (hq : Q (.int .i64 0) H) : wpI T (.len x) E H Q :=
  wpI_ok (fun _ => by show withO x E (.err 25) (fun v => onSlice v (.err 25) (.ok (.int .i64 (.ofNat 0)) H) fun _ _ _ l _ => .ok (.int .i64 (.ofNat l)) H) = _; rw [withO_eq, hx, ob_mk]; rfl) hq
theorem wpI_lenS {x : Opd} {l s : Nat} {Q : AVal → AHeap → Prop} (hx : x.ev E = some (.str l s)) (hq : Q (.int .i64 l) H) : wpI T (.lenS x) E H Q :=
  wpI_ok (fun _ => by show withO x E (.err 25) (fun v => onStr v (.err 25) fun l _ => .ok (.int .i64 (.ofNat l)) H) = _; rw [withO_eq, hx, ob_mk]; rfl) hq
theorem wpI_idxSl {x i : Opd} {es f g o l es' : Nat} {k : IntKind} {j : Nat} {Q : AVal → AHeap → Prop} (hx : x.ev E = some (.slice f g o l es')) (hi : i.ev E = some (.int k (j : Int))) (hj : j < l) (hq : Q (.ptr f g (o + j * es)) H) : wpI T (.idxSl es x i) E H Q :=
  wpI_ok (fun _ => by
    show withO x E (.err 12) (fun v => onSlice v (.err 12) (.err 12) fun f g off ln _ => withO i E (.err 12) fun iv => idx iv ln (.err 12) fun j => seqNat (Nat.add off (Nat.mul j es)) fun off => .ok (.ptr f g off) H) = _
    rw [withO_eq, hx, ob_mk]
    show withO i E (.err 12) (fun iv => idx iv l (.err 12) fun j => seqNat (Nat.add o (Nat.mul j es)) fun off => .ok (.ptr f g off) H) = _
    rw [withO_eq, hi, ob_mk]
    show chk (Nat.ble (Nat.succ j) l) (seqNat (o + j * es) fun off => Res.ok (.ptr f g off) H) (Res.err 12) = _
    rw [Nat.ble_eq_true_of_le hj, chk_true, seqNat_eq]) hq
theorem wpI_extr {x : Opd} {vs : List AVal} {i : Nat} {v : AVal} {Q : AVal → AHeap → Prop} (hx : x.ev E = some (.tuple vs)) (hi : vs[i]? = some v) (hq : Q v H) : wpI T (.extr x i) E H Q :=
  wpI_ok (fun _ => by show withO x E (.err 18) (fun v => onTuple v (.err 18) fun vs => ob (vs[i]?) (.err 18) fun v => .ok v H) = _; rw [withO_eq, hx, ob_mk]; show ob (vs[i]?) (Res.err 18) (fun v => Res.ok v H) = _; rw [hi, ob_mk]) hq
theorem wpI_nilck {x : Opd} {v : AVal} {Q : AVal → AHeap → Prop} (hx : x.ev E = some v) (hv : nilckOk v = true) (hq : Q v H) : wpI T (.nilck x) E H Q :=
  wpI_ok (fun _ => by show withO x E (.err 19) (fun v => chk (nilckOk v) (.ok v H) (.err 19)) = _; rw [withO_eq, hx, ob_mk, hv, chk_true]) hq
theorem wpI_sub {x : Opd} {off n : Nat} {agg : Bool} {cs : List AVal} {v : AVal} {Q : AVal → AHeap → Prop} (hx : x.ev E = some (.agg cs)) (hl : off + n ≤ cs.length) (hv : outA agg ((cs.drop off).take n) (.err 10) (fun v => .ok v H) = .ok v H) (hq : Q v H) : wpI T (.sub x off n agg) E H Q :=
  wpI_ok (fun _ => by
    show withO x E (.err 10) (fun v => onAgg v (.err 10) fun cs => chk (Nat.ble (Nat.add off n) (lenL cs)) (outA agg ((cs.drop off).take n) (.err 10) fun v => .ok v H) (.err 10)) = _
    rw [withO_eq, hx, ob_mk]
    show chk (Nat.ble (off + n) (lenL cs)) (outA agg ((cs.drop off).take n) (Res.err 10) fun v => Res.ok v H) (Res.err 10) = _
    rw [lenL_eq, Nat.ble_eq_true_of_le hl, chk_true]
    exact hv) hq
theorem wpI_build {z cs : List AVal} {ps : List (Nat × Nat × Opd)} {Q : AVal → AHeap → Prop} (h : buildA E ps z = some cs) (hq : Q (.agg cs) H) : wpI T (.build z ps) E H Q :=
  wpI_ok (fun _ => by show ob (buildA E ps z) (Res.err 23) (fun cs => Res.ok (.agg cs) H) = _; rw [h, ob_mk]) hq
theorem wpI_call {f : Nat} {l : List Opd} {vs : List AVal} {Q : AVal → AHeap → Prop} (hl : evs E l = some vs) (h : wpF T f vs H Q) : wpI T (.call f l) E H Q := by
  obtain ⟨N, v, H', a, b⟩ := h
  exact ⟨N, v, H', fun lf n h1 h2 => by show ob (evs E l) (Res.err 42) (fun vs => T.call lf n f vs H) = _; rw [hl, ob_mk]; exact a lf n h1 h2, b⟩
theorem evs_nil : evs E [] = some [] := rfl
theorem evs_cons {x : Opd} {r : List Opd} {v : AVal} {vs : List AVal} (h : x.ev E = some v) (k : evs E r = some vs) : evs E (x :: r) = some (v :: vs) := by
  show ob (x.ev E) none (fun v => ob (evs E r) none fun vs => some (v :: vs)) = _
  rw [h, ob_mk, k, ob_mk]
theorem wpO_nil {Q : Env → AHeap → Prop} (h : Q E H) : wpO T [] E H Q := ⟨0, E, H, fun _ _ _ _ => rfl, h⟩
theorem wpO_cons {d : Key} {q : Option (List Nat)} {op : Ins} {r : List IOp} {Q : Env → AHeap → Prop} (h : wpI T op E H fun v H' => wpO T r (E.set d v) H' Q) : wpO T (⟨some d, none, q, op⟩ :: r) E H Q := by
  obtain ⟨N, v, H', a, N2, E2, H2, b, c⟩ := h
  refine ⟨max N N2, E2, H2, fun lf n h1 h2 => ?_, c⟩
  rw [evOps_plain, a lf n (by omega) (by omega), fin_some]
  exact b lf n (by omega) (by omega)
theorem wpO_consN {q : Option (List Nat)} {op : Ins} {r : List IOp} {Q : Env → AHeap → Prop} (h : wpI T op E H fun _ H' => wpO T r E H' Q) : wpO T (⟨none, none, q, op⟩ :: r) E H Q := by
  obtain ⟨N, v, H', a, N2, E2, H2, b, c⟩ := h
  refine ⟨max N N2, E2, H2, fun lf n h1 h2 => ?_, c⟩
  rw [evOps_plain, a lf n (by omega) (by omega), fin_none]
  exact b lf n (by omega) (by omega)
theorem step_guard {call : CallF} {d : Option Key} {g : Key} {want : Bool} {q : Option (List Nat)} {op : Ins} {t : Bool} {k : Env → AHeap → ORes} (hg : E.get g = some (.bool t)) :
    IOp.step call ⟨d, some (g, want), q, op⟩ E H k = if t = want then fin d E k (op.ev call E H) else k (putE E d .undef) H := by
  show ob (E.get g) (.err 51) (fun v => onGd v (skipD d E H k) fun b => chk (Bool.xor b want) (skipD d E H k) (IOp.run call ⟨d, some (g, want), q, op⟩ E H k)) = _
  rw [hg, ob_mk]
  show chk (Bool.xor t want) (skipD d E H k) (IOp.run call ⟨d, some (g, want), q, op⟩ E H k) = _
  rw [skipD_eq]
  cases t <;> cases want <;> rfl
theorem wpO_skip {d : Key} {g : Key} {want t : Bool} {q : Option (List Nat)} {op : Ins} {r : List IOp} {Q : Env → AHeap → Prop} (hg : E.get g = some (.bool t)) (ht : t ≠ want) (h : wpO T r (E.set d .undef) H Q) : wpO T (⟨some d, some (g, want), q, op⟩ :: r) E H Q := by
  obtain ⟨N2, E2, H2, b, c⟩ := h
  exact ⟨N2, E2, H2, fun lf n h1 h2 => by show IOp.step (T.call lf n) ⟨some d, some (g, want), q, op⟩ E H (evOps (T.call lf n) r) = _; rw [step_guard hg, if_neg ht]; exact b lf n h1 h2, c⟩
theorem wpO_want {d : Key} {g : Key} {want : Bool} {q : Option (List Nat)} {op : Ins} {r : List IOp} {Q : Env → AHeap → Prop} (hg : E.get g = some (.bool want)) (h : wpI T op E H fun v H' => wpO T r (E.set d v) H' Q) : wpO T (⟨some d, some (g, want), q, op⟩ :: r) E H Q := by
  obtain ⟨N, v, H', a, N2, E2, H2, b, c⟩ := h
  refine ⟨max N N2, E2, H2, fun lf n h1 h2 => ?_, c⟩
  show IOp.step (T.call lf n) ⟨some d, some (g, want), q, op⟩ E H (evOps (T.call lf n) r) = _
  rw [step_guard hg, if_pos rfl, a lf n (by omega) (by omega), fin_some]
  exact b lf n (by omega) (by omega)
theorem wpC_seq {a b : IC} {Q : Ex → Env → AHeap → Prop} (h : wpC T a E H fun x E' H' => (x = .normal → wpC T b E' H' Q) ∧ (x ≠ .normal → Q x E' H')) : wpC T (.seq a b) E H Q := by
  obtain ⟨N, x, E1, H1, h1, h2, h3⟩ := h
  cases x with
  | normal =>
    obtain ⟨N2, x2, E2, H2, k1, k2⟩ := h2 rfl
    refine ⟨max N N2, x2, E2, H2, fun lf n a1 a2 => ?_, k2⟩
    rw [seq_ev, h1 lf n (by omega) (by omega), onNormal_mk]
    exact k1 lf n (by omega) (by omega)
  | exit id => exact ⟨N, _, E1, H1, fun lf n a1 a2 => by rw [seq_ev, h1 lf n a1 a2]; rfl, h3 (by simp)⟩
  | ret => exact ⟨N, _, E1, H1, fun lf n a1 a2 => by rw [seq_ev, h1 lf n a1 a2]; rfl, h3 (by simp)⟩
theorem wpC_region {ops : List IOp} {Q : Ex → Env → AHeap → Prop} (h : wpO T ops E H fun E' H' => Q .normal E' H') : wpC T (.region false ops) E H Q := by
  obtain ⟨N, E1, H1, h1, h2⟩ := h
  exact ⟨N, _, E1, H1, fun lf n a1 a2 => by rw [region_ev, h1 lf n a1 a2, ofO_mk], h2⟩
theorem wpC_regionQ {ops : List IOp} {Q : Ex → Env → AHeap → Prop} (h : wpQ T ops E H [] fun E' H' => Q .normal E' H') : wpC T (.region true ops) E H Q := by
  obtain ⟨N, E1, H1, h1, h2⟩ := h
  exact ⟨N, _, E1, H1, fun lf n a1 a2 => by rw [regionQ_ev, h1 lf n a1 a2, ofO_mk], h2⟩
theorem wpC_skip {Q : Ex → Env → AHeap → Prop} (h : Q .normal E H) : wpC T .skip E H Q := ⟨0, _, E, H, fun _ _ _ _ => rfl, h⟩
theorem wpC_exit {id : Nat} {Q : Ex → Env → AHeap → Prop} (h : Q (.exit id) E H) : wpC T (.exit id) E H Q := ⟨0, _, E, H, fun _ _ _ _ => rfl, h⟩
theorem wpC_ret {Q : Ex → Env → AHeap → Prop} (h : Q .ret E H) : wpC T .ret E H Q := ⟨0, _, E, H, fun _ _ _ _ => rfl, h⟩
theorem wpC_cond {c : Opd} {a b : IC} {t : Bool} {Q : Ex → Env → AHeap → Prop} (hc : c.ev E = some (.bool t)) (h1 : t = true → wpC T a E H Q) (h2 : t = false → wpC T b E H Q) : wpC T (.cond c a b) E H Q := by
  have key : ∀ lf n, (IC.cond c a b).ev (T.call lf n) lf E H = if t = true then a.ev (T.call lf n) lf E H else b.ev (T.call lf n) lf E H := fun lf n => by
    show ob (c.ev E) (.err 61) (fun v => onBoolC v (.err 61) fun t => chk t (a.ev (T.call lf n) lf E H) (b.ev (T.call lf n) lf E H)) = _
    rw [hc, ob_mk]
    cases t <;> rfl
  cases t with
  | true => obtain ⟨N, x, E1, H1, k1, k2⟩ := h1 rfl; exact ⟨N, x, E1, H1, fun lf n a1 a2 => by rw [key, if_pos rfl]; exact k1 lf n a1 a2, k2⟩
  | false => obtain ⟨N, x, E1, H1, k1, k2⟩ := h2 rfl; exact ⟨N, x, E1, H1, fun lf n a1 a2 => by rw [key, if_neg (by simp)]; exact k1 lf n a1 a2, k2⟩
def exB (id : Nat) : Ex → Ex
  | .exit j => if j = id then .normal else .exit j
  | x => x
theorem wpC_block {id : Nat} {c : IC} {Q : Ex → Env → AHeap → Prop} (h : wpC T c E H fun x E' H' => Q (exB id x) E' H') : wpC T (.block id c) E H Q := by
  obtain ⟨N, x, E1, H1, h1, h2⟩ := h
  refine ⟨N, exB id x, E1, H1, fun lf n a1 a2 => ?_, h2⟩
  show cBlock id c (c.ev (T.call lf n) lf) E H = _
  unfold cBlock
  rw [h1 lf n a1 a2]
  cases x with
  | normal => rfl
  | ret => rfl
  | exit j =>
    show chk (Nat.beq j id) (Out.ok .normal E1 H1) (.ok (.exit j) E1 H1) = Out.ok (if j = id then .normal else .exit j) E1 H1
    by_cases h : j = id
    · rw [if_pos h, h, show Nat.beq id id = true from Nat.beq_refl id]; rfl
    · rw [if_neg h]
      cases hb : Nat.beq j id
      · rfl
      · exact absurd (Nat.eq_of_beq_eq_true hb) h
theorem wpC_loop {c : IC} {Q : Ex → Env → AHeap → Prop} (I : Nat → Env → AHeap → Prop) (hI : ∀ k E H, I k E H → wpC T c E H fun x E' H' => (x = .normal → ∃ j, j < k ∧ I j E' H') ∧ (x ≠ .normal → Q x E' H')) :
    ∀ k E H, I k E H → wpC T (.loop c) E H Q := by
  have main : ∀ k E H, I k E H → ∃ N x E' H', (∀ lf n m, N ≤ lf → N ≤ n → N ≤ m → loopN (c.ev (T.call lf n) lf) m E H = .ok x E' H') ∧ Q x E' H' := by
    intro k
    induction k using Nat.strongRecOn with
    | _ k ih =>
      intro E H h
      obtain ⟨N, x, E1, H1, h1, h2, h3⟩ := hI k E H h
      have key : ∀ lf n m, N ≤ lf → N ≤ n → loopN (c.ev (T.call lf n) lf) (m + 1) E H = onNormal (.ok x E1 H1) (loopN (c.ev (T.call lf n) lf) m) := fun lf n m a1 a2 => by
        show onNormal (c.ev (T.call lf n) lf E H) (loopN (c.ev (T.call lf n) lf) m) = _
        rw [h1 lf n a1 a2]
      cases x with
      | normal =>
        obtain ⟨j, hj, hIj⟩ := h2 rfl
        obtain ⟨N2, x2, E2, H2, k1, k2⟩ := ih j hj E1 H1 hIj
        refine ⟨max N N2 + 1, x2, E2, H2, fun lf n m a1 a2 a3 => ?_, k2⟩
        obtain ⟨m, rfl⟩ : ∃ m', m = m' + 1 := ⟨m - 1, by omega⟩
        rw [key lf n m (by omega) (by omega), onNormal_mk]
        exact k1 lf n m (by omega) (by omega) (by omega)
      | exit id =>
        refine ⟨N + 1, _, E1, H1, fun lf n m a1 a2 a3 => ?_, h3 (by simp)⟩
        obtain ⟨m, rfl⟩ : ∃ m', m = m' + 1 := ⟨m - 1, by omega⟩
        rw [key lf n m (by omega) (by omega)]; rfl
      | ret =>
        refine ⟨N + 1, _, E1, H1, fun lf n m a1 a2 a3 => ?_, h3 (by simp)⟩
        obtain ⟨m, rfl⟩ : ∃ m', m = m' + 1 := ⟨m - 1, by omega⟩
        rw [key lf n m (by omega) (by omega)]; rfl
  intro k E H h
  obtain ⟨N, x, E', H', a, b⟩ := main k E H h
  exact ⟨N, x, E', H', fun lf n h1 h2 => a lf n lf h1 h2 h1, b⟩
noncomputable def parE (ks : List Key) : List AVal → Env → Env :=
  List.rec (motive := fun _ => List AVal → Env → Env) (fun _ E => E) (fun k _ ih l E => List.rec (motive := fun _ => Env) E (fun v r _ => ih r (E.set k v)) l) ks
theorem params_eq : ∀ (ks : List Key) (l : List AVal) (E : Env) (c : Env → Res), ks.length = l.length → params ks l E c = c (parE ks l E)
  | [], [], E, c, _ => rfl
  | k :: ks, v :: l, E, c, h => by rw [params_cons, params_eq ks l _ c (by simpa using h)]; rfl
  | [], _ :: _, _, _, h => by simp at h
  | _ :: _, [], _, _, h => by simp at h
theorem wpF_fn {f : Nat} {fn : IFn} {args : List AVal} {Q : AVal → AHeap → Prop} (hf : T.ft.get f = some fn) (hl : fn.ps.length = args.length)
    (h : wpC T fn.body (parE fn.ps args .emp) H fun x E' H' => (∀ id, x ≠ .exit id) ∧ ∃ v, results E' H' fn.res = .ok v H' ∧ Q v H') : wpF T f args H Q := by
  obtain ⟨N, x, E1, H1, h1, h2, v, h3, h4⟩ := h
  refine ⟨N + 1, v, H1, fun lf n a1 a2 => ?_, h4⟩
  obtain ⟨n, rfl⟩ : ∃ n', n = n' + 1 := ⟨n - 1, by omega⟩
  show ob (T.ft.get f) _ (fun fn => evFn (T.call lf n) lf fn args H) = _
  rw [hf, ob_mk, evFn_eq, params_eq _ _ _ _ hl, h1 lf n (by omega) (by omega)]
  cases x with
  | normal => exact h3
  | ret => exact h3
  | exit id => exact absurd rfl (h2 id)
end
end Go.Ev
namespace Go.Ev
inductive DC where
  | i (k : IntKind) (n : Int)
  | b (b : Bool)
  | s (l v : Nat)
  | nil
  | sl (rows : List (List DC))
def CellsAt (H : AHeap) (f g Q : Nat) (l : List AVal) : Prop :=
  ∃ elem bts m lo fl cs, H.t.get f = some (.row elem l.length bts m lo fl cs) ∧ lo ≤ g ∧ g ≤ m ∧ Q < g ∧ cs.get Q = some l
mutual
def Rep (H : AHeap) (X : Nat → Prop) : DC → AVal → Prop
  | .i k n, a => a = .int k n
  | .b b, a => a = .bool b
  | .s l v, a => a = .str l v
  | .nil, a => a = .nilslice
  | .sl rows, a => ∃ f g off es, a = .slice f g off rows.length es ∧ (rows = [] ∨ ¬ X f ∧ f < H.next ∧ ∃ q, off = q * es ∧ RepRows H X f g es q rows)
def RepRows (H : AHeap) (X : Nat → Prop) (f g es : Nat) : Nat → List (List DC) → Prop
  | _, [] => True
  | q, row :: r => (∃ l, CellsAt H f g q l ∧ l.length = es ∧ RepCells H X row l) ∧ RepRows H X f g es (q + 1) r
def RepCells (H : AHeap) (X : Nat → Prop) : List DC → List AVal → Prop
  | [], l => l = []
  | d :: r, l => ∃ a s, l = a :: s ∧ Rep H X d a ∧ RepCells H X r s
end
structure Grow (H H' : AHeap) : Prop where
  next : H.next ≤ H'.next
  mrk : H'.mrk = H.mrk
  ws : H'.ws = H.ws
  same : ∀ f, f < H.next → H'.t.get f = H.t.get f
theorem Grow.refl (H : AHeap) : Grow H H := ⟨Nat.le_refl _, rfl, rfl, fun _ _ => rfl⟩
theorem Grow.trans {A B C : AHeap} (h : Grow A B) (k : Grow B C) : Grow A C :=
  ⟨Nat.le_trans h.next k.next, k.mrk.trans h.mrk, k.ws.trans h.ws, fun f hf => (k.same f (Nat.lt_of_lt_of_le hf h.next)).trans (h.same f hf)⟩
structure Step (X : Nat → Prop) (H H' : AHeap) : Prop where
  next : H.next ≤ H'.next
  same : ∀ f, f < H.next → ¬ X f → H'.t.get f = H.t.get f
theorem Step.refl (X : Nat → Prop) (H : AHeap) : Step X H H := ⟨Nat.le_refl _, fun _ _ _ => rfl⟩
theorem Grow.step {H H' : AHeap} (h : Grow H H') (X : Nat → Prop) : Step X H H' := ⟨h.next, fun f hf _ => h.same f hf⟩
theorem Step.trans {X : Nat → Prop} {A B C : AHeap} (h : Step X A B) (k : Step X B C) : Step X A C :=
  ⟨Nat.le_trans h.next k.next, fun f hf hx => (k.same f (Nat.lt_of_lt_of_le hf h.next) hx).trans (h.same f hf hx)⟩
section
variable {H H' : AHeap} {X : Nat → Prop}
theorem CellsAt.keep {f g Q : Nat} {l : List AVal} (h : CellsAt H f g Q l) (hs : H'.t.get f = H.t.get f) : CellsAt H' f g Q l := by
  obtain ⟨a, b, c, d, e, k, h1, h2⟩ := h
  exact ⟨a, b, c, d, e, k, hs.trans h1, h2⟩
mutual
theorem Rep.step (hs : Step X H H') : ∀ {d : DC} {a : AVal}, Rep H X d a → Rep H' X d a
  | .i _ _, _, h => h
  | .b _, _, h => h
  | .s _ _, _, h => h
  | .nil, _, h => h
  | .sl rows, a, h => by
    simp only [Rep] at h ⊢
    obtain ⟨f, g, off, es, h1, h2⟩ := h
    refine ⟨f, g, off, es, h1, h2.imp id fun ⟨hx, hf, q, ho, hr⟩ => ⟨hx, Nat.lt_of_lt_of_le hf hs.next, q, ho, RepRows.step hs hx hf hr⟩⟩
theorem RepRows.step (hs : Step X H H') {f g es : Nat} (hx : ¬ X f) (hf : f < H.next) : ∀ {q : Nat} {rows : List (List DC)}, RepRows H X f g es q rows → RepRows H' X f g es q rows
  | _, [], _ => trivial
  | q, row :: r, h => by
    simp only [RepRows] at h ⊢
    obtain ⟨⟨l, h1, h2, h3⟩, h4⟩ := h
    exact ⟨⟨l, h1.keep (hs.same f hf hx), h2, RepCells.step hs h3⟩, RepRows.step hs hx hf h4⟩
theorem RepCells.step (hs : Step X H H') : ∀ {row : List DC} {l : List AVal}, RepCells H X row l → RepCells H' X row l
  | [], _, h => h
  | d :: r, l, h => by
    simp only [RepCells] at h ⊢
    obtain ⟨a, s, h1, h2, h3⟩ := h
    exact ⟨a, s, h1, Rep.step hs h2, RepCells.step hs h3⟩
end
theorem RepRows.get {f g es : Nat} : ∀ {q : Nat} {rows : List (List DC)}, RepRows H X f g es q rows → ∀ {i : Nat} {row : List DC}, rows[i]? = some row → ∃ l, CellsAt H f g (q + i) l ∧ l.length = es ∧ RepCells H X row l
  | q, [], _, i, row, hi => by simp at hi
  | q, x :: r, h, i, row, hi => by
    simp only [RepRows] at h
    cases i with
    | zero => simp at hi; subst hi; exact h.1
    | succ i =>
      obtain ⟨l, h1, h2⟩ := RepRows.get h.2 (i := i) (row := row) (by simpa using hi)
      exact ⟨l, by rw [show q + (i + 1) = q + 1 + i by omega]; exact h1, h2⟩
theorem RepCells.get : ∀ {row : List DC} {l : List AVal}, RepCells H X row l → ∀ {i : Nat} {d : DC}, row[i]? = some d → ∃ a, l[i]? = some a ∧ Rep H X d a
  | [], _, _, i, d, hi => by simp at hi
  | x :: r, l, h, i, d, hi => by
    simp only [RepCells] at h
    obtain ⟨a, s, rfl, h1, h2⟩ := h
    cases i with
    | zero => simp at hi; subst hi; exact ⟨a, rfl, h1⟩
    | succ i => simpa using RepCells.get h2 (i := i) (d := d) (by simpa using hi)
theorem RepCells.length : ∀ {row : List DC} {l : List AVal}, RepCells H X row l → l.length = row.length
  | [], _, h => by simp only [RepCells] at h; subst h; rfl
  | d :: r, l, h => by
    simp only [RepCells] at h
    obtain ⟨a, s, rfl, _, h2⟩ := h
    simp [RepCells.length h2]
theorem Rep.slice {rows : List (List DC)} {a : AVal} (h : Rep H X (.sl rows) a) : ∃ f g off es, a = .slice f g off rows.length es ∧
    ∀ {i : Nat} {row : List DC}, rows[i]? = some row → ¬ X f ∧ f < H.next ∧ ∃ Q l, CellsAt H f g Q l ∧ l.length = es ∧ off + i * es = Q * es ∧ RepCells H X row l := by
  simp only [Rep] at h
  obtain ⟨f, g, off, es, h1, h2⟩ := h
  refine ⟨f, g, off, es, h1, fun {i row} hi => ?_⟩
  rcases h2 with rfl | ⟨hx, hf, q, ho, hr⟩
  · simp at hi
  · obtain ⟨l, k1, k2, k3⟩ := hr.get hi
    exact ⟨hx, hf, q + i, l, k1, k2, by rw [ho, Nat.add_mul], k3⟩
theorem rd_at {β : Type} {f g Q k n : Nat} {l : List AVal} {e : β} {c : List AVal → β} (h : CellsAt H f g Q l) (hn : k + n ≤ l.length) (h0 : 0 < n) : rd H f g (Q * l.length + k) n e c = c ((l.drop k).take n) := by
  obtain ⟨elem, bts, m, lo, fl, cs, h1, h2, h3, h4, h5⟩ := h
  have e1 : (Q * l.length + k) / l.length = Q := by
    rw [Nat.mul_comm, Nat.mul_add_div (by omega), Nat.div_eq_of_lt (by omega)]; rfl
  have e2 : (Q * l.length + k) % l.length = k := by
    rw [Nat.mul_comm, Nat.mul_add_mod, Nat.mod_eq_of_lt (by omega)]
  unfold rd
  rw [h1]
  simp only [onRow, chk_if]
  rw [show Nat.mod (Q * l.length + k) l.length = k from e2, show Nat.div (Q * l.length + k) l.length = Q from e1, if_pos (Nat.ble_eq_true_of_le h2), if_pos (Nat.ble_eq_true_of_le h3), show Nat.ble (Nat.add k n) l.length = true from Nat.ble_eq_true_of_le hn, if_pos rfl, if_pos (Nat.ble_eq_true_of_le h4), h5, ob_mk]
  split
  · rename_i hb
    have := Nat.eq_of_beq_eq_true hb
    have hk : k = 0 := by omega
    subst hk
    rw [List.drop_zero, List.take_of_length_le (by omega)]
  · rfl
theorem load_eq {call : CallF} {E : Env} {n : Nat} {agg : Bool} {a : Opd} {f g o : Nat} (ha : a.ev E = some (.ptr f g o)) : (Ins.load n agg a).ev call E H = rd H f g o n (.err 4) fun l => outA agg l (.err 4) fun v => .ok v H := by
  show withO a E (.err 4) (fun v => onPtr v (.err 4) fun f g off => rd H f g off n (.err 4) fun l => outA agg l (.err 4) fun v => .ok v H) = _
  rw [withO_eq, ha, ob_mk]; rfl
variable {T : Tab} {E : Env}
theorem wpI_load1 {a : Opd} {f g o Q k : Nat} {l : List AVal} {x : AVal} {R : AVal → AHeap → Prop} (ha : a.ev E = some (.ptr f g o)) (hc : CellsAt H f g Q l) (ho : o = Q * l.length + k) (hx : l[k]? = some x) (hq : R x H) : wpI T (.load 1 false a) E H R :=
  wpI_ok (fun _ => by
    have hk : k < l.length := (List.getElem?_eq_some_iff.1 hx).1
    rw [load_eq ha, ho, rd_at hc (by omega) (by omega)]
    have : (l.drop k).take 1 = [x] := by
      rw [List.drop_eq_getElem_cons hk, List.take_succ_cons, List.take_zero]
      congr 1
      exact (List.getElem?_eq_some_iff.1 hx).2
    rw [this]; rfl) hq
theorem wpI_loadA {n : Nat} {a : Opd} {f g o Q k : Nat} {l : List AVal} {R : AVal → AHeap → Prop} (ha : a.ev E = some (.ptr f g o)) (hc : CellsAt H f g Q l) (ho : o = Q * l.length + k) (hn : k + n ≤ l.length) (h0 : 0 < n) (hq : R (.agg ((l.drop k).take n)) H) : wpI T (.load n true a) E H R :=
  wpI_ok (fun _ => by rw [load_eq ha, ho, rd_at hc hn h0]; rfl) hq
def BoxAt (H : AHeap) (f : Nat) (cells : List AVal) : Prop := ∃ elem bts lo cs, H.t.get f = some (.row elem cells.length bts 1 lo 0 cs) ∧ lo ≤ 1 ∧ cs.get 0 = some cells
theorem BoxAt.cells {f : Nat} {l : List AVal} (h : BoxAt H f l) : CellsAt H f 1 0 l := by
  obtain ⟨a, b, lo, cs, h1, h2, h3⟩ := h
  exact ⟨a, b, 1, lo, 0, cs, h1, h2, Nat.le_refl _, Nat.lt_succ_self _, h3⟩
theorem BoxAt.keep {f : Nat} {l : List AVal} (h : BoxAt H f l) (hs : H'.t.get f = H.t.get f) : BoxAt H' f l := by
  obtain ⟨a, b, lo, cs, h1, h2⟩ := h
  exact ⟨a, b, lo, cs, hs.trans h1, h2⟩
noncomputable def boxH (H : AHeap) (elem bts : Nat) (cells : List AVal) : AHeap := ⟨H.next + 1, H.mrk, H.ws, H.t.set H.next (.row elem cells.length bts 1 1 0 (.one cells))⟩
theorem boxH_at (elem bts : Nat) (cells : List AVal) : BoxAt (boxH H elem bts cells) H.next cells :=
  ⟨elem, bts, 1, .one cells, by show (H.t.set H.next _).get H.next = _; rw [HT.get_set, if_pos rfl], Nat.le_refl _, rfl⟩
theorem boxH_grow (elem bts : Nat) (cells : List AVal) : Grow H (boxH H elem bts cells) :=
  ⟨Nat.le_succ _, rfl, rfl, fun f hf => by show (H.t.set H.next _).get f = _; rw [HT.get_set, if_neg (by omega)]⟩
theorem alloc_eq (o : AObj) (k : Nat → AHeap → Res) : H.alloc o k = k H.next ⟨H.next + 1, H.mrk, H.ws, H.t.set H.next o⟩ := by
  cases H with
  | mk next mrk ws t =>
    show seqNat next (fun f => t.setC f o fun t => k f ⟨Nat.succ f, mrk, ws, t⟩) = _
    rw [seqNat_eq, HT.setC_eq]
theorem wpI_boxz {elem es bts : Nat} {cells : List AVal} {R : AVal → AHeap → Prop} (hl : cells.length = es) (hq : R (.ptr H.next 1 0) (boxH H elem bts cells)) : wpI T (.boxz elem es bts cells) E H R :=
  wpI_ok (fun _ => by subst hl; show H.alloc (.row elem cells.length bts 1 1 0 (.one cells)) (fun f H => .ok (.ptr f 1 0) H) = _; rw [alloc_eq]; rfl) hq
theorem wpI_box {elem es bts : Nat} {x : Opd} {v : AVal} {cells : List AVal} {R : AVal → AHeap → Prop} (hx : x.ev E = some v) (hv : cellsOk v = some cells) (hl : cells.length = es) (hq : R (.ptr H.next 1 0) (boxH H elem bts cells)) : wpI T (.box elem es bts x) E H R :=
  wpI_ok (fun _ => by
    subst hl
    show withO x E (.err 3) (fun v => ob (cellsOk v) (.err 3) fun l => chk (Nat.beq (lenL l) cells.length) (eBoxz elem cells.length bts l E H) (.err 3)) = _
    rw [withO_eq, hx, ob_mk, hv, ob_mk, lenL_eq, show Nat.beq cells.length cells.length = true from Nat.beq_refl _, chk_true]
    show H.alloc (.row elem cells.length bts 1 1 0 (.one cells)) (fun f H => .ok (.ptr f 1 0) H) = _
    rw [alloc_eq]; rfl) hq
noncomputable def putC (l : List AVal) (k : Nat) (new : List AVal) : List AVal := if new.length = l.length then new else splice l k new
theorem putC_length {l new : List AVal} {k : Nat} (h : k + new.length ≤ l.length) : (putC l k new).length = l.length := by
  unfold putC
  split
  · assumption
  · simp only [splice, List.length_append, List.length_take, List.length_drop]; omega
theorem wpI_store {n : Nat} {a x : Opd} {f o : Nat} {v : AVal} {l new : List AVal} {R : AVal → AHeap → Prop} (ha : a.ev E = some (.ptr f 1 o)) (hx : x.ev E = some v) (hv : cellsOk v = some new) (hb : BoxAt H f l) (hn : new.length = n) (h0 : 0 < n) (hk : o + n ≤ l.length)
    (hq : ∀ H', BoxAt H' f (putC l o new) → H'.next = H.next → H'.mrk = H.mrk → H'.ws = wrote f H.mrk H.ws → (∀ f', f' ≠ f → H'.t.get f' = H.t.get f') → R .undef H') : wpI T (.store n a x) E H R := by
  obtain ⟨elem, bts, lo, cs, h1, h2, h3⟩ := hb
  subst hn
  have hod : o / l.length = 0 ∨ (o = l.length ∧ False) := by
    left; exact Nat.div_eq_of_lt (by omega)
  have hod : o / l.length = 0 := hod.resolve_right fun h => h.2
  have hom : o % l.length = o := Nat.mod_eq_of_lt (by omega)
  let H1 : AHeap := ⟨H.next, H.mrk, wrote f H.mrk H.ws, H.t.set f (.row elem l.length bts 1 1 0 (cs.set 0 (putC l o new)))⟩
  refine ⟨0, .undef, H1, fun lf m _ _ => ?_, ?_⟩
  · show withO a E (.err 5) (fun p => onPtr p (.err 5) fun f g off => withO x E (.err 5) fun v => ob (cellsOk v) (.err 5) fun l => wr H f g off new.length l (.err 5) fun H => .ok .undef H) = _
    rw [withO_eq, ha, ob_mk]
    show withO x E (.err 5) (fun v => ob (cellsOk v) (.err 5) fun l => wr H f 1 o new.length l (.err 5) fun H => .ok .undef H) = _
    rw [withO_eq, hx, ob_mk, hv, ob_mk]
    cases H with
    | mk next mrk ws t =>
      have h1 : t.get f = some (.row elem l.length bts 1 lo 0 cs) := h1
      show onRow (t.get f) (Res.err 5) (fun elem es bts m lo fl cs =>
        chk (Nat.beq fl 0) (chk (Nat.beq 1 m) (chk (Nat.ble lo 1) (chk (Nat.ble (Nat.add (Nat.mod o es) new.length) es) (chk (Nat.ble (Nat.succ (Nat.div o es)) 1) (chk (Nat.beq (lenL new) new.length)
          (ob (cs.get (Nat.div o es)) (Res.err 5) fun l => cs.setC (Nat.div o es) (chk (Nat.beq new.length es) new (splice l (Nat.mod o es) new)) fun cs => t.setC f (.row elem es bts m m 0 cs) fun t => Res.ok .undef ⟨next, mrk, wrote f mrk ws, t⟩) (Res.err 5)) (Res.err 5)) (Res.err 5)) (Res.err 5)) (Res.err 5)) (Res.err 5)) = _
      rw [h1]
      show chk (Nat.beq 0 0) (chk (Nat.beq 1 1) (chk (Nat.ble lo 1) (chk (Nat.ble (Nat.add (Nat.mod o l.length) new.length) l.length) (chk (Nat.ble (Nat.succ (Nat.div o l.length)) 1) (chk (Nat.beq (lenL new) new.length)
        (ob (cs.get (Nat.div o l.length)) (Res.err 5) fun l' => cs.setC (Nat.div o l.length) (chk (Nat.beq new.length l.length) new (splice l' (Nat.mod o l.length) new)) fun cs => t.setC f (.row elem l.length bts 1 1 0 cs) fun t => Res.ok .undef ⟨next, mrk, wrote f mrk ws, t⟩) (Res.err 5)) (Res.err 5)) (Res.err 5)) (Res.err 5)) (Res.err 5)) (Res.err 5) = _
      rw [show Nat.mod o l.length = o from hom, show Nat.div o l.length = 0 from hod, show Nat.beq 0 0 = true from rfl, chk_true, show Nat.beq 1 1 = true from rfl, chk_true, Nat.ble_eq_true_of_le h2, chk_true,
        show Nat.ble (Nat.add o new.length) l.length = true from Nat.ble_eq_true_of_le hk, chk_true, show Nat.ble (Nat.succ 0) 1 = true from rfl, chk_true, lenL_eq, show Nat.beq new.length new.length = true from Nat.beq_refl _, chk_true, h3, ob_mk, RT.setC_eq, HT.setC_eq]
      have e : chk (Nat.beq new.length l.length) new (splice l o new) = putC l o new := by
        unfold putC
        by_cases he : new.length = l.length
        · rw [if_pos he, he, show Nat.beq l.length l.length = true from Nat.beq_refl _]; rfl
        · rw [if_neg he]
          cases hbq : Nat.beq new.length l.length
          · rfl
          · exact absurd (Nat.eq_of_beq_eq_true hbq) he
      rw [e]
  · refine hq H1 ⟨elem, bts, 1, cs.set 0 (putC l o new), ?_, Nat.le_refl _, by rw [RT.get_set, if_pos rfl]⟩ rfl rfl rfl fun f' hf => ?_
    · show (H.t.set f _).get f = _
      rw [HT.get_set, if_pos rfl, putC_length hk]
    · show (H.t.set f _).get f' = _
      rw [HT.get_set, if_neg hf]
def wpR (T : Tab) (ops : List IOp) (E : Env) (H : AHeap) (k : Nat) (Q : Env → AHeap → Prop) : Prop := ∀ recs : List FP, recs.length = k → (∀ b, b ∈ recs → b.ws = []) → wpQ T ops E H recs Q
theorem wpC_draw {ops : List IOp} {Q : Ex → Env → AHeap → Prop} (h : wpR T ops E H 0 fun E' H' => Q .normal E' H') : wpC T (.region true ops) E H Q := wpC_regionQ (h [] rfl fun _ h => by cases h)
variable {k : Nat} {Q : Env → AHeap → Prop}
theorem wpR_nil (h : Q E H) : wpR T [] E H k Q := fun _ _ _ => ⟨0, E, H, fun _ _ _ _ => rfl, h⟩
theorem runP_plain {call : CallF} {o : IOp} {recs : List FP} {K : Env → AHeap → List FP → ORes} (hq : o.q = none) : o.runP call E H recs K = fin o.dst E (fun E H => K E H recs) (o.op.ev call E H) := by
  unfold IOp.runP; rw [hq]; rfl
theorem stepQ_none {call : CallF} {d : Option Key} {q : Option (List Nat)} {op : Ins} {recs : List FP} {K : Env → AHeap → List FP → ORes} : IOp.stepQ call ⟨d, none, q, op⟩ E H recs K = IOp.runP call ⟨d, none, q, op⟩ E H recs K := rfl
theorem stepQ_guard {call : CallF} {d : Option Key} {g : Key} {want : Bool} {q : Option (List Nat)} {op : Ins} {t : Bool} {recs : List FP} {K : Env → AHeap → List FP → ORes} (hg : E.get g = some (.bool t)) :
    IOp.stepQ call ⟨d, some (g, want), q, op⟩ E H recs K = if t = want then IOp.runP call ⟨d, some (g, want), q, op⟩ E H recs K else K (putE E d .undef) H (skipQ q recs) := by
  show ob (E.get g) (.err 51) (fun v => onGd v (skipD d E H fun E H => K E H (skipQ q recs)) fun b => chk (Bool.xor b want) (skipD d E H fun E H => K E H (skipQ q recs)) (IOp.runP call ⟨d, some (g, want), q, op⟩ E H recs K)) = _
  rw [hg, ob_mk]
  show chk (Bool.xor t want) (skipD d E H fun E H => K E H (skipQ q recs)) (IOp.runP call ⟨d, some (g, want), q, op⟩ E H recs K) = _
  rw [skipD_eq]
  cases t <;> cases want <;> rfl
theorem fin_put {d : Option Key} {v : AVal} {K : Env → AHeap → ORes} : fin d E K (.ok v H) = K (putE E d v) H := by
  cases d with
  | none => rfl
  | some d => exact fin_some d v K
theorem runP_mark {call : CallF} {d : Option Key} {g : Option (Key × Bool)} {l : List Nat} {op : Ins} {recs : List FP} {K : Env → AHeap → List FP → ORes} {v : AVal} {H1 : AHeap} (h : op.ev call E H.mark = .ok v H1) (hw : H1.ws = []) (hr : ∀ b, b ∈ recs → b.ws = []) (hl : ∀ i, i ∈ l → i < recs.length) :
    IOp.runP call ⟨d, g, some l, op⟩ E H recs K = K (putE E d v) ⟨H1.next, H.mrk, H.ws, H1.t⟩ (⟨op.reads E, [], H.next, H1.next⟩ :: recs) := by
  cases H with
  | mk next mrk ws t => cases H1 with
    | mk next' mrk' ws' t' =>
      have hw : ws' = [] := hw
      subst hw
      show seqNat next (fun next => finQ (op.reads E) l next mrk ws recs d E K (op.ev call E ⟨next, next, [], t⟩)) = _
      rw [seqNat_eq]
      have h : op.ev call E ⟨next, next, [], t⟩ = .ok v ⟨next', mrk', [], t'⟩ := h
      rw [h]
      have ha : apartAll ⟨op.reads E, [], next, next'⟩ recs l = true := by
        induction l with
        | nil => rfl
        | cons i l ih =>
          show ob (recs[i]?) false (fun b => chk (apartFP ⟨op.reads E, [], next, next'⟩ b) (apartAll ⟨op.reads E, [], next, next'⟩ recs l) false) = true
          have hi := hl i (List.mem_cons_self ..)
          rw [List.getElem?_eq_getElem hi, ob_mk]
          have hb := hr _ (List.getElem_mem hi)
          have e : apartFP ⟨op.reads E, [], next, next'⟩ recs[i] = true := by
            unfold apartFP
            rw [show (FP.mk (op.reads E) [] next next').ws = [] from rfl, hb]
            rfl
          rw [e, chk_true]
          exact ih fun j hj => hl j (List.mem_cons_of_mem _ hj)
      cases d with
      | none =>
        show chk (apartAll ⟨op.reads E, [], next, next'⟩ recs l) (K E ⟨next', mrk, ws, t'⟩ (⟨op.reads E, [], next, next'⟩ :: recs)) (.err 50) = _
        rw [ha]; rfl
      | some d =>
        unfold finQ
        dsimp only
        rw [ha, chk_true, Env.setO_eq]; rfl
theorem wpR_plain {d : Key} {op : Ins} {r : List IOp} (h : wpI T op E H fun v H' => wpR T r (E.set d v) H' k Q) : wpR T (⟨some d, none, none, op⟩ :: r) E H k Q := fun recs h1 h2 => by
  obtain ⟨N, v, H', a, b⟩ := h
  obtain ⟨N2, E2, H2, c, e⟩ := b recs h1 h2
  refine ⟨max N N2, E2, H2, fun lf n a1 a2 => ?_, e⟩
  show IOp.stepQ (T.call lf n) ⟨some d, none, none, op⟩ E H recs (evOpsQ (T.call lf n) r) = _
  rw [stepQ_none, runP_plain rfl, a lf n (by omega) (by omega), fin_some]
  exact c lf n (by omega) (by omega)
theorem wpR_mark {d : Key} {l : List Nat} {op : Ins} {r : List IOp} (hl : ∀ i, i ∈ l → i < k) (h : wpI T op E H.mark fun v H1 => H1.ws = [] ∧ wpR T r (E.set d v) ⟨H1.next, H.mrk, H.ws, H1.t⟩ (k + 1) Q) : wpR T (⟨some d, none, some l, op⟩ :: r) E H k Q := fun recs h1 h2 => by
  obtain ⟨N, v, H', a, hw, b⟩ := h
  obtain ⟨N2, E2, H2, c, e⟩ := b (⟨op.reads E, [], H.next, H'.next⟩ :: recs) (by simp [h1]) (fun x hx => by rcases List.mem_cons.1 hx with rfl | hx <;> first | rfl | exact h2 x hx)
  refine ⟨max N N2, E2, H2, fun lf n a1 a2 => ?_, e⟩
  show IOp.stepQ (T.call lf n) ⟨some d, none, some l, op⟩ E H recs (evOpsQ (T.call lf n) r) = _
  rw [stepQ_none, runP_mark (a lf n (by omega) (by omega)) hw h2 (fun i hi => by rw [h1]; exact hl i hi)]
  exact c lf n (by omega) (by omega)
theorem wpR_skip {d g : Key} {want t : Bool} {op : Ins} {r : List IOp} (hg : E.get g = some (.bool t)) (ht : t ≠ want) (h : wpR T r (E.set d .undef) H k Q) : wpR T (⟨some d, some (g, want), none, op⟩ :: r) E H k Q := fun recs h1 h2 => by
  obtain ⟨N2, E2, H2, c, e⟩ := h recs h1 h2
  exact ⟨N2, E2, H2, fun lf n a1 a2 => by
    show IOp.stepQ (T.call lf n) ⟨some d, some (g, want), none, op⟩ E H recs (evOpsQ (T.call lf n) r) = _
    rw [stepQ_guard hg, if_neg ht]; exact c lf n a1 a2, e⟩
theorem wpR_skipM {d g : Key} {want t : Bool} {l : List Nat} {op : Ins} {r : List IOp} (hg : E.get g = some (.bool t)) (ht : t ≠ want) (h : wpR T r (E.set d .undef) H (k + 1) Q) : wpR T (⟨some d, some (g, want), some l, op⟩ :: r) E H k Q := fun recs h1 h2 => by
  obtain ⟨N2, E2, H2, c, e⟩ := h (⟨some [], [], 0, 0⟩ :: recs) (by simp [h1]) (fun x hx => by rcases List.mem_cons.1 hx with rfl | hx <;> first | rfl | exact h2 x hx)
  exact ⟨N2, E2, H2, fun lf n a1 a2 => by
    show IOp.stepQ (T.call lf n) ⟨some d, some (g, want), some l, op⟩ E H recs (evOpsQ (T.call lf n) r) = _
    rw [stepQ_guard hg, if_neg ht]; exact c lf n a1 a2, e⟩
theorem wpR_want {d g : Key} {want : Bool} {op : Ins} {r : List IOp} (hg : E.get g = some (.bool want)) (h : wpI T op E H fun v H' => wpR T r (E.set d v) H' k Q) : wpR T (⟨some d, some (g, want), none, op⟩ :: r) E H k Q := fun recs h1 h2 => by
  obtain ⟨N, v, H', a, b⟩ := h
  obtain ⟨N2, E2, H2, c, e⟩ := b recs h1 h2
  refine ⟨max N N2, E2, H2, fun lf n a1 a2 => ?_, e⟩
  show IOp.stepQ (T.call lf n) ⟨some d, some (g, want), none, op⟩ E H recs (evOpsQ (T.call lf n) r) = _
  rw [stepQ_guard hg, if_pos rfl, runP_plain rfl, a lf n (by omega) (by omega)]
  show fin (some d) E (fun E H => evOpsQ (T.call lf n) r E H recs) (.ok v H') = _
  rw [fin_some]
  exact c lf n (by omega) (by omega)
theorem wpR_wantM {d g : Key} {want : Bool} {l : List Nat} {op : Ins} {r : List IOp} (hg : E.get g = some (.bool want)) (hl : ∀ i, i ∈ l → i < k) (h : wpI T op E H.mark fun v H1 => H1.ws = [] ∧ wpR T r (E.set d v) ⟨H1.next, H.mrk, H.ws, H1.t⟩ (k + 1) Q) : wpR T (⟨some d, some (g, want), some l, op⟩ :: r) E H k Q := fun recs h1 h2 => by
  obtain ⟨N, v, H', a, hw, b⟩ := h
  obtain ⟨N2, E2, H2, c, e⟩ := b (⟨op.reads E, [], H.next, H'.next⟩ :: recs) (by simp [h1]) (fun x hx => by rcases List.mem_cons.1 hx with rfl | hx <;> first | rfl | exact h2 x hx)
  refine ⟨max N N2, E2, H2, fun lf n a1 a2 => ?_, e⟩
  show IOp.stepQ (T.call lf n) ⟨some d, some (g, want), some l, op⟩ E H recs (evOpsQ (T.call lf n) r) = _
  rw [stepQ_guard hg, if_pos rfl, runP_mark (a lf n (by omega) (by omega)) hw h2 (fun i hi => by rw [h1]; exact hl i hi)]
  exact c lf n (by omega) (by omega)
end
end Go.Ev
namespace Go.Ev
structure Lift (H : AHeap) (X : Nat → Prop) (H' : AHeap) (X' : Nat → Prop) : Prop where
  next : H.next ≤ H'.next
  same : ∀ f, f < H.next → ¬ X f → ¬ X' f ∧ H'.t.get f = H.t.get f
section
variable {H H' : AHeap} {X X' : Nat → Prop}
mutual
theorem Rep.lift (hs : Lift H X H' X') : ∀ {d : DC} {a : AVal}, Rep H X d a → Rep H' X' d a
  | .i _ _, _, h => h
  | .b _, _, h => h
  | .s _ _, _, h => h
  | .nil, _, h => h
  | .sl rows, a, h => by
    simp only [Rep] at h ⊢
    obtain ⟨f, g, off, es, h1, h2⟩ := h
    exact ⟨f, g, off, es, h1, h2.imp id fun ⟨hx, hf, q, ho, hr⟩ => ⟨(hs.same f hf hx).1, Nat.lt_of_lt_of_le hf hs.next, q, ho, RepRows.lift hs hx hf hr⟩⟩
theorem RepRows.lift (hs : Lift H X H' X') {f g es : Nat} (hx : ¬ X f) (hf : f < H.next) : ∀ {q : Nat} {rows : List (List DC)}, RepRows H X f g es q rows → RepRows H' X' f g es q rows
  | _, [], _ => trivial
  | q, row :: r, h => by
    simp only [RepRows] at h ⊢
    obtain ⟨⟨l, h1, h2, h3⟩, h4⟩ := h
    exact ⟨⟨l, h1.keep (hs.same f hf hx).2, h2, RepCells.lift hs h3⟩, RepRows.lift hs hx hf h4⟩
theorem RepCells.lift (hs : Lift H X H' X') : ∀ {row : List DC} {l : List AVal}, RepCells H X row l → RepCells H' X' row l
  | [], _, h => h
  | d :: r, l, h => by
    simp only [RepCells] at h ⊢
    obtain ⟨a, s, h1, h2, h3⟩ := h
    exact ⟨a, s, h1, Rep.lift hs h2, RepCells.lift hs h3⟩
end
end
inductive VV where
  | d (x : DC)
  | agg (l : List VV)
  | tuple (l : List VV)
  | vp (b off : Nat)
  | bp (b g q off es : Nat)
  | rp (row : List DC) (off : Nat)
  | bs (b n es : Nat)
  | ac (b n es : Nat)
  | undef
inductive BS where
  | one (elem bts : Nat) (row : List VV)
  | arr (elem bts es lo : Nat) (rows : List (List DC))
  | acc (elem bts es : Nat) (rows : List (List DC))
def BS.born : BS → Prop
  | .acc _ _ _ rows => rows ≠ []
  | _ => True
abbrev VEnv := List (Nat × VV)
abbrev BEnv := List (Nat × BS)
def getL {α : Type} : List (Nat × α) → Nat → Option α
  | [], _ => none
  | (i, v) :: r, k => bif Nat.beq i k then some v else getL r k
theorem getL_cons {α : Type} (i : Nat) (v : α) (r : List (Nat × α)) (k : Nat) : getL ((i, v) :: r) k = if i = k then some v else getL r k := by
  show (bif Nat.beq i k then some v else getL r k) = _
  by_cases h : i = k
  · rw [if_pos h, h, show Nat.beq k k = true from Nat.beq_refl k]; rfl
  · rw [if_neg h]
    cases hb : Nat.beq i k
    · rfl
    · exact absurd (Nat.eq_of_beq_eq_true hb) h
def delL {α : Type} : List (Nat × α) → Nat → List (Nat × α)
  | [], _ => []
  | (i, v) :: r, k => bif Nat.beq i k then delL r k else (i, v) :: delL r k
theorem getL_del {α : Type} (b k : Nat) : ∀ l : List (Nat × α), getL (delL l b) k = if b = k then none else getL l k
  | [] => by by_cases h : b = k <;> simp [delL, getL, h]
  | (i, v) :: r => by
    rw [getL_cons]
    show getL (bif Nat.beq i b then delL r b else (i, v) :: delL r b) k = _
    by_cases h : i = b
    · subst h
      rw [show Nat.beq i i = true from Nat.beq_refl i]
      show getL (delL r i) k = _
      rw [getL_del i k r]
      by_cases hk : i = k
      · simp [hk]
      · simp [hk]
    · have hb : Nat.beq i b = false := by
        cases hb : Nat.beq i b
        · rfl
        · exact absurd (Nat.eq_of_beq_eq_true hb) h
      rw [hb]
      show getL ((i, v) :: delL r b) k = _
      rw [getL_cons, getL_del b k r]
      by_cases hk : i = k
      · subst hk; rw [if_pos rfl, if_neg (fun e => h e.symm), if_pos rfl]
      · rw [if_neg hk, if_neg hk]
mutual
def VRep (H : AHeap) (X : Nat → Prop) (β : Nat → Nat) : VV → AVal → Prop
  | .d x, a => Rep H X x a
  | .agg l, a => ∃ cs, a = .agg cs ∧ VReps H X β l cs
  | .tuple l, a => ∃ cs, a = .tuple cs ∧ VReps H X β l cs
  | .vp b off, a => a = .ptr (β b) 1 off
  | .bp b g q off es, a => a = .ptr (β b) g (q * es + off)
  | .rp row off, a => ∃ f g Q l, a = .ptr f g (Q * l.length + off) ∧ CellsAt H f g Q l ∧ RepCells H X row l ∧ ¬ X f ∧ f < H.next
  | .bs b n es, a => a = .slice (β b) n 0 n es
  | .ac b n es, a => (n = 0 ∧ a = .nilslice) ∨ (0 < n ∧ a = .slice (β b) n 0 n es)
  | .undef, _ => True
def VReps (H : AHeap) (X : Nat → Prop) (β : Nat → Nat) : List VV → List AVal → Prop
  | [], l => l = []
  | v :: r, l => ∃ a s, l = a :: s ∧ VRep H X β v a ∧ VReps H X β r s
end
mutual
def VV.nb : VV → Prop
  | .d _ => True
  | .agg l => nbs l
  | .tuple l => nbs l
  | .vp _ _ => False
  | .bp _ _ _ _ _ => False
  | .rp _ _ => True
  | .bs _ _ _ => False
  | .ac _ _ _ => False
  | .undef => True
def nbs : List VV → Prop
  | [] => True
  | v :: r => v.nb ∧ nbs r
end
mutual
def VV.no (b : Nat) : VV → Bool
  | .d _ => true
  | .agg l => nos b l
  | .tuple l => nos b l
  | .vp c _ => !Nat.beq c b
  | .bp c _ _ _ _ => !Nat.beq c b
  | .rp _ _ => true
  | .bs c _ _ => !Nat.beq c b
  | .ac c _ _ => !Nat.beq c b
  | .undef => true
def nos (b : Nat) : List VV → Bool
  | [] => true
  | v :: r => v.no b && nos b r
end
def BS.no (b : Nat) : BS → Bool
  | .one _ _ row => nos b row
  | .arr _ _ _ _ _ => true
  | .acc _ _ _ _ => true
def noE (b : Nat) : VEnv → Bool
  | [] => true
  | (_, v) :: r => v.no b && noE b r
def noB (b : Nat) : BEnv → Bool
  | [] => true
  | (c, s) :: r => !Nat.beq c b && s.no b && noB b r
section
variable {H H' : AHeap} {X X' : Nat → Prop} {β β' : Nat → Nat}
theorem beq_no {c b : Nat} (h : (!Nat.beq c b) = true) : c ≠ b := by
  rintro rfl
  rw [show Nat.beq c c = true from Nat.beq_refl c] at h
  cases h
mutual
theorem VRep.lift (hs : Lift H X H' X') : ∀ {v : VV} {a : AVal}, VRep H X β v a → VRep H' X' β v a
  | .d x, _, h => by simp only [VRep] at h ⊢; exact Rep.lift hs h
  | .agg l, _, h => by
    simp only [VRep] at h ⊢
    obtain ⟨cs, e, h⟩ := h
    exact ⟨cs, e, VReps.lift hs h⟩
  | .tuple l, _, h => by
    simp only [VRep] at h ⊢
    obtain ⟨cs, e, h⟩ := h
    exact ⟨cs, e, VReps.lift hs h⟩
  | .vp b off, _, h => by simp only [VRep] at h ⊢; exact h
  | .bp b g q off es, _, h => by simp only [VRep] at h ⊢; exact h
  | .rp row off, _, h => by
    simp only [VRep] at h ⊢
    obtain ⟨f, g, Q, l, e, h1, h2, h3, h4⟩ := h
    exact ⟨f, g, Q, l, e, h1.keep (hs.same f h4 h3).2, RepCells.lift hs h2, (hs.same f h4 h3).1, Nat.lt_of_lt_of_le h4 hs.next⟩
  | .bs b n es, _, h => by simp only [VRep] at h ⊢; exact h
  | .ac b n es, _, h => by simp only [VRep] at h ⊢; exact h
  | .undef, _, _ => by simp only [VRep]
theorem VReps.lift (hs : Lift H X H' X') : ∀ {l : List VV} {s : List AVal}, VReps H X β l s → VReps H' X' β l s
  | [], _, h => by simp only [VReps] at h ⊢; exact h
  | v :: r, _, h => by
    simp only [VReps] at h ⊢
    obtain ⟨a, s, e, h1, h2⟩ := h
    exact ⟨a, s, e, VRep.lift hs h1, VReps.lift hs h2⟩
end
mutual
theorem VRep.nb : ∀ {v : VV} {a : AVal}, v.nb → VRep H X β v a → VRep H X β' v a
  | .d x, _, _, h => by simp only [VRep] at h ⊢; exact h
  | .agg l, _, n, h => by
    simp only [VRep, VV.nb] at h n ⊢
    obtain ⟨cs, e, h⟩ := h
    exact ⟨cs, e, VReps.nb n h⟩
  | .tuple l, _, n, h => by
    simp only [VRep, VV.nb] at h n ⊢
    obtain ⟨cs, e, h⟩ := h
    exact ⟨cs, e, VReps.nb n h⟩
  | .vp b off, _, n, _ => by simp only [VV.nb] at n
  | .bp b g q off es, _, n, _ => by simp only [VV.nb] at n
  | .rp row off, _, _, h => by simp only [VRep] at h ⊢; exact h
  | .bs b m es, _, n, _ => by simp only [VV.nb] at n
  | .ac b m es, _, n, _ => by simp only [VV.nb] at n
  | .undef, _, _, _ => by simp only [VRep]
theorem VReps.nb : ∀ {l : List VV} {s : List AVal}, nbs l → VReps H X β l s → VReps H X β' l s
  | [], _, _, h => by simp only [VReps] at h ⊢; exact h
  | v :: r, _, n, h => by
    simp only [VReps, nbs] at h n ⊢
    obtain ⟨a, s, e, h1, h2⟩ := h
    exact ⟨a, s, e, VRep.nb n.1 h1, VReps.nb n.2 h2⟩
end
mutual
theorem VRep.no {b f : Nat} : ∀ {v : VV} {a : AVal}, v.no b = true → VRep H X β v a → VRep H X (fun c => if c = b then f else β c) v a
  | .d x, _, _, h => by simp only [VRep] at h ⊢; exact h
  | .agg l, _, n, h => by
    simp only [VRep, VV.no] at h n ⊢
    obtain ⟨cs, e, h⟩ := h
    exact ⟨cs, e, VReps.no n h⟩
  | .tuple l, _, n, h => by
    simp only [VRep, VV.no] at h n ⊢
    obtain ⟨cs, e, h⟩ := h
    exact ⟨cs, e, VReps.no n h⟩
  | .vp c off, _, n, h => by simp only [VRep, VV.no] at h n ⊢; rw [if_neg (beq_no n)]; exact h
  | .bp c g q off es, _, n, h => by simp only [VRep, VV.no] at h n ⊢; rw [if_neg (beq_no n)]; exact h
  | .rp row off, _, _, h => by simp only [VRep] at h ⊢; exact h
  | .bs c m es, _, n, h => by simp only [VRep, VV.no] at h n ⊢; rw [if_neg (beq_no n)]; exact h
  | .ac c m es, _, n, h => by simp only [VRep, VV.no] at h n ⊢; rw [if_neg (beq_no n)]; exact h
  | .undef, _, _, _ => by simp only [VRep]
theorem VReps.no {b f : Nat} : ∀ {l : List VV} {s : List AVal}, nos b l = true → VReps H X β l s → VReps H X (fun c => if c = b then f else β c) l s
  | [], _, _, h => by simp only [VReps] at h ⊢; exact h
  | v :: r, _, n, h => by
    simp only [VReps, nos, Bool.and_eq_true] at h n ⊢
    obtain ⟨a, s, e, h1, h2⟩ := h
    exact ⟨a, s, e, VRep.no n.1 h1, VReps.no n.2 h2⟩
end
theorem VReps.length : ∀ {l : List VV} {s : List AVal}, VReps H X β l s → s.length = l.length
  | [], _, h => by simp only [VReps] at h; subst h; rfl
  | v :: r, _, h => by
    simp only [VReps] at h
    obtain ⟨a, s, rfl, _, h2⟩ := h
    simp [VReps.length h2]
theorem VReps.get : ∀ {l : List VV} {s : List AVal}, VReps H X β l s → ∀ {i : Nat} {v : VV}, l[i]? = some v → ∃ a, s[i]? = some a ∧ VRep H X β v a
  | [], _, _, i, v, hi => by simp at hi
  | x :: r, _, h, i, v, hi => by
    simp only [VReps] at h
    obtain ⟨a, s, rfl, h1, h2⟩ := h
    cases i with
    | zero => simp at hi; subst hi; exact ⟨a, rfl, h1⟩
    | succ i => simpa using VReps.get h2 (i := i) (v := v) (by simpa using hi)
theorem VReps.append : ∀ {l m : List VV} {s t : List AVal}, VReps H X β l s → VReps H X β m t → VReps H X β (l ++ m) (s ++ t)
  | [], _, _, _, h, k => by simp only [VReps] at h; subst h; exact k
  | x :: r, _, _, _, h, k => by
    simp only [VReps] at h
    obtain ⟨a, s, rfl, h1, h2⟩ := h
    simp only [List.cons_append, VReps]
    exact ⟨a, _, rfl, h1, VReps.append h2 k⟩
theorem VReps.drop : ∀ {l : List VV} {s : List AVal} (n : Nat), VReps H X β l s → VReps H X β (l.drop n) (s.drop n)
  | _, _, 0, h => h
  | [], _, n + 1, h => by simp only [VReps] at h; subst h; simp [VReps]
  | x :: r, _, n + 1, h => by
    simp only [VReps] at h
    obtain ⟨a, s, rfl, _, h2⟩ := h
    simpa using VReps.drop n h2
theorem VReps.take : ∀ {l : List VV} {s : List AVal} (n : Nat), VReps H X β l s → VReps H X β (l.take n) (s.take n)
  | _, _, 0, h => by simp [VReps]
  | [], _, n + 1, h => by simp only [VReps] at h; subst h; simp [VReps]
  | x :: r, _, n + 1, h => by
    simp only [VReps] at h
    obtain ⟨a, s, rfl, h1, h2⟩ := h
    simp only [List.take_succ_cons, VReps]
    exact ⟨a, _, rfl, h1, VReps.take n h2⟩
theorem VReps.of_cells : ∀ {row : List DC} {l : List AVal}, RepCells H X row l → VReps H X β (row.map .d) l
  | [], _, h => by simp only [RepCells] at h; subst h; simp [VReps]
  | d :: r, _, h => by
    simp only [RepCells] at h
    obtain ⟨a, s, rfl, h1, h2⟩ := h
    simp only [List.map_cons, VReps, VRep]
    exact ⟨a, s, rfl, h1, VReps.of_cells h2⟩
theorem RepCells.of_vals : ∀ {row : List DC} {l : List AVal}, VReps H X β (row.map .d) l → RepCells H X row l
  | [], _, h => by simpa [VReps, RepCells] using h
  | d :: r, _, h => by
    simp only [List.map_cons, VReps, VRep] at h
    obtain ⟨a, s, rfl, h1, h2⟩ := h
    simp only [RepCells]
    exact ⟨a, s, rfl, h1, RepCells.of_vals h2⟩
end
def XB (X0 : Nat → Prop) (B : BEnv) (β : Nat → Nat) (f : Nat) : Prop := X0 f ∨ ∃ b s, getL B b = some s ∧ s.born ∧ β b = f
def BoxOk (H : AHeap) (X : Nat → Prop) (β : Nat → Nat) (f : Nat) : BS → Prop
  | .one elem bts row => ∃ l lo cs, H.t.get f = some (.row elem l.length bts 1 lo 0 cs) ∧ lo ≤ 1 ∧ cs.get 0 = some l ∧ VReps H X β row l
  | .arr elem bts es lo rows => ∃ lo' cs, H.t.get f = some (.row elem es bts rows.length lo' 0 cs) ∧ lo' ≤ lo ∧ lo ≤ rows.length ∧ ∀ q row, rows[q]? = some row → ∃ l, cs.get q = some l ∧ l.length = es ∧ RepCells H X row l
  | .acc elem bts es rows => rows = [] ∨ ∃ lo cs, H.t.get f = some (.row elem es bts rows.length lo 0 cs) ∧ lo ≤ rows.length ∧ ∀ q row, rows[q]? = some row → ∃ l, cs.get q = some l ∧ l.length = es ∧ RepCells H X row l
structure Rel (H0 : AHeap) (X0 : Nat → Prop) (VE : VEnv) (B : BEnv) (E : Env) (H : AHeap) (β : Nat → Nat) : Prop where
  next : H0.next ≤ H.next
  same : ∀ f, f < H0.next → H.t.get f = H0.t.get f
  mrk : H.mrk ≤ H.next
  x0 : ∀ f, X0 f → f < H0.next
  new : ∀ b s, getL B b = some s → s.born → H0.next ≤ β b ∧ β b < H.next
  inj : ∀ b c s t, getL B b = some s → getL B c = some t → s.born → t.born → β b = β c → b = c
  env : ∀ k v, getL VE (Key.n k) = some v → ∃ a, E.get k = some a ∧ VRep H (XB X0 B β) β v a
  box : ∀ b s, getL B b = some s → BoxOk H (XB X0 B β) β (β b) s
theorem BoxOk.lift {H H' : AHeap} {X X' : Nat → Prop} {β : Nat → Nat} (hs : Lift H X H' X') {f : Nat} (hf : H'.t.get f = H.t.get f) : ∀ {s : BS}, BoxOk H X β f s → BoxOk H' X' β f s
  | .one _ _ _, h => by
    obtain ⟨l, lo, cs, h1, h2, h3, h4⟩ := h
    exact ⟨l, lo, cs, hf.trans h1, h2, h3, VReps.lift hs h4⟩
  | .arr _ _ _ _ _, h => by
    obtain ⟨lo', cs, h1, h2, h3, h4⟩ := h
    refine ⟨lo', cs, hf.trans h1, h2, h3, fun q row hq => ?_⟩
    obtain ⟨l, k1, k2, k3⟩ := h4 q row hq
    exact ⟨l, k1, k2, RepCells.lift hs k3⟩
  | .acc _ _ _ _, h => by
    rcases h with h | ⟨lo', cs, h1, h2, h4⟩
    · exact .inl h
    refine .inr ⟨lo', cs, hf.trans h1, h2, fun q row hq => ?_⟩
    obtain ⟨l, k1, k2, k3⟩ := h4 q row hq
    exact ⟨l, k1, k2, RepCells.lift hs k3⟩
theorem BoxOk.unborn {H : AHeap} {X : Nat → Prop} {β : Nat → Nat} {f : Nat} : ∀ {s : BS}, ¬ s.born → BoxOk H X β f s
  | .one _ _ _, h => absurd trivial h
  | .arr _ _ _ _ _, h => absurd trivial h
  | .acc _ _ _ rows, h => .inl (by
    cases rows with
    | nil => rfl
    | cons x r => exact absurd (fun e : x :: r = [] => by cases e) h)
theorem BoxOk.lift' {H H' : AHeap} {X X' : Nat → Prop} {β : Nat → Nat} (hs : Lift H X H' X') {f : Nat} {s : BS} (hf : s.born → H'.t.get f = H.t.get f) (h : BoxOk H X β f s) : BoxOk H' X' β f s := by
  by_cases hb : s.born
  · exact h.lift hs (hf hb)
  · exact .unborn hb
section
variable {T : Tab} {H0 : AHeap} {X0 : Nat → Prop} {VE : VEnv} {B : BEnv} {E : Env} {H : AHeap} {β : Nat → Nat}
theorem Rel.grow (h : Rel H0 X0 VE B E H β) {H' : AHeap} (hn : H.next ≤ H'.next) (hs : ∀ f, f < H.next → H'.t.get f = H.t.get f) (hm : H'.mrk ≤ H'.next) : Rel H0 X0 VE B E H' β := by
  have hl : Lift H (XB X0 B β) H' (XB X0 B β) := ⟨hn, fun f hf hx => ⟨hx, hs f hf⟩⟩
  refine ⟨Nat.le_trans h.next hn, fun f hf => (hs f (Nat.lt_of_lt_of_le hf h.next)).trans (h.same f hf), hm, h.x0, fun b s hb ho => ⟨(h.new b s hb ho).1, Nat.lt_of_lt_of_le (h.new b s hb ho).2 hn⟩, h.inj, fun k v hk => ?_, fun b s hb => (h.box b s hb).lift' hl fun ho => hs _ (h.new b s hb ho).2⟩
  obtain ⟨a, h1, h2⟩ := h.env k v hk
  exact ⟨a, h1, h2.lift hl⟩
theorem Rel.set (h : Rel H0 X0 VE B E H β) {d : Key} {v : VV} {a : AVal} (hv : VRep H (XB X0 B β) β v a) : Rel H0 X0 ((d.n, v) :: VE) B (E.set d a) H β := by
  refine { h with env := fun k w hk => ?_ }
  rw [getL_cons] at hk
  rw [Env.get_set]
  by_cases e : d.n = k.n
  · rw [if_pos e] at hk
    cases hk
    exact ⟨a, by rw [if_pos (Key.inj e).symm], hv⟩
  · rw [if_neg e] at hk
    rw [if_neg (fun e' => e (by rw [e']))]
    exact h.env k w hk
theorem Rel.less (h : Rel H0 X0 VE B E H β) {VE' : VEnv} (hs : ∀ k v, getL VE' k = some v → getL VE k = some v) : Rel H0 X0 VE' B E H β :=
  { h with env := fun k v hk => h.env k v (hs _ v hk) }
theorem Rel.drop (h : Rel H0 X0 VE B E H β) (b : Nat) : Rel H0 X0 VE (delL B b) E H β := by
  have hd : ∀ c s, getL (delL B b) c = some s → getL B c = some s ∧ b ≠ c := fun c s hc => by
    rw [getL_del] at hc
    by_cases e : b = c
    · rw [if_pos e] at hc; cases hc
    · rw [if_neg e] at hc; exact ⟨hc, e⟩
  have hl : Lift H (XB X0 B β) H (XB X0 (delL B b) β) := ⟨Nat.le_refl _, fun f _ hx => ⟨fun k => hx (k.imp id fun ⟨c, s, h1, h2⟩ => ⟨c, s, (hd c s h1).1, h2⟩), rfl⟩⟩
  refine ⟨h.next, h.same, h.mrk, h.x0, fun c s hc ho => h.new c s (hd c s hc).1 ho, fun c e s t hc he hs ht => h.inj c e s t (hd c s hc).1 (hd e t he).1 hs ht, fun k v hk => ?_, fun c s hc => (h.box c s (hd c s hc).1).lift hl rfl⟩
  obtain ⟨a, h1, h2⟩ := h.env k v hk
  exact ⟨a, h1, h2.lift hl⟩
theorem noE_get {b : Nat} : ∀ {VE : VEnv}, noE b VE = true → ∀ {k : Nat} {v : VV}, getL VE k = some v → v.no b = true
  | [], _, _, _, h => by cases h
  | (i, w) :: r, hn, k, v, h => by
    simp only [noE, Bool.and_eq_true] at hn
    rw [getL_cons] at h
    by_cases e : i = k
    · rw [if_pos e] at h; cases h; exact hn.1
    · rw [if_neg e] at h; exact noE_get hn.2 h
theorem noB_get {b : Nat} : ∀ {B : BEnv}, noB b B = true → ∀ {c : Nat} {s : BS}, getL B c = some s → c ≠ b ∧ s.no b = true
  | [], _, _, _, h => by cases h
  | (i, w) :: r, hn, c, s, h => by
    simp only [noB, Bool.and_eq_true] at hn
    rw [getL_cons] at h
    by_cases e : i = c
    · rw [if_pos e] at h; cases h; exact ⟨e ▸ beq_no hn.1.1, hn.1.2⟩
    · rw [if_neg e] at h; exact noB_get hn.2 h
theorem Rel.newBox (h : Rel H0 X0 VE B E H β) {b : Nat} (hE : noE b VE = true) (hB : noB b B = true) {H' : AHeap} (hn : H'.next = H.next + 1) (hs : ∀ f, f < H.next → H'.t.get f = H.t.get f) (hm : H'.mrk = H.mrk) {s : BS}
    (hbox : ∀ X β', (∀ v a, v.no b = true → VRep H (XB X0 B β) β v a → VRep H' X β' v a) → (∀ row l, RepCells H (XB X0 B β) row l → RepCells H' X row l) → BoxOk H' X β' H.next s) :
    ∃ β', β' b = H.next ∧ Rel H0 X0 VE ((b, s) :: B) E H' β' ∧ ∀ v a, v.no b = true → VRep H (XB X0 B β) β v a → VRep H' (XB X0 ((b, s) :: B) β') β' v a := by
  let β' : Nat → Nat := fun c => if c = b then H.next else β c
  have hβ : β' b = H.next := if_pos rfl
  have hβn : ∀ c, c ≠ b → β' c = β c := fun c hc => if_neg hc
  have hg : ∀ c t, getL ((b, s) :: B) c = some t → (c = b ∧ t = s) ∨ (c ≠ b ∧ getL B c = some t ∧ t.no b = true) := fun c t hc => by
    rw [getL_cons] at hc
    by_cases e : b = c
    · rw [if_pos e] at hc; cases hc; exact .inl ⟨e.symm, rfl⟩
    · rw [if_neg e] at hc
      exact .inr ⟨fun k => e k.symm, hc, (noB_get hB hc).2⟩
  have hl : Lift H (XB X0 B β) H' (XB X0 ((b, s) :: B) β') := ⟨by omega, fun f hf hx => ⟨fun k => by
    rcases k with k | ⟨c, t, h1, ho, h2⟩
    · exact hx (.inl k)
    · rcases hg c t h1 with ⟨rfl, rfl⟩ | ⟨hc, h3, _⟩
      · rw [hβ] at h2; omega
      · exact hx (.inr ⟨c, t, h3, ho, by rw [← h2, hβn c hc]⟩), hs f hf⟩⟩
  have hv : ∀ v a, v.no b = true → VRep H (XB X0 B β) β v a → VRep H' (XB X0 ((b, s) :: B) β') β' v a := fun v a hno hr => (VRep.no hno hr).lift hl
  have hc : ∀ row l, RepCells H (XB X0 B β) row l → RepCells H' (XB X0 ((b, s) :: B) β') row l := fun row l hr => hr.lift hl
  refine ⟨β', hβ, ⟨by have := h.next; omega, fun f hf => (hs f (Nat.lt_of_lt_of_le hf h.next)).trans (h.same f hf), by have := h.mrk; omega, h.x0, fun c t hct hot => ?_, fun c e t u hct heu hot hou hce => ?_, fun k v hk => ?_, fun c t hct => ?_⟩, hv⟩
  · rcases hg c t hct with ⟨rfl, rfl⟩ | ⟨hcb, h3, _⟩
    · rw [hβ]; have := h.next; omega
    · rw [hβn c hcb]; have := h.new c t h3 hot; omega
  · rcases hg c t hct with ⟨rfl, rfl⟩ | ⟨hcb, h3, _⟩ <;> rcases hg e u heu with ⟨rfl, rfl⟩ | ⟨heb, h4, _⟩
    · rfl
    · rw [hβ, hβn e heb] at hce; have := h.new e u h4 hou; omega
    · rw [hβ, hβn c hcb] at hce; have := h.new c t h3 hot; omega
    · rw [hβn c hcb, hβn e heb] at hce; exact h.inj c e t u h3 h4 hot hou hce
  · obtain ⟨a, h1, h2⟩ := h.env k v hk
    exact ⟨a, h1, hv v a (noE_get hE hk) h2⟩
  · rcases hg c t hct with ⟨rfl, rfl⟩ | ⟨hcb, h3, hno⟩
    · rw [hβ]; exact hbox _ _ hv hc
    · rw [hβn c hcb]
      have ho := h.box c t h3
      have hsame : t.born → H'.t.get (β c) = H.t.get (β c) := fun ho => hs _ (h.new c t h3 ho).2
      cases t with
      | one elem bts row =>
        obtain ⟨l, lo, cs, k1, k2, k3, k4⟩ := ho
        exact ⟨l, lo, cs, (hsame trivial).trans k1, k2, k3, (VReps.no hno k4).lift hl⟩
      | arr elem bts es lo rows => exact BoxOk.lift' (X := XB X0 B β) (β := β') hl hsame ho
      | acc elem bts es rows => exact BoxOk.lift' (X := XB X0 B β) (β := β') hl hsame ho
end
end Go.Ev
namespace Go.Ev
section
variable {T : Tab}
theorem wpI.mono {op : Ins} {E : Env} {H : AHeap} {Q Q' : AVal → AHeap → Prop} (h : wpI T op E H Q) (k : ∀ v H', Q v H' → Q' v H') : wpI T op E H Q' :=
  let ⟨N, v, H', a, b⟩ := h; ⟨N, v, H', a, k _ _ b⟩
theorem wpO.mono {ops : List IOp} {E : Env} {H : AHeap} {Q Q' : Env → AHeap → Prop} (h : wpO T ops E H Q) (k : ∀ v H', Q v H' → Q' v H') : wpO T ops E H Q' :=
  let ⟨N, v, H', a, b⟩ := h; ⟨N, v, H', a, k _ _ b⟩
theorem wpQ.mono {ops : List IOp} {E : Env} {H : AHeap} {r : List FP} {Q Q' : Env → AHeap → Prop} (h : wpQ T ops E H r Q) (k : ∀ v H', Q v H' → Q' v H') : wpQ T ops E H r Q' :=
  let ⟨N, v, H', a, b⟩ := h; ⟨N, v, H', a, k _ _ b⟩
def IPost (H0 : AHeap) (X0 : Nat → Prop) (VE : VEnv) (E : Env) (H : AHeap) (q : Bool) (Q : VV → BEnv → Prop) (a : AVal) (H' : AHeap) : Prop :=
  H'.mrk = H.mrk ∧ (q = true → H'.ws = H.ws) ∧ ((∀ f, f ∈ H'.ws → f ∈ H.ws ∨ H0.next ≤ f) ∧ (H.mrk ≤ H0.next → H'.ws = H.ws)) ∧ ∃ v B' β', Rel H0 X0 VE B' E H' β' ∧ VRep H' (XB X0 B' β') β' v a ∧ Q v B'
def VI (T : Tab) (op : Ins) (VE : VEnv) (B : BEnv) (q : Bool) (Q : VV → BEnv → Prop) : Prop :=
  ∀ H0 X0 E H β, Rel H0 X0 VE B E H β → wpI T op E H (IPost H0 X0 VE E H q Q)
def OPost (H0 : AHeap) (X0 : Nat → Prop) (H : AHeap) (Q : VEnv → BEnv → Prop) (E' : Env) (H' : AHeap) : Prop :=
  H'.mrk = H.mrk ∧ H'.ws = H.ws ∧ ∃ VE' B' β', Rel H0 X0 VE' B' E' H' β' ∧ Q VE' B'
def VO (T : Tab) (ops : List IOp) (VE : VEnv) (B : BEnv) (Q : VEnv → BEnv → Prop) : Prop :=
  ∀ H0 X0 E H β, H.mrk ≤ H0.next → Rel H0 X0 VE B E H β → wpO T ops E H (OPost H0 X0 H Q)
def VQ (T : Tab) (ops : List IOp) (VE : VEnv) (B : BEnv) (fl : List Bool) (Q : VEnv → BEnv → Prop) : Prop :=
  ∀ H0 X0 E H β, H.mrk ≤ H0.next → Rel H0 X0 VE B E H β → ∀ recs : List FP, recs.length = fl.length → (∀ i : Nat, fl[i]? = some true → ∀ b, recs[i]? = some b → b.ws = []) → wpQ T ops E H recs (OPost H0 X0 H Q)
def VC (T : Tab) (c : IC) (VE : VEnv) (B : BEnv) (Q : Ex → VEnv → BEnv → Prop) : Prop :=
  ∀ H0 X0 E H β, H.mrk ≤ H0.next → Rel H0 X0 VE B E H β → wpC T c E H fun x => OPost H0 X0 H (Q x)
variable {VE VE' : VEnv} {B B' : BEnv}
theorem OPost.of {H0 : AHeap} {X0 : Nat → Prop} {H H1 : AHeap} {Q : VEnv → BEnv → Prop} {E' : Env} {H' : AHeap} (h : OPost H0 X0 H1 Q E' H') (hm : H1.mrk = H.mrk) (hw : H1.ws = H.ws) : OPost H0 X0 H Q E' H' :=
  ⟨h.1.trans hm, h.2.1.trans hw, h.2.2⟩
variable {Q : VEnv → BEnv → Prop}
theorem vo_nil (h : Q VE B) : VO T [] VE B Q := fun _ _ _ _ β _ hr => wpO_nil ⟨rfl, rfl, VE, B, β, hr, h⟩
theorem vo_op {d : Key} {qq : Option (List Nat)} {op : Ins} {r : List IOp} {q : Bool} (h : VI T op VE B q fun v B' => VO T r ((d.n, v) :: VE) B' Q) : VO T (⟨some d, none, qq, op⟩ :: r) VE B Q := by
  intro H0 X0 E H β hm hr
  refine wpO_cons ((h H0 X0 E H β hr).mono fun a H' hp => ?_)
  obtain ⟨h1, _, ⟨_, h3⟩, v, B', β', hr', hv, hq⟩ := hp
  exact (hq H0 X0 _ H' β' (by omega) (hr'.set hv)).mono fun _ _ hp => hp.of h1 (h3 hm)
theorem vo_opN {qq : Option (List Nat)} {op : Ins} {r : List IOp} {q : Bool} (h : VI T op VE B q fun _ B' => VO T r VE B' Q) : VO T (⟨none, none, qq, op⟩ :: r) VE B Q := by
  intro H0 X0 E H β hm hr
  refine wpO_consN ((h H0 X0 E H β hr).mono fun a H' hp => ?_)
  obtain ⟨h1, _, ⟨_, h3⟩, v, B', β', hr', hv, hq⟩ := hp
  exact (hq H0 X0 _ H' β' (by omega) hr').mono fun _ _ hp => hp.of h1 (h3 hm)
theorem Rel.bool {H0 : AHeap} {X0 : Nat → Prop} {E : Env} {H : AHeap} {β : Nat → Nat} (hr : Rel H0 X0 VE B E H β) {g : Key} {t : Bool} (hg : getL VE g.n = some (.d (.b t))) : E.get g = some (.bool t) := by
  obtain ⟨a, h1, h2⟩ := hr.env g _ hg
  simp only [VRep, Rep] at h2
  rw [h1, h2]
theorem vo_skip {d g : Key} {want t : Bool} {qq : Option (List Nat)} {op : Ins} {r : List IOp} (hg : getL VE g.n = some (.d (.b t))) (ht : t = !want) (h : VO T r ((d.n, .undef) :: VE) B Q) : VO T (⟨some d, some (g, want), qq, op⟩ :: r) VE B Q := by
  intro H0 X0 E H β hm hr
  refine wpO_skip (hr.bool hg) (by rw [ht]; cases want <;> decide) ?_
  exact h H0 X0 _ H β hm (hr.set (by simp only [VRep]))
theorem vo_want {d g : Key} {want : Bool} {qq : Option (List Nat)} {op : Ins} {r : List IOp} {q : Bool} (hg : getL VE g.n = some (.d (.b want))) (h : VI T op VE B q fun v B' => VO T r ((d.n, v) :: VE) B' Q) : VO T (⟨some d, some (g, want), qq, op⟩ :: r) VE B Q := by
  intro H0 X0 E H β hm hr
  refine wpO_want (hr.bool hg) ((h H0 X0 E H β hr).mono fun a H' hp => ?_)
  obtain ⟨h1, _, ⟨_, h3⟩, v, B', β', hr', hv, hq⟩ := hp
  exact (hq H0 X0 _ H' β' (by omega) (hr'.set hv)).mono fun _ _ hp => hp.of h1 (h3 hm)
theorem vo_less {ops : List IOp} (hs : ∀ k v, getL VE' k = some v → getL VE k = some v) (h : VO T ops VE' B Q) : VO T ops VE B Q :=
  fun H0 X0 E H β hm hr => h H0 X0 E H β hm (hr.less hs)
theorem vo_drop {ops : List IOp} (b : Nat) (h : VO T ops VE (delL B b) Q) : VO T ops VE B Q :=
  fun H0 X0 E H β hm hr => h H0 X0 E H β hm (hr.drop b)
theorem vq_nil {fl : List Bool} (h : Q VE B) : VQ T [] VE B fl Q := fun _ _ _ _ β _ hr _ _ _ => ⟨0, _, _, fun _ _ _ _ => rfl, rfl, rfl, VE, B, β, hr, h⟩
theorem vq_op {fl : List Bool} {d : Key} {op : Ins} {r : List IOp} {q : Bool} (h : VI T op VE B q fun v B' => VQ T r ((d.n, v) :: VE) B' fl Q) : VQ T (⟨some d, none, none, op⟩ :: r) VE B fl Q := by
  intro H0 X0 E H β hm hr recs hl hf
  obtain ⟨N, a, H', e, h1, _, ⟨_, h3⟩, v, B', β', hr', hv, hq⟩ := h H0 X0 E H β hr
  obtain ⟨N2, E2, H2, e2, hp⟩ := hq H0 X0 _ H' β' (by omega) (hr'.set hv) recs hl hf
  refine ⟨max N N2, E2, H2, fun lf n a1 a2 => ?_, hp.of h1 (h3 hm)⟩
  show IOp.stepQ (T.call lf n) ⟨some d, none, none, op⟩ E H recs (evOpsQ (T.call lf n) r) = _
  rw [stepQ_none, runP_plain rfl, e lf n (by omega) (by omega), fin_some]
  exact e2 lf n (by omega) (by omega)
theorem vq_want {fl : List Bool} {d g : Key} {want : Bool} {op : Ins} {r : List IOp} {q : Bool} (hg : getL VE g.n = some (.d (.b want))) (h : VI T op VE B q fun v B' => VQ T r ((d.n, v) :: VE) B' fl Q) : VQ T (⟨some d, some (g, want), none, op⟩ :: r) VE B fl Q := by
  intro H0 X0 E H β hm hr recs hl hf
  obtain ⟨N, a, H', e, h1, _, ⟨_, h3⟩, v, B', β', hr', hv, hq⟩ := h H0 X0 E H β hr
  obtain ⟨N2, E2, H2, e2, hp⟩ := hq H0 X0 _ H' β' (by omega) (hr'.set hv) recs hl hf
  refine ⟨max N N2, E2, H2, fun lf n a1 a2 => ?_, hp.of h1 (h3 hm)⟩
  show IOp.stepQ (T.call lf n) ⟨some d, some (g, want), none, op⟩ E H recs (evOpsQ (T.call lf n) r) = _
  rw [stepQ_guard (hr.bool hg), if_pos rfl, runP_plain rfl, e lf n (by omega) (by omega), fin_some]
  exact e2 lf n (by omega) (by omega)
theorem vq_skip {fl : List Bool} {d g : Key} {want t : Bool} {op : Ins} {r : List IOp} (hg : getL VE g.n = some (.d (.b t))) (ht : t = !want) (h : VQ T r ((d.n, .undef) :: VE) B fl Q) : VQ T (⟨some d, some (g, want), none, op⟩ :: r) VE B fl Q := by
  intro H0 X0 E H β hm hr recs hl hf
  obtain ⟨N2, E2, H2, e2, hp⟩ := h H0 X0 _ H β hm (hr.set (d := d) (v := .undef) (a := .undef) (by simp only [VRep])) recs hl hf
  refine ⟨N2, E2, H2, fun lf n a1 a2 => ?_, hp⟩
  show IOp.stepQ (T.call lf n) ⟨some d, some (g, want), none, op⟩ E H recs (evOpsQ (T.call lf n) r) = _
  rw [stepQ_guard (hr.bool hg), if_neg (by rw [ht]; cases want <;> decide)]
  exact e2 lf n a1 a2
theorem vq_skipM {fl : List Bool} {d g : Key} {want t : Bool} {l : List Nat} {op : Ins} {r : List IOp} (hg : getL VE g.n = some (.d (.b t))) (ht : t = !want) (h : VQ T r ((d.n, .undef) :: VE) B (true :: fl) Q) : VQ T (⟨some d, some (g, want), some l, op⟩ :: r) VE B fl Q := by
  intro H0 X0 E H β hm hr recs hl hf
  obtain ⟨N2, E2, H2, e2, hp⟩ := h H0 X0 _ H β hm (hr.set (d := d) (v := .undef) (a := .undef) (by simp only [VRep])) (⟨some [], [], 0, 0⟩ :: recs) (by simp [hl]) (fun i hi b hb => by
    cases i with
    | zero => simp at hb; rw [← hb]
    | succ i => exact hf i (by simpa using hi) b (by simpa using hb))
  refine ⟨N2, E2, H2, fun lf n a1 a2 => ?_, hp⟩
  show IOp.stepQ (T.call lf n) ⟨some d, some (g, want), some l, op⟩ E H recs (evOpsQ (T.call lf n) r) = _
  rw [stepQ_guard (hr.bool hg), if_neg (by rw [ht]; cases want <;> decide)]
  exact e2 lf n a1 a2
theorem mergeWs_hi {mrk : Nat} {ws : List Nat} : ∀ {new : List Nat}, (∀ f, f ∈ new → mrk ≤ f) → mergeWs mrk ws new = ws
  | [], _ => rfl
  | f :: r, h => by
    show wrote f mrk (mergeWs mrk ws r) = ws
    unfold wrote
    rw [Nat.ble_eq_true_of_le (h f (List.mem_cons_self ..)), chk_true]
    exact mergeWs_hi fun g hg => h g (List.mem_cons_of_mem _ hg)
theorem runP_markA {call : CallF} {E : Env} {H : AHeap} {d : Option Key} {g : Option (Key × Bool)} {l : List Nat} {op : Ins} {recs : List FP} {K : Env → AHeap → List FP → ORes} {v : AVal} {H1 : AHeap} (h : op.ev call E H.mark = .ok v H1) (ha : apartAll ⟨op.reads E, H1.ws, H.next, H1.next⟩ recs l = true) (hw : ∀ f, f ∈ H1.ws → H.mrk ≤ f) :
    IOp.runP call ⟨d, g, some l, op⟩ E H recs K = K (putE E d v) ⟨H1.next, H.mrk, H.ws, H1.t⟩ (⟨op.reads E, H1.ws, H.next, H1.next⟩ :: recs) := by
  cases H with
  | mk next mrk ws t => cases H1 with
    | mk next' mrk' ws' t' =>
      show seqNat next (fun next => finQ (op.reads E) l next mrk ws recs d E K (op.ev call E ⟨next, next, [], t⟩)) = _
      rw [seqNat_eq]
      have h : op.ev call E ⟨next, next, [], t⟩ = .ok v ⟨next', mrk', ws', t'⟩ := h
      rw [h]
      have ha : apartAll ⟨op.reads E, ws', next, next'⟩ recs l = true := ha
      cases d with
      | none =>
        have hw : mergeWs mrk ws ws' = ws := mergeWs_hi hw
        show chk (apartAll ⟨op.reads E, ws', next, next'⟩ recs l) (K E ⟨next', mrk, mergeWs mrk ws ws', t'⟩ (⟨op.reads E, ws', next, next'⟩ :: recs)) (.err 50) = _
        rw [ha, hw]; rfl
      | some d =>
        have hw : mergeWs mrk ws ws' = ws := mergeWs_hi hw
        unfold finQ
        dsimp only
        rw [ha, chk_true, Env.setO_eq, hw]; rfl
def markOk (q : Bool) (l : List Nat) (fl : List Bool) : Bool :=
  match l with
  | [] => true
  | i :: r => q && (fl[i]? == some true) && markOk q r fl
theorem apart_of {q : Bool} {fl : List Bool} {recs : List FP} {fp : FP} (hl : recs.length = fl.length) (hf : ∀ i : Nat, fl[i]? = some true → ∀ b, recs[i]? = some b → b.ws = []) (hw : q = true → fp.ws = []) : ∀ {l : List Nat}, markOk q l fl = true → apartAll fp recs l = true
  | [], _ => rfl
  | i :: r, h => by
    simp only [markOk, Bool.and_eq_true, beq_iff_eq] at h
    obtain ⟨⟨hq, hi⟩, hr⟩ := h
    show ob (recs[i]?) false (fun b => chk (apartFP fp b) (apartAll fp recs r) false) = true
    have hil : i < recs.length := by rw [hl]; exact (List.getElem?_eq_some_iff.1 hi).1
    rw [List.getElem?_eq_getElem hil, ob_mk]
    have hb := hf i hi _ (List.getElem?_eq_getElem hil)
    have e : apartFP fp recs[i] = true := by
      unfold apartFP
      rw [hw hq, hb]
      rfl
    rw [e, chk_true]
    exact apart_of hl hf hw hr
theorem vi_mark {H0 : AHeap} {X0 : Nat → Prop} {E : Env} {H : AHeap} {β : Nat → Nat} {op : Ins} {q : Bool} {Q : VV → BEnv → Prop} (h : VI T op VE B q Q) (hm : H.mrk ≤ H0.next) (hr : Rel H0 X0 VE B E H β) :
    wpI T op E H.mark fun a H1 => (q = true → H1.ws = []) ∧ (∀ f, f ∈ H1.ws → H.mrk ≤ f) ∧ ∃ v B' β', Rel H0 X0 VE B' E ⟨H1.next, H.mrk, H.ws, H1.t⟩ β' ∧ VRep ⟨H1.next, H.mrk, H.ws, H1.t⟩ (XB X0 B' β') β' v a ∧ Q v B' := by
  have hmk : H.mark.mrk = H.next ∧ H.mark.ws = [] ∧ H.mark.next = H.next ∧ H.mark.t = H.t := by cases H; exact ⟨rfl, rfl, rfl, rfl⟩
  have hr1 : Rel H0 X0 VE B E H.mark β := hr.grow (by rw [hmk.2.2.1]; exact Nat.le_refl _) (fun f _ => by rw [hmk.2.2.2]) (by rw [hmk.1, hmk.2.2.1]; exact Nat.le_refl _)
  refine (h H0 X0 E H.mark β hr1).mono fun a H1 hp => ?_
  obtain ⟨h1, h2, ⟨h3, _⟩, v, B', β', hr', hv, hq⟩ := hp
  have hn : H.mrk ≤ H1.next := by
    have := hr.mrk
    have h4 := hr'.mrk
    rw [h1, hmk.1] at h4
    omega
  have hl : Lift H1 (XB X0 B' β') ⟨H1.next, H.mrk, H.ws, H1.t⟩ (XB X0 B' β') := ⟨Nat.le_refl _, fun _ _ hx => ⟨hx, rfl⟩⟩
  refine ⟨fun e => (h2 e).trans hmk.2.1, fun f hf => ?_, v, B', β', hr'.grow (Nat.le_refl _) (fun _ _ => rfl) hn, hv.lift hl, hq⟩
  rcases h3 f hf with h | h
  · rw [hmk.2.1] at h; cases h
  · omega
theorem vq_mark {fl : List Bool} {d : Key} {l : List Nat} {op : Ins} {r : List IOp} {q : Bool} (hk : markOk q l fl = true) (h : VI T op VE B q fun v B' => VQ T r ((d.n, v) :: VE) B' (q :: fl) Q) : VQ T (⟨some d, none, some l, op⟩ :: r) VE B fl Q := by
  intro H0 X0 E H β hm hr recs hl hf
  obtain ⟨N, a, H', e, h1, hw, v, B', β', hr', hv, hq⟩ := vi_mark h hm hr
  obtain ⟨N2, E2, H2, e2, hp⟩ := hq H0 X0 _ ⟨H'.next, H.mrk, H.ws, H'.t⟩ β' hm (hr'.set hv) (⟨op.reads E, H'.ws, H.next, H'.next⟩ :: recs) (by simp [hl]) (fun i hi b hb => by
    cases i with
    | zero => simp at hb hi; rw [← hb]; exact h1 hi
    | succ i => exact hf i (by simpa using hi) b (by simpa using hb))
  refine ⟨max N N2, E2, H2, fun lf n a1 a2 => ?_, hp.of rfl rfl⟩
  show IOp.stepQ (T.call lf n) ⟨some d, none, some l, op⟩ E H recs (evOpsQ (T.call lf n) r) = _
  rw [stepQ_none, runP_markA (e lf n (by omega) (by omega)) (apart_of hl hf h1 hk) hw]
  exact e2 lf n (by omega) (by omega)
theorem vq_markN {fl : List Bool} {l : List Nat} {op : Ins} {r : List IOp} {q : Bool} (hk : markOk q l fl = true) (h : VI T op VE B q fun _ B' => VQ T r VE B' (q :: fl) Q) : VQ T (⟨none, none, some l, op⟩ :: r) VE B fl Q := by
  intro H0 X0 E H β hm hr recs hl hf
  obtain ⟨N, a, H', e, h1, hw, v, B', β', hr', hv, hq⟩ := vi_mark h hm hr
  obtain ⟨N2, E2, H2, e2, hp⟩ := hq H0 X0 _ ⟨H'.next, H.mrk, H.ws, H'.t⟩ β' hm hr' (⟨op.reads E, H'.ws, H.next, H'.next⟩ :: recs) (by simp [hl]) (fun i hi b hb => by
    cases i with
    | zero => simp at hb hi; rw [← hb]; exact h1 hi
    | succ i => exact hf i (by simpa using hi) b (by simpa using hb))
  refine ⟨max N N2, E2, H2, fun lf n a1 a2 => ?_, hp.of rfl rfl⟩
  show IOp.stepQ (T.call lf n) ⟨none, none, some l, op⟩ E H recs (evOpsQ (T.call lf n) r) = _
  rw [stepQ_none, runP_markA (e lf n (by omega) (by omega)) (apart_of hl hf h1 hk) hw]
  exact e2 lf n (by omega) (by omega)
theorem vq_wantM {fl : List Bool} {d g : Key} {want : Bool} {l : List Nat} {op : Ins} {r : List IOp} {q : Bool} (hg : getL VE g.n = some (.d (.b want))) (hk : markOk q l fl = true) (h : VI T op VE B q fun v B' => VQ T r ((d.n, v) :: VE) B' (q :: fl) Q) : VQ T (⟨some d, some (g, want), some l, op⟩ :: r) VE B fl Q := by
  intro H0 X0 E H β hm hr recs hl hf
  obtain ⟨N, a, H', e, h1, hw, v, B', β', hr', hv, hq⟩ := vi_mark h hm hr
  obtain ⟨N2, E2, H2, e2, hp⟩ := hq H0 X0 _ ⟨H'.next, H.mrk, H.ws, H'.t⟩ β' hm (hr'.set hv) (⟨op.reads E, H'.ws, H.next, H'.next⟩ :: recs) (by simp [hl]) (fun i hi b hb => by
    cases i with
    | zero => simp at hb hi; rw [← hb]; exact h1 hi
    | succ i => exact hf i (by simpa using hi) b (by simpa using hb))
  refine ⟨max N N2, E2, H2, fun lf n a1 a2 => ?_, hp.of rfl rfl⟩
  show IOp.stepQ (T.call lf n) ⟨some d, some (g, want), some l, op⟩ E H recs (evOpsQ (T.call lf n) r) = _
  rw [stepQ_guard (hr.bool hg), if_pos rfl, runP_markA (e lf n (by omega) (by omega)) (apart_of hl hf h1 hk) hw]
  exact e2 lf n (by omega) (by omega)
variable {R : Ex → VEnv → BEnv → Prop}
theorem VC.mono {c : IC} {R' : Ex → VEnv → BEnv → Prop} (h : VC T c VE B R) (k : ∀ x VE B, R x VE B → R' x VE B) : VC T c VE B R' := fun H0 X0 E H β hm hr =>
  (h H0 X0 E H β hm hr).mono fun x _ _ hp => ⟨hp.1, hp.2.1, by obtain ⟨_, _, VE', B', β', a, b⟩ := hp; exact ⟨VE', B', β', a, k _ _ _ b⟩⟩
theorem vc_region {ops : List IOp} (h : VO T ops VE B fun VE' B' => R .normal VE' B') : VC T (.region false ops) VE B R := fun H0 X0 E H β hm hr => wpC_region (h H0 X0 E H β hm hr)
theorem vc_draw {ops : List IOp} (h : VQ T ops VE B [] fun VE' B' => R .normal VE' B') : VC T (.region true ops) VE B R := fun H0 X0 E H β hm hr => wpC_regionQ (h H0 X0 E H β hm hr [] rfl fun i hi => by simp at hi)
theorem vc_seq {a b : IC} (h : VC T a VE B fun x VE' B' => match x with | .normal => VC T b VE' B' R | x => R x VE' B') : VC T (.seq a b) VE B R := fun H0 X0 E H β hm hr => by
  refine wpC_seq ((h H0 X0 E H β hm hr).mono fun x E' H' hp => ?_)
  obtain ⟨h1, h2, VE', B', β', hr', hq⟩ := hp
  cases x with
  | normal => exact ⟨fun _ => (hq H0 X0 E' H' β' (by omega) hr').mono fun _ _ _ hp => hp.of h1 h2, fun e => absurd rfl e⟩
  | exit id => exact ⟨fun e => (by cases e), fun _ => ⟨h1, h2, VE', B', β', hr', hq⟩⟩
  | ret => exact ⟨fun e => (by cases e), fun _ => ⟨h1, h2, VE', B', β', hr', hq⟩⟩
theorem vc_skip (h : R .normal VE B) : VC T .skip VE B R := fun _ _ _ _ β _ hr => wpC_skip ⟨rfl, rfl, VE, B, β, hr, h⟩
theorem vc_exit {id : Nat} (h : R (.exit id) VE B) : VC T (.exit id) VE B R := fun _ _ _ _ β _ hr => wpC_exit ⟨rfl, rfl, VE, B, β, hr, h⟩
theorem vc_ret (h : R .ret VE B) : VC T .ret VE B R := fun _ _ _ _ β _ hr => wpC_ret ⟨rfl, rfl, VE, B, β, hr, h⟩
theorem vc_condT {k : Key} {a b : IC} (hc : getL VE k.n = some (.d (.b true))) (h : VC T a VE B R) : VC T (.cond (.t k) a b) VE B R := fun H0 X0 E H β hm hr =>
  wpC_cond (t := true) (hr.bool hc) (fun _ => h H0 X0 E H β hm hr) (fun e => by cases e)
theorem vc_condF {k : Key} {a b : IC} (hc : getL VE k.n = some (.d (.b false))) (h : VC T b VE B R) : VC T (.cond (.t k) a b) VE B R := fun H0 X0 E H β hm hr =>
  wpC_cond (t := false) (hr.bool hc) (fun e => by cases e) (fun _ => h H0 X0 E H β hm hr)
theorem vc_cond {k : Key} {a b : IC} {t : Bool} (hc : getL VE k.n = some (.d (.b t))) (h1 : t = true → VC T a VE B R) (h2 : t = false → VC T b VE B R) : VC T (.cond (.t k) a b) VE B R := fun H0 X0 E H β hm hr =>
  wpC_cond (t := t) (hr.bool hc) (fun e => h1 e H0 X0 E H β hm hr) (fun e => h2 e H0 X0 E H β hm hr)
theorem vc_block {id : Nat} {c : IC} (h : VC T c VE B fun x => R (exB id x)) : VC T (.block id c) VE B R := fun H0 X0 E H β hm hr => wpC_block (h H0 X0 E H β hm hr)
theorem vc_loop {c : IC} (I : Nat → VEnv → BEnv → Prop) (hI : ∀ k VE B, I k VE B → VC T c VE B fun x VE' B' => match x with | .normal => ∃ j, j < k ∧ I j VE' B' | x => R x VE' B') {k : Nat} (h0 : I k VE B) : VC T (.loop c) VE B R := by
  intro H0 X0 E H β hm hr
  refine wpC_loop (fun k E1 H1 => H1.mrk = H.mrk ∧ H1.ws = H.ws ∧ ∃ VE1 B1 β1, Rel H0 X0 VE1 B1 E1 H1 β1 ∧ I k VE1 B1) (fun k E1 H1 hk => ?_) k E H ⟨rfl, rfl, VE, B, β, hr, h0⟩
  obtain ⟨h1, h2, VE1, B1, β1, hr1, hi⟩ := hk
  refine (hI k VE1 B1 hi H0 X0 E1 H1 β1 (by omega) hr1).mono fun x E' H' hp => ?_
  obtain ⟨h3, h4, VE', B', β', hr', hq⟩ := hp
  cases x with
  | normal =>
    obtain ⟨j, hj, hij⟩ := hq
    exact ⟨fun _ => ⟨j, hj, h3.trans h1, h4.trans h2, VE', B', β', hr', hij⟩, fun e => absurd rfl e⟩
  | exit id => exact ⟨fun e => (by cases e), fun _ => ⟨h3.trans h1, h4.trans h2, VE', B', β', hr', hq⟩⟩
  | ret => exact ⟨fun e => (by cases e), fun _ => ⟨h3.trans h1, h4.trans h2, VE', B', β', hr', hq⟩⟩
theorem vc_less {c : IC} (hs : ∀ k v, getL VE' k = some v → getL VE k = some v) (h : VC T c VE' B R) : VC T c VE B R :=
  fun H0 X0 E H β hm hr => h H0 X0 E H β hm (hr.less hs)
theorem vc_drop {c : IC} (b : Nat) (h : VC T c VE (delL B b) R) : VC T c VE B R :=
  fun H0 X0 E H β hm hr => h H0 X0 E H β hm (hr.drop b)
end
end Go.Ev
namespace Go.Ev
def constV : AVal → Option VV
  | .int k n => some (.d (.i k n))
  | .bool b => some (.d (.b b))
  | .str l v => some (.d (.s l v))
  | .nilslice => some (.d .nil)
  | _ => none
def Opd.vv (VE : VEnv) : Opd → Option VV
  | .t k => getL VE k.n
  | .c a => constV a
def VV.cells : VV → Option (List VV)
  | .agg l => some l
  | .d x => some [.d x]
  | .vp b o => some [.vp b o]
  | .bs b n es => some [.bs b n es]
  | .ac b n es => some [.ac b n es]
  | _ => none
def dcs : List VV → Option (List DC)
  | [] => some []
  | .d x :: r => (dcs r).map (x :: ·)
  | _ :: _ => none
def SubL {α : Type} : List (Nat × α) → List (Nat × α) → Prop
  | [], _ => True
  | (i, v) :: r, l => getL l i = some v ∧ SubL r l
theorem SubL.get {α : Type} : ∀ {l m : List (Nat × α)}, SubL l m → ∀ {k : Nat} {v : α}, getL l k = some v → getL m k = some v
  | [], _, _, _, _, h => by cases h
  | (i, w) :: r, m, hs, k, v, h => by
    rw [getL_cons] at h
    by_cases e : i = k
    · rw [if_pos e] at h; cases h; exact e ▸ hs.1
    · rw [if_neg e] at h; exact SubL.get hs.2 h
theorem dcs_map : ∀ {l : List VV} {row : List DC}, dcs l = some row → l = row.map .d
  | [], row, h => by simp only [dcs, Option.some.injEq] at h; subst h; rfl
  | .d x :: r, row, h => by
    simp only [dcs, Option.map_eq_some_iff] at h
    obtain ⟨s, hs, rfl⟩ := h
    rw [dcs_map hs]; rfl
  | .agg _ :: _, _, h => by simp [dcs] at h
  | .tuple _ :: _, _, h => by simp [dcs] at h
  | .vp _ _ :: _, _, h => by simp [dcs] at h
  | .bp _ _ _ _ _ :: _, _, h => by simp [dcs] at h
  | .rp _ _ :: _, _, h => by simp [dcs] at h
  | .bs _ _ _ :: _, _, h => by simp [dcs] at h
  | .ac _ _ _ :: _, _, h => by simp [dcs] at h
  | .undef :: _, _, h => by simp [dcs] at h
section
variable {T : Tab} {H0 : AHeap} {X0 : Nat → Prop} {VE VE' : VEnv} {B B' : BEnv} {E : Env} {H H' : AHeap} {β : Nat → Nat} {X : Nat → Prop}
theorem constV_rep {a : AVal} {v : VV} (h : constV a = some v) : VRep H X β v a := by
  cases a <;> simp only [constV, Option.some.injEq, reduceCtorEq] at h <;> subst h <;> simp only [VRep, Rep]
theorem constV_no {a : AVal} {v : VV} (h : constV a = some v) (b : Nat) : v.no b = true := by
  cases a <;> simp only [constV, Option.some.injEq, reduceCtorEq] at h <;> subst h <;> rfl
theorem Rel.opd (hr : Rel H0 X0 VE B E H β) {x : Opd} {v : VV} (h : x.vv VE = some v) : ∃ a, x.ev E = some a ∧ VRep H (XB X0 B β) β v a := by
  cases x with
  | t k => exact hr.env k v h
  | c a => exact ⟨a, rfl, constV_rep h⟩
theorem VRep.cells {v : VV} {a : AVal} {l : List VV} (h : v.cells = some l) (hv : VRep H X β v a) : ∃ s, cellsOk a = some s ∧ VReps H X β l s := by
  cases v with
  | agg m =>
    simp only [VV.cells, Option.some.injEq] at h; subst h
    simp only [VRep] at hv
    obtain ⟨cs, rfl, h⟩ := hv
    exact ⟨cs, rfl, h⟩
  | d x =>
    simp only [VV.cells, Option.some.injEq] at h; subst h
    have : cellsOk a = some [a] := by
      simp only [VRep] at hv
      cases x with
      | i k n => simp only [Rep] at hv; subst hv; rfl
      | b t => simp only [Rep] at hv; subst hv; rfl
      | s l n => simp only [Rep] at hv; subst hv; rfl
      | nil => simp only [Rep] at hv; subst hv; rfl
      | sl rows => simp only [Rep] at hv; obtain ⟨f, g, off, es, rfl, _⟩ := hv; rfl
    exact ⟨[a], this, by simp only [VReps]; exact ⟨a, [], rfl, hv, rfl⟩⟩
  | vp b o =>
    simp only [VV.cells, Option.some.injEq] at h; subst h
    have e : a = .ptr (β b) 1 o := by simpa only [VRep] using hv
    exact ⟨[a], by subst e; rfl, by simp only [VReps]; exact ⟨a, [], rfl, hv, rfl⟩⟩
  | bs b n es =>
    simp only [VV.cells, Option.some.injEq] at h; subst h
    have e : a = .slice (β b) n 0 n es := by simpa only [VRep] using hv
    exact ⟨[a], by subst e; rfl, by simp only [VReps]; exact ⟨a, [], rfl, hv, rfl⟩⟩
  | ac b n es =>
    simp only [VV.cells, Option.some.injEq] at h; subst h
    have e : cellsOk a = some [a] := by
      simp only [VRep] at hv
      rcases hv with ⟨_, rfl⟩ | ⟨_, rfl⟩ <;> rfl
    exact ⟨[a], e, by simp only [VReps]; exact ⟨a, [], rfl, hv, rfl⟩⟩
  | tuple _ => simp [VV.cells] at h
  | bp _ _ _ _ _ => simp [VV.cells] at h
  | rp _ _ => simp [VV.cells] at h
  | undef => simp [VV.cells] at h
theorem ipost {q : Bool} {Q : VV → BEnv → Prop} {a : AVal} {v : VV} (hr : Rel H0 X0 VE B E H β) (hv : VRep H (XB X0 B β) β v a) (hq : Q v B) : IPost H0 X0 VE E H q Q a H :=
  ⟨rfl, fun _ => rfl, ⟨fun _ h => .inl h, fun _ => rfl⟩, v, B, β, hr, hv, hq⟩
theorem Rel.lessB (h : Rel H0 X0 VE B E H β) (hs : ∀ k s, getL B' k = some s → getL B k = some s) : Rel H0 X0 VE B' E H β := by
  have hl : Lift H (XB X0 B β) H (XB X0 B' β) := ⟨Nat.le_refl _, fun f _ hx => ⟨fun k => hx (k.imp id fun ⟨c, s, h1, h2⟩ => ⟨c, s, hs c s h1, h2⟩), rfl⟩⟩
  refine ⟨h.next, h.same, h.mrk, h.x0, fun c s hc => h.new c s (hs c s hc), fun c e s t hc he => h.inj c e s t (hs c s hc) (hs e t he), fun k v hk => ?_, fun c s hc => (h.box c s (hs c s hc)).lift hl rfl⟩
  obtain ⟨a, h1, h2⟩ := h.env k v hk
  exact ⟨a, h1, h2.lift hl⟩
theorem vc_norm {c : IC} {R : Ex → VEnv → BEnv → Prop} (VE' : VEnv) (B' : BEnv) (h1 : SubL VE' VE) (h2 : SubL B' B) (h : VC T c VE' B' R) : VC T c VE B R :=
  fun H0 X0 E H β hm hr => h H0 X0 E H β hm ((hr.less fun _ _ hk => h1.get hk).lessB fun _ _ hk => h2.get hk)
mutual
def VV.frz (b : Nat) (x : DC) : VV → VV
  | .agg l => .agg (frzs b x l)
  | .bs c n es => bif Nat.beq c b then .d x else .bs c n es
  | .ac c n es => bif Nat.beq c b then .d x else .ac c n es
  | v => v
def frzs (b : Nat) (x : DC) : List VV → List VV
  | [] => []
  | v :: r => v.frz b x :: frzs b x r
end
mutual
def VV.okF (b n es : Nat) : VV → Prop
  | .agg l => okFs b n es l
  | .bs c m e => c = b → m = n ∧ e = es
  | .ac c _ _ => c ≠ b
  | _ => True
def okFs (b n es : Nat) : List VV → Prop
  | [] => True
  | v :: r => v.okF b n es ∧ okFs b n es r
end
theorem RepRows.of_get {f g es : Nat} : ∀ {rows : List (List DC)} {q : Nat}, (∀ i row, rows[i]? = some row → ∃ l, CellsAt H f g (q + i) l ∧ l.length = es ∧ RepCells H X row l) → RepRows H X f g es q rows
  | [], _, _ => trivial
  | row :: r, q, h => by
    simp only [RepRows]
    refine ⟨h 0 row rfl, RepRows.of_get fun i row hi => ?_⟩
    rw [show q + 1 + i = q + (i + 1) by omega]
    exact h (i + 1) row (by simpa using hi)
theorem BoxOk.cells {f elem bts es lo : Nat} {rows : List (List DC)} (h : BoxOk H X β f (.arr elem bts es lo rows)) {g : Nat} (h1 : lo ≤ g) (h2 : g ≤ rows.length) {q : Nat} (hq : q < g) {row : List DC} (hrow : rows[q]? = some row) : ∃ l, CellsAt H f g q l ∧ l.length = es ∧ RepCells H X row l := by
  obtain ⟨lo', cs, k1, k2, k3, k4⟩ := h
  obtain ⟨l, j1, j2, j3⟩ := k4 q row hrow
  exact ⟨l, ⟨elem, bts, rows.length, lo', 0, cs, by rw [j2]; exact k1, by omega, h2, hq, j1⟩, j2, j3⟩
theorem Rel.asData (hr : Rel H0 X0 VE B E H β) {b elem bts es lo : Nat} {rows : List (List DC)} (hb : getL B b = some (.arr elem bts es lo rows)) {X : Nat → Prop} (hX : ¬ X (β b)) (hl : Lift H (XB X0 B β) H X) : Rep H X (.sl rows) (.slice (β b) rows.length 0 rows.length es) := by
  have hk := hr.box b _ hb
  simp only [Rep]
  refine ⟨β b, rows.length, 0, es, rfl, .inr ⟨hX, (hr.new b _ hb trivial).2, 0, by simp, RepRows.of_get fun i row hi => ?_⟩⟩
  have hi' := (List.getElem?_eq_some_iff.1 hi).1
  have hlo : lo ≤ rows.length := by obtain ⟨_, _, _, _, h, _⟩ := hk; exact h
  obtain ⟨l, h1, h2, h3⟩ := hk.cells (g := rows.length) hlo (Nat.le_refl _) hi' hi
  exact ⟨l, by rw [Nat.zero_add]; exact h1, h2, h3.lift hl⟩
theorem Rel.frz (hr : Rel H0 X0 VE B E H β) {b elem bts es lo : Nat} {rows : List (List DC)} (hb : getL B b = some (.arr elem bts es lo rows)) {k : Nat} {v : VV} (hv : getL VE k = some v) (ho : v.okF b rows.length es) :
    Rel H0 X0 ((k, v.frz b (.sl rows)) :: VE) (delL B b) E H β := by
  have hd := hr.drop b
  have hx : ¬ XB X0 (delL B b) β (β b) := by
    rintro (h | ⟨c, s, h1, ho', h2⟩)
    · have := hr.x0 _ h; have := (hr.new b _ hb trivial).1; omega
    · rw [getL_del] at h1
      by_cases e : b = c
      · rw [if_pos e] at h1; cases h1
      · rw [if_neg e] at h1; exact e (hr.inj c b s _ h1 hb ho' trivial h2).symm
  have hl : Lift H (XB X0 B β) H (XB X0 (delL B b) β) := ⟨Nat.le_refl _, fun f _ hx => ⟨fun k => hx (k.imp id fun ⟨c, s, h1, h2⟩ => ⟨c, s, by
    rw [getL_del] at h1
    by_cases e : b = c
    · rw [if_pos e] at h1; cases h1
    · rw [if_neg e] at h1; exact h1, h2⟩), rfl⟩⟩
  have hdat := hr.asData hb hx hl
  have main : (∀ v : VV, v.okF b rows.length es → ∀ a, VRep H (XB X0 (delL B b) β) β v a → VRep H (XB X0 (delL B b) β) β (v.frz b (.sl rows)) a) := by
    intro v
    refine VV.rec (motive_1 := fun v => v.okF b rows.length es → ∀ a, VRep H (XB X0 (delL B b) β) β v a → VRep H (XB X0 (delL B b) β) β (v.frz b (.sl rows)) a)
      (motive_2 := fun l => okFs b rows.length es l → ∀ s, VReps H (XB X0 (delL B b) β) β l s → VReps H (XB X0 (delL B b) β) β (frzs b (.sl rows) l) s) ?_ ?_ ?_ ?_ ?_ ?_ ?_ ?_ ?_ ?_ ?_ v
    · intro x _ a h; exact h
    · intro l ih ho a h
      simp only [VRep, VV.frz, VV.okF] at h ho ⊢
      obtain ⟨cs, e, h⟩ := h
      exact ⟨cs, e, ih ho cs h⟩
    · intro l _ _ a h; exact h
    · intro c o _ a h; exact h
    · intro c g q o e _ a h; exact h
    · intro row o _ a h; exact h
    · intro c n e ho a h
      simp only [VV.frz, VV.okF] at h ho ⊢
      by_cases hc : c = b
      · obtain ⟨rfl, rfl⟩ := ho hc
        subst hc
        rw [show Nat.beq c c = true from Nat.beq_refl c]
        simp only [VRep] at h
        subst h
        show VRep H _ β (.d (.sl rows)) _
        simp only [VRep]
        exact hdat
      · have : Nat.beq c b = false := by
          cases hq : Nat.beq c b
          · rfl
          · exact absurd (Nat.eq_of_beq_eq_true hq) hc
        rw [this]; exact h
    · intro c n e ho a h
      simp only [VV.frz, VV.okF] at ho ⊢
      have : Nat.beq c b = false := by
        cases hq : Nat.beq c b
        · rfl
        · exact absurd (Nat.eq_of_beq_eq_true hq) ho
      rw [this]; exact h
    · intro _ a h; exact h
    · intro _ s h; exact h
    · intro v r ih1 ih2 ho s h
      simp only [VReps, frzs, okFs] at h ho ⊢
      obtain ⟨a, s, e, h1, h2⟩ := h
      exact ⟨a, s, e, ih1 ho.1 a h1, ih2 ho.2 s h2⟩
  refine { hd with env := fun c w hc => ?_ }
  rw [getL_cons] at hc
  by_cases e : k = c.n
  · rw [if_pos e] at hc
    cases hc
    obtain ⟨a, h1, h2⟩ := hd.env c v (e ▸ hv)
    exact ⟨a, h1, main v ho a h2⟩
  · rw [if_neg e] at hc
    exact hd.env c w hc
theorem vo_frz {ops : List IOp} {Q : VEnv → BEnv → Prop} (k b : Nat) {v : VV} {elem bts es lo : Nat} {rows : List (List DC)} (hv : getL VE k = some v) (hb : getL B b = some (.arr elem bts es lo rows)) (ho : v.okF b rows.length es) (h : VO T ops ((k, v.frz b (.sl rows)) :: VE) (delL B b) Q) : VO T ops VE B Q :=
  fun H0 X0 E H β hm hr => h H0 X0 E H β hm (hr.frz hb hv ho)
theorem vc_frz {c : IC} {R : Ex → VEnv → BEnv → Prop} (k b : Nat) {v : VV} {elem bts es lo : Nat} {rows : List (List DC)} (hv : getL VE k = some v) (hb : getL B b = some (.arr elem bts es lo rows)) (ho : v.okF b rows.length es) (h : VC T c ((k, v.frz b (.sl rows)) :: VE) (delL B b) R) : VC T c VE B R :=
  fun H0 X0 E H β hm hr => h H0 X0 E H β hm (hr.frz hb hv ho)
variable {q : Bool} {Q : VV → BEnv → Prop}
theorem wrap64 {n : Int} (h1 : -9223372036854775808 ≤ n) (h2 : n ≤ 9223372036854775807) : IntKind.i64.wrap n = n := by
  simp [IntKind.wrap, IntKind.bits, IntKind.signed]
  split <;> omega
theorem vi_mov {x : Opd} {v : VV} (hx : x.vv VE = some v) (hq : Q v B) : VI T (.mov x) VE B true Q := fun _ _ _ _ _ hr => by
  obtain ⟨a, h1, h2⟩ := hr.opd hx
  exact wpI_mov h1 (ipost hr h2 hq)
theorem vi_pickT {c x y : Opd} {v : VV} (hc : c.vv VE = some (.d (.b true))) (hx : x.vv VE = some v) (hq : Q v B) : VI T (.pick c x y) VE B true Q := fun _ _ _ _ _ hr => by
  obtain ⟨a, h1, h2⟩ := hr.opd hx
  obtain ⟨t, h3, h4⟩ := hr.opd hc
  simp only [VRep, Rep] at h4
  subst h4
  exact wpI_pick (t := true) h3 h1 (ipost hr h2 hq)
theorem vi_pickF {c x y : Opd} {v : VV} (hc : c.vv VE = some (.d (.b false))) (hy : y.vv VE = some v) (hq : Q v B) : VI T (.pick c x y) VE B true Q := fun _ _ _ _ _ hr => by
  obtain ⟨a, h1, h2⟩ := hr.opd hy
  obtain ⟨t, h3, h4⟩ := hr.opd hc
  simp only [VRep, Rep] at h4
  subst h4
  exact wpI_pick (t := false) h3 h1 (ipost hr h2 hq)
theorem vi_binI {op : BinOp} {x y : Opd} {k k' : IntKind} {a b : Int} {r : AVal} {v : VV} (hx : x.vv VE = some (.d (.i k a))) (hy : y.vv VE = some (.d (.i k' b))) (h : intBin op k a k' b = some r) (hv : constV r = some v) (hq : Q v B) : VI T (.bin op x y) VE B true Q := fun _ _ _ _ _ hr => by
  obtain ⟨_, h1, h2⟩ := hr.opd hx
  obtain ⟨_, h3, h4⟩ := hr.opd hy
  simp only [VRep, Rep] at h2 h4
  subst h2; subst h4
  exact wpI_bin h1 h3 h (ipost hr (constV_rep hv) hq)
theorem vi_lt {x y : Opd} {a b : Int} (hx : x.vv VE = some (.d (.i .i64 a))) (hy : y.vv VE = some (.d (.i .i64 b))) (hq : Q (.d (.b (decide (a < b)))) B) : VI T (.bin .lss x y) VE B true Q :=
  vi_binI hx hy (r := .bool (iLt a b)) rfl rfl (by rw [iLt_eq]; exact hq)
theorem vi_gt {x y : Opd} {a b : Int} (hx : x.vv VE = some (.d (.i .i64 a))) (hy : y.vv VE = some (.d (.i .i64 b))) (hq : Q (.d (.b (decide (b < a)))) B) : VI T (.bin .gtr x y) VE B true Q :=
  vi_binI hx hy (r := .bool (iLt b a)) rfl rfl (by rw [iLt_eq]; exact hq)
theorem vi_le {x y : Opd} {a b : Int} (hx : x.vv VE = some (.d (.i .i64 a))) (hy : y.vv VE = some (.d (.i .i64 b))) (hq : Q (.d (.b (decide (a ≤ b)))) B) : VI T (.bin .leq x y) VE B true Q :=
  vi_binI hx hy (r := .bool (Bool.not (iLt b a))) rfl rfl (by
    rw [iLt_eq]
    have : (!decide (b < a)) = decide (a ≤ b) := by
      by_cases h : b < a
      · rw [decide_eq_true h, decide_eq_false (by omega)]; rfl
      · rw [decide_eq_false h, decide_eq_true (by omega)]; rfl
    rw [this]; exact hq)
theorem vi_ge {x y : Opd} {a b : Int} (hx : x.vv VE = some (.d (.i .i64 a))) (hy : y.vv VE = some (.d (.i .i64 b))) (hq : Q (.d (.b (decide (b ≤ a)))) B) : VI T (.bin .geq x y) VE B true Q :=
  vi_binI hx hy (r := .bool (Bool.not (iLt a b))) rfl rfl (by
    rw [iLt_eq]
    have : (!decide (a < b)) = decide (b ≤ a) := by
      by_cases h : a < b
      · rw [decide_eq_true h, decide_eq_false (by omega)]; rfl
      · rw [decide_eq_false h, decide_eq_true (by omega)]; rfl
    rw [this]; exact hq)
theorem vi_eqI {x y : Opd} {k : IntKind} {a b : Int} (hx : x.vv VE = some (.d (.i k a))) (hy : y.vv VE = some (.d (.i k b))) (hq : Q (.d (.b (decide (a = b)))) B) : VI T (.bin .eql x y) VE B true Q :=
  vi_binI hx hy (r := .bool (iEq a b)) (by cases k <;> rfl) rfl (by rw [iEq_eq]; exact hq)
theorem vi_neI {x y : Opd} {k : IntKind} {a b : Int} (hx : x.vv VE = some (.d (.i k a))) (hy : y.vv VE = some (.d (.i k b))) (hq : Q (.d (.b (!decide (a = b)))) B) : VI T (.bin .neq x y) VE B true Q :=
  vi_binI hx hy (r := .bool (Bool.not (iEq a b))) (by cases k <;> rfl) rfl (by rw [iEq_eq]; exact hq)
theorem vi_add {x y : Opd} {a b : Int} (hx : x.vv VE = some (.d (.i .i64 a))) (hy : y.vv VE = some (.d (.i .i64 b))) (h1 : -9223372036854775808 ≤ a + b) (h2 : a + b ≤ 9223372036854775807) (hq : Q (.d (.i .i64 (a + b))) B) : VI T (.bin .add x y) VE B true Q :=
  vi_binI hx hy (r := .int .i64 (wrapF .i64 (a + b))) rfl rfl (by
    have : wrapF .i64 (a + b) = a + b := by rw [wrapF_eq]; exact wrap64 h1 h2
    rw [this]; exact hq)
theorem vi_not {x : Opd} {b : Bool} (hx : x.vv VE = some (.d (.b b))) (hq : Q (.d (.b (!b))) B) : VI T (.un .not x) VE B true Q := fun _ _ _ _ _ hr => by
  obtain ⟨_, h1, h2⟩ := hr.opd hx
  simp only [VRep, Rep] at h2
  subst h2
  exact wpI_un h1 rfl (ipost hr (v := .d (.b (!b))) (by simp only [VRep, Rep]) hq)
theorem vi_conv {k k0 : IntKind} {x : Opd} {n : Int} (hx : x.vv VE = some (.d (.i k0 n))) (hq : Q (.d (.i k (k.wrap n))) B) : VI T (.conv k x) VE B true Q := fun _ _ _ _ _ hr => by
  obtain ⟨_, h1, h2⟩ := hr.opd hx
  simp only [VRep, Rep] at h2
  subst h2
  exact wpI_conv h1 (ipost hr (v := .d (.i k (k.wrap n))) (by simp only [VRep, Rep, wrapF_eq]) hq)
theorem vi_len {x : Opd} {rows : List (List DC)} (hx : x.vv VE = some (.d (.sl rows))) (hq : Q (.d (.i .i64 rows.length)) B) : VI T (.len x) VE B true Q := fun _ _ _ _ _ hr => by
  obtain ⟨_, h1, h2⟩ := hr.opd hx
  simp only [VRep, Rep] at h2
  obtain ⟨f, g, off, es, rfl, _⟩ := h2
  exact wpI_len h1 (ipost hr (v := .d (.i .i64 rows.length)) (by simp only [VRep, Rep]) hq)
theorem vi_lenN {x : Opd} (hx : x.vv VE = some (.d .nil)) (hq : Q (.d (.i .i64 0)) B) : VI T (.len x) VE B true Q := fun _ _ _ _ _ hr => by
  obtain ⟨_, h1, h2⟩ := hr.opd hx
  simp only [VRep, Rep] at h2
  subst h2
  exact wpI_len_nil h1 (ipost hr (v := .d (.i .i64 0)) (by simp only [VRep, Rep]) hq)
theorem vi_lenB {x : Opd} {b n es : Nat} (hx : x.vv VE = some (.bs b n es)) (hq : Q (.d (.i .i64 n)) B) : VI T (.len x) VE B true Q := fun _ _ _ _ _ hr => by
  obtain ⟨_, h1, h2⟩ := hr.opd hx
  simp only [VRep] at h2
  subst h2
  exact wpI_len h1 (ipost hr (v := .d (.i .i64 n)) (by simp only [VRep, Rep]) hq)
theorem vi_lenS {x : Opd} {l s : Nat} (hx : x.vv VE = some (.d (.s l s))) (hq : Q (.d (.i .i64 l)) B) : VI T (.lenS x) VE B true Q := fun _ _ _ _ _ hr => by
  obtain ⟨_, h1, h2⟩ := hr.opd hx
  simp only [VRep, Rep] at h2
  subst h2
  exact wpI_lenS h1 (ipost hr (v := .d (.i .i64 l)) (by simp only [VRep, Rep]) hq)
theorem vi_idx {x i : Opd} {es j : Nat} {k : IntKind} {rows : List (List DC)} {row : List DC} (hx : x.vv VE = some (.d (.sl rows))) (hi : i.vv VE = some (.d (.i k (j : Int)))) (hj : rows[j]? = some row) (hl : row.length = es) (hq : Q (.rp row 0) B) : VI T (.idxSl es x i) VE B true Q := fun _ _ _ _ _ hr => by
  obtain ⟨_, h1, h2⟩ := hr.opd hx
  obtain ⟨_, h3, h4⟩ := hr.opd hi
  simp only [VRep] at h2 h4
  simp only [Rep] at h4
  subst h4
  obtain ⟨f, g, off, es', rfl, hg⟩ := h2.slice
  obtain ⟨k1, k2, Q1, l, k3, k4, k5, k6⟩ := hg hj
  have e : es' = es := by rw [← k4, k6.length, hl]
  subst e
  refine wpI_idxSl h1 h3 (List.getElem?_eq_some_iff.1 hj).1 (ipost hr (v := .rp row 0) ?_ hq)
  simp only [VRep]
  exact ⟨f, g, Q1, l, by rw [k5, k4]; rfl, k3, k6, k1, k2⟩
theorem vi_idxB {x i : Opd} {es b n j : Nat} {k : IntKind} (hx : x.vv VE = some (.bs b n es)) (hi : i.vv VE = some (.d (.i k (j : Int)))) (hj : j < n) (hq : Q (.bp b n j 0 es) B) : VI T (.idxSl es x i) VE B true Q := fun _ _ _ _ _ hr => by
  obtain ⟨_, h1, h2⟩ := hr.opd hx
  obtain ⟨_, h3, h4⟩ := hr.opd hi
  simp only [VRep] at h2 h4
  simp only [Rep] at h4
  subst h4; subst h2
  exact wpI_idxSl h1 h3 hj (ipost hr (v := .bp b n j 0 es) (by simp only [VRep]; rw [Nat.zero_add, Nat.add_zero]) hq)
theorem vi_offsR {x : Opd} {row : List DC} {o k : Nat} (hx : x.vv VE = some (.rp row o)) (hq : Q (.rp row (o + k)) B) : VI T (.offs x k) VE B true Q := fun _ _ _ _ _ hr => by
  obtain ⟨_, h1, h2⟩ := hr.opd hx
  simp only [VRep] at h2
  obtain ⟨f, g, Q1, l, rfl, h3⟩ := h2
  exact wpI_offs h1 (ipost hr (v := .rp row (o + k)) (by simp only [VRep]; exact ⟨f, g, Q1, l, by rw [Nat.add_assoc], h3⟩) hq)
theorem vi_offsV {x : Opd} {b o k : Nat} (hx : x.vv VE = some (.vp b o)) (hq : Q (.vp b (o + k)) B) : VI T (.offs x k) VE B true Q := fun _ _ _ _ _ hr => by
  obtain ⟨_, h1, h2⟩ := hr.opd hx
  simp only [VRep] at h2
  subst h2
  exact wpI_offs h1 (ipost hr (v := .vp b (o + k)) (by simp only [VRep]) hq)
theorem vi_offsB {x : Opd} {b g j o es k : Nat} (hx : x.vv VE = some (.bp b g j o es)) (hq : Q (.bp b g j (o + k) es) B) : VI T (.offs x k) VE B true Q := fun _ _ _ _ _ hr => by
  obtain ⟨_, h1, h2⟩ := hr.opd hx
  simp only [VRep] at h2
  subst h2
  exact wpI_offs h1 (ipost hr (v := .bp b g j (o + k) es) (by simp only [VRep]; rw [Nat.add_assoc]) hq)
theorem vi_extr {x : Opd} {l : List VV} {i : Nat} {v : VV} (hx : x.vv VE = some (.tuple l)) (hi : l[i]? = some v) (hq : Q v B) : VI T (.extr x i) VE B true Q := fun _ _ _ _ _ hr => by
  obtain ⟨_, h1, h2⟩ := hr.opd hx
  simp only [VRep] at h2
  obtain ⟨cs, rfl, h2⟩ := h2
  obtain ⟨a, h3, h4⟩ := h2.get hi
  exact wpI_extr h1 h3 (ipost hr h4 hq)
theorem vi_nilSl {x y : Opd} {neg : Bool} {rows : List (List DC)} (hx : x.vv VE = some (.d (.sl rows))) (hy : y.vv VE = some (.d .nil)) (hq : Q (.d (.b neg)) B) : VI T (.eqv .slice neg x y) VE B true Q := fun _ _ _ _ _ hr => by
  obtain ⟨_, h1, h2⟩ := hr.opd hx
  obtain ⟨_, h3, h4⟩ := hr.opd hy
  simp only [VRep, Rep] at h2 h4
  subst h4
  obtain ⟨f, g, off, es, rfl, _⟩ := h2
  exact wpI_eqv (r := false) h1 h3 rfl (ipost hr (v := .d (.b neg)) (by simp only [VRep, Rep]; cases neg <;> rfl) hq)
theorem vi_nilNil {x y : Opd} {neg : Bool} (hx : x.vv VE = some (.d .nil)) (hy : y.vv VE = some (.d .nil)) (hq : Q (.d (.b (!neg))) B) : VI T (.eqv .slice neg x y) VE B true Q := fun _ _ _ _ _ hr => by
  obtain ⟨_, h1, h2⟩ := hr.opd hx
  obtain ⟨_, h3, h4⟩ := hr.opd hy
  simp only [VRep, Rep] at h2 h4
  subst h4; subst h2
  exact wpI_eqv (r := true) h1 h3 rfl (ipost hr (v := .d (.b (!neg))) (by simp only [VRep, Rep]; cases neg <;> rfl) hq)
end
end Go.Ev
namespace Go.Ev
section
variable {T : Tab} {H0 : AHeap} {X0 : Nat → Prop} {VE VE' : VEnv} {B B' : BEnv} {E : Env} {H H' : AHeap} {β : Nat → Nat} {X : Nat → Prop}
variable {q : Bool} {Q : VV → BEnv → Prop}
theorem RepCells.dropTake : ∀ {row : List DC} {l : List AVal} (o n : Nat), RepCells H X row l → RepCells H X ((row.drop o).take n) ((l.drop o).take n) := by
  intro row l o n h
  have h1 := VReps.of_cells (β := fun _ => 0) h
  have h2 := VReps.take n (VReps.drop o h1)
  rw [← List.map_drop, ← List.map_take] at h2
  exact RepCells.of_vals h2
theorem vi_load1R {a : Opd} {row : List DC} {o : Nat} {x : DC} (ha : a.vv VE = some (.rp row o)) (hx : row[o]? = some x) (hq : Q (.d x) B) : VI T (.load 1 false a) VE B true Q := fun _ _ _ _ _ hr => by
  obtain ⟨_, h1, h2⟩ := hr.opd ha
  simp only [VRep] at h2
  obtain ⟨f, g, Q1, l, rfl, h3, h4, _⟩ := h2
  obtain ⟨y, h5, h6⟩ := h4.get hx
  exact wpI_load1 h1 h3 rfl h5 (ipost hr (v := .d x) (by simp only [VRep]; exact h6) hq)
theorem vi_loadAR {a : Opd} {row : List DC} {o n : Nat} (ha : a.vv VE = some (.rp row o)) (h0 : 0 < n) (hl : o + n ≤ row.length) (hq : Q (.agg (((row.drop o).take n).map .d)) B) : VI T (.load n true a) VE B true Q := fun _ _ _ _ _ hr => by
  obtain ⟨_, h1, h2⟩ := hr.opd ha
  simp only [VRep] at h2
  obtain ⟨f, g, Q1, l, rfl, h3, h4, _⟩ := h2
  exact wpI_loadA h1 h3 rfl (by rw [h4.length]; exact hl) h0 (ipost hr (v := .agg (((row.drop o).take n).map .d)) (by simp only [VRep]; exact ⟨_, rfl, VReps.of_cells (h4.dropTake o n)⟩) hq)
theorem BoxOk.one_cells {f elem bts : Nat} {row : List VV} (h : BoxOk H X β f (.one elem bts row)) : ∃ l, CellsAt H f 1 0 l ∧ VReps H X β row l := by
  obtain ⟨l, lo, cs, h1, h2, h3, h4⟩ := h
  exact ⟨l, ⟨elem, bts, 1, lo, 0, cs, h1, h2, Nat.le_refl _, Nat.zero_lt_one, h3⟩, h4⟩
theorem vi_load1V {a : Opd} {b o elem bts : Nat} {row : List VV} {v : VV} (ha : a.vv VE = some (.vp b o)) (hb : getL B b = some (.one elem bts row)) (hv : row[o]? = some v) (hq : Q v B) : VI T (.load 1 false a) VE B true Q := fun _ _ _ _ _ hr => by
  obtain ⟨_, h1, h2⟩ := hr.opd ha
  simp only [VRep] at h2
  subst h2
  obtain ⟨l, h3, h4⟩ := (hr.box b _ hb).one_cells
  obtain ⟨y, h5, h6⟩ := h4.get hv
  exact wpI_load1 h1 h3 (by rw [Nat.zero_mul, Nat.zero_add]) h5 (ipost hr h6 hq)
theorem vi_loadAV {a : Opd} {b o n elem bts : Nat} {row : List VV} (ha : a.vv VE = some (.vp b o)) (hb : getL B b = some (.one elem bts row)) (h0 : 0 < n) (hl : o + n ≤ row.length) (hq : Q (.agg ((row.drop o).take n)) B) : VI T (.load n true a) VE B true Q := fun _ _ _ _ _ hr => by
  obtain ⟨_, h1, h2⟩ := hr.opd ha
  simp only [VRep] at h2
  subst h2
  obtain ⟨l, h3, h4⟩ := (hr.box b _ hb).one_cells
  exact wpI_loadA h1 h3 (by rw [Nat.zero_mul, Nat.zero_add]) (by rw [h4.length]; exact hl) h0 (ipost hr (v := .agg ((row.drop o).take n)) (by simp only [VRep]; exact ⟨_, rfl, VReps.take n (VReps.drop o h4)⟩) hq)
theorem vi_load1B {a : Opd} {b g j o es elem bts lo : Nat} {rows : List (List DC)} {row : List DC} {x : DC} (ha : a.vv VE = some (.bp b g j o es)) (hb : getL B b = some (.arr elem bts es lo rows)) (h1 : lo ≤ g) (h2 : g ≤ rows.length) (h3 : j < g) (hj : rows[j]? = some row) (hx : row[o]? = some x) (hq : Q (.d x) B) : VI T (.load 1 false a) VE B true Q := fun _ _ _ _ _ hr => by
  obtain ⟨_, k1, k2⟩ := hr.opd ha
  simp only [VRep] at k2
  subst k2
  obtain ⟨l, k3, k4, k5⟩ := (hr.box b _ hb).cells h1 h2 h3 hj
  obtain ⟨y, k6, k7⟩ := k5.get hx
  exact wpI_load1 k1 k3 (by rw [k4]) k6 (ipost hr (v := .d x) (by simp only [VRep]; exact k7) hq)
theorem vi_loadAB {a : Opd} {b g j o n es elem bts lo : Nat} {rows : List (List DC)} {row : List DC} (ha : a.vv VE = some (.bp b g j o es)) (hb : getL B b = some (.arr elem bts es lo rows)) (h1 : lo ≤ g) (h2 : g ≤ rows.length) (h3 : j < g) (hj : rows[j]? = some row) (h0 : 0 < n) (hl : o + n ≤ row.length) (hq : Q (.agg (((row.drop o).take n).map .d)) B) : VI T (.load n true a) VE B true Q := fun _ _ _ _ _ hr => by
  obtain ⟨_, k1, k2⟩ := hr.opd ha
  simp only [VRep] at k2
  subst k2
  obtain ⟨l, k3, k4, k5⟩ := (hr.box b _ hb).cells h1 h2 h3 hj
  exact wpI_loadA k1 k3 (by rw [k4]) (by rw [k5.length]; exact hl) h0 (ipost hr (v := .agg (((row.drop o).take n).map .d)) (by simp only [VRep]; exact ⟨_, rfl, VReps.of_cells (k5.dropTake o n)⟩) hq)
theorem ipost_new {v : VV} {a : AVal} {b : Nat} {s : BS} (hr : Rel H0 X0 VE B E H β) (hE : noE b VE = true) (hB : noB b B = true) (hn : H'.next = H.next + 1) (hs : ∀ f, f < H.next → H'.t.get f = H.t.get f) (hm : H'.mrk = H.mrk) (hw : H'.ws = H.ws)
    (hbox : ∀ X β', (∀ v a, v.no b = true → VRep H (XB X0 B β) β v a → VRep H' X β' v a) → (∀ row l, RepCells H (XB X0 B β) row l → RepCells H' X row l) → BoxOk H' X β' H.next s)
    (hv : ∀ X β', β' b = H.next → VRep H' X β' v a) (hq : Q v ((b, s) :: B)) : IPost H0 X0 VE E H q Q a H' := by
  obtain ⟨β', h1, h2, _⟩ := hr.newBox hE hB hn hs hm hbox
  exact ⟨hm, fun _ => hw, ⟨fun f hf => .inl (hw ▸ hf), fun _ => hw⟩, v, _, β', h2, hv _ _ h1, hq⟩
theorem nos_cells {b : Nat} {v : VV} {l : List VV} (h : v.no b = true) (hc : v.cells = some l) : nos b l = true := by
  cases v <;> simp only [VV.cells, Option.some.injEq, reduceCtorEq] at hc <;> subst hc <;> simp_all [nos, VV.no]
theorem VReps_of {b : Nat} {H1 H2 : AHeap} {X1 X2 : Nat → Prop} {β1 β2 : Nat → Nat} (h : ∀ v a, v.no b = true → VRep H1 X1 β1 v a → VRep H2 X2 β2 v a) : ∀ {l : List VV} {s : List AVal}, nos b l = true → VReps H1 X1 β1 l s → VReps H2 X2 β2 l s
  | [], _, _, k => by simp only [VReps] at k ⊢; exact k
  | v :: r, _, n, k => by
    simp only [VReps, nos, Bool.and_eq_true] at k n ⊢
    obtain ⟨a, s, e, h1, h2⟩ := k
    exact ⟨a, s, e, h v a n.1 h1, VReps_of h n.2 h2⟩
theorem VReps_mono {H1 H2 : AHeap} {X1 X2 : Nat → Prop} {β1 β2 : Nat → Nat} (h : ∀ v a, VRep H1 X1 β1 v a → VRep H2 X2 β2 v a) : ∀ {l : List VV} {s : List AVal}, VReps H1 X1 β1 l s → VReps H2 X2 β2 l s
  | [], _, k => by simp only [VReps] at k ⊢; exact k
  | v :: r, _, k => by
    simp only [VReps] at k ⊢
    obtain ⟨a, s, e, h1, h2⟩ := k
    exact ⟨a, s, e, h v a h1, VReps_mono h h2⟩
theorem opd_no {x : Opd} {v : VV} {b : Nat} (hE : noE b VE = true) (hx : x.vv VE = some v) : v.no b = true := by
  cases x with
  | t k => exact noE_get hE hx
  | c a => exact constV_no hx b
theorem vi_box {elem es bts : Nat} {x : Opd} {v : VV} {cells : List VV} (b : Nat) (hE : noE b VE = true) (hB : noB b B = true) (hx : x.vv VE = some v) (hv : v.cells = some cells) (hl : cells.length = es) (hq : Q (.vp b 0) ((b, .one elem bts cells) :: B)) : VI T (.box elem es bts x) VE B true Q := fun _ _ _ H _ hr => by
  obtain ⟨a, h1, h2⟩ := hr.opd hx
  obtain ⟨s, h3, h4⟩ := h2.cells hv
  refine wpI_box h1 h3 (by rw [h4.length, hl]) (ipost_new (b := b) (s := .one elem bts cells) hr hE hB rfl (fun f hf => (boxH_grow elem bts s).same f hf) rfl rfl (fun X β' k1 _ => ?_) (fun X β' k => by simp only [VRep]; rw [k]) hq)
  obtain ⟨e', b', lo, cs, j1, j2, j3⟩ := boxH_at (H := H) elem bts s
  refine ⟨s, 1, .one s, ?_, Nat.le_refl _, rfl, VReps_of k1 (nos_cells (opd_no hE hx) hv) h4⟩
  show (H.t.set H.next _).get H.next = _
  rw [HT.get_set, if_pos rfl]
def constVs : List AVal → Option (List VV)
  | [] => some []
  | a :: r => (constV a).bind fun v => (constVs r).map (v :: ·)
theorem constVs_rep : ∀ {l : List AVal} {cells : List VV}, constVs l = some cells → VReps H X β cells l
  | [], cells, h => by simp only [constVs, Option.some.injEq] at h; subst h; simp only [VReps]
  | a :: r, cells, h => by
    simp only [constVs, Option.bind_eq_some_iff, Option.map_eq_some_iff] at h
    obtain ⟨v, hv, s, hs, rfl⟩ := h
    simp only [VReps]
    exact ⟨a, r, rfl, constV_rep hv, constVs_rep hs⟩
theorem vi_boxz {elem es bts : Nat} {l : List AVal} {cells : List VV} (b : Nat) (hE : noE b VE = true) (hB : noB b B = true) (hc : constVs l = some cells) (hl : l.length = es) (hq : Q (.vp b 0) ((b, .one elem bts cells) :: B)) : VI T (.boxz elem es bts l) VE B true Q := fun _ _ _ H _ hr => by
  refine wpI_boxz hl (ipost_new (b := b) (s := .one elem bts cells) hr hE hB rfl (fun f hf => (boxH_grow elem bts l).same f hf) rfl rfl (fun X β' _ _ => ?_) (fun X β' k => by simp only [VRep]; rw [k]) hq)
  refine ⟨l, 1, .one l, ?_, Nat.le_refl _, rfl, constVs_rep hc⟩
  show (H.t.set H.next _).get H.next = _
  rw [HT.get_set, if_pos rfl]
def spliceV (l : List VV) (r : Nat) (new : List VV) : List VV := l.take r ++ (new ++ l.drop (r + new.length))
theorem VReps.splice {l new : List VV} {s t : List AVal} (r : Nat) (h : VReps H X β l s) (k : VReps H X β new t) : VReps H X β (spliceV l r new) (splice s r t) := by
  unfold spliceV Ev.splice
  rw [← k.length]
  exact (h.take r).append (k.append (h.drop _))
def buildV (VE : VEnv) : List (Nat × Nat × Opd) → List VV → Option (List VV)
  | [], cells => some cells
  | p :: r, cells => (p.2.2.vv VE).bind fun v => v.cells.bind fun new => bif Nat.beq new.length p.2.1 then buildV VE r (spliceV cells p.1 new) else none
theorem buildV_rep (hr : Rel H0 X0 VE B E H β) : ∀ {ps : List (Nat × Nat × Opd)} {cells : List VV} {s : List AVal} {out : List VV}, VReps H (XB X0 B β) β cells s → buildV VE ps cells = some out → ∃ t, buildA E ps s = some t ∧ VReps H (XB X0 B β) β out t
  | [], cells, s, out, h, hb => by simp only [buildV, Option.some.injEq] at hb; subst hb; exact ⟨s, rfl, h⟩
  | p :: r, cells, s, out, h, hb => by
    simp only [buildV, Option.bind_eq_some_iff] at hb
    obtain ⟨v, hv, new, hn, hb⟩ := hb
    obtain ⟨a, h1, h2⟩ := hr.opd hv
    obtain ⟨t, h3, h4⟩ := h2.cells hn
    cases he : Nat.beq new.length p.2.1 with
    | false => rw [he] at hb; cases hb
    | true =>
      rw [he] at hb
      obtain ⟨u, h5, h6⟩ := buildV_rep hr (h.splice p.1 h4) hb
      refine ⟨u, ?_, h6⟩
      show ob (p.2.2.ev E) none (fun v => ob (cellsOk v) none fun new => chk (Nat.beq (lenL new) p.2.1) (buildA E r (Ev.splice s p.1 new)) none) = some u
      rw [h1, ob_mk, h3, ob_mk, lenL_eq, h4.length, he, chk_true, h5]
theorem vi_build {zero : List AVal} {ps : List (Nat × Nat × Opd)} {z out : List VV} (hz : constVs zero = some z) (hb : buildV VE ps z = some out) (hq : Q (.agg out) B) : VI T (.build zero ps) VE B true Q := fun _ _ _ _ _ hr => by
  obtain ⟨t, h1, h2⟩ := buildV_rep hr (constVs_rep hz) hb
  exact wpI_build h1 (ipost hr (v := .agg out) (by simp only [VRep]; exact ⟨t, rfl, h2⟩) hq)
def putV (row : List VV) (o : Nat) (new : List VV) : List VV := bif Nat.beq new.length row.length then new else spliceV row o new
theorem VReps.bif {t0 : Bool} {a b : List VV} {s t : List AVal} (h : VReps H X β a s) (k : VReps H X β b t) : VReps H X β (bif t0 then a else b) (bif t0 then s else t) := by
  cases t0
  · exact k
  · exact h
theorem wr_at {f q o n m elem es bts lo : Nat} {l new : List AVal} {cs : RT} {e : Res} {K : AHeap → Res} (h1 : H.t.get f = some (.row elem es bts m lo 0 cs)) (h2 : lo ≤ m) (hq : q < m) (h3 : cs.get q = some l) (hl : l.length = es) (hn : new.length = n) (h0 : 0 < n) (hk : o + n ≤ es) :
    wr H f m (q * es + o) n new e K = K ⟨H.next, H.mrk, wrote f H.mrk H.ws, H.t.set f (.row elem es bts m m 0 (cs.set q (bif Nat.beq n es then new else splice l o new)))⟩ := by
  cases H with
  | mk next mrk ws t =>
    have h1 : t.get f = some (.row elem es bts m lo 0 cs) := h1
    have e1 : (q * es + o) / es = q := by
      by_cases ho : o = es
      · omega
      · rw [Nat.mul_comm, Nat.mul_add_div (by omega), Nat.div_eq_of_lt (by omega)]; rfl
    have e2 : (q * es + o) % es = o := by
      by_cases ho : o = es
      · omega
      · rw [Nat.mul_comm, Nat.mul_add_mod, Nat.mod_eq_of_lt (by omega)]
    show onRow (t.get f) e (fun elem es' bts m' lo fl cs =>
        chk (Nat.beq fl 0) (chk (Nat.beq m m') (chk (Nat.ble lo m) (chk (Nat.ble (Nat.add (Nat.mod (q * es + o) es') n) es') (chk (Nat.ble (Nat.succ (Nat.div (q * es + o) es')) m) (chk (Nat.beq (lenL new) n)
          (ob (cs.get (Nat.div (q * es + o) es')) e fun l => cs.setC (Nat.div (q * es + o) es') (chk (Nat.beq n es') new (splice l (Nat.mod (q * es + o) es') new)) fun cs => t.setC f (.row elem es' bts m' m' 0 cs) fun t => K ⟨next, mrk, wrote f mrk ws, t⟩) e) e) e) e) e) e) = _
    rw [h1]
    show chk (Nat.beq 0 0) (chk (Nat.beq m m) (chk (Nat.ble lo m) (chk (Nat.ble (Nat.add (Nat.mod (q * es + o) es) n) es) (chk (Nat.ble (Nat.succ (Nat.div (q * es + o) es)) m) (chk (Nat.beq (lenL new) n)
          (ob (cs.get (Nat.div (q * es + o) es)) e fun l => cs.setC (Nat.div (q * es + o) es) (chk (Nat.beq n es) new (splice l (Nat.mod (q * es + o) es) new)) fun cs => t.setC f (.row elem es bts m m 0 cs) fun t => K ⟨next, mrk, wrote f mrk ws, t⟩) e) e) e) e) e) e = _
    rw [show Nat.mod (q * es + o) es = o from e2, show Nat.div (q * es + o) es = q from e1, show Nat.beq 0 0 = true from rfl, chk_true, show Nat.beq m m = true from Nat.beq_refl m, chk_true, Nat.ble_eq_true_of_le h2, chk_true,
      show Nat.ble (Nat.add o n) es = true from Nat.ble_eq_true_of_le hk, chk_true, show Nat.ble (Nat.succ q) m = true from Nat.ble_eq_true_of_le hq, chk_true, lenL_eq, hn, show Nat.beq n n = true from Nat.beq_refl n, chk_true, h3, ob_mk, RT.setC_eq, HT.setC_eq]
    cases Nat.beq n es <;> rfl
theorem store_eq {call : CallF} {n f g o : Nat} {a x : Opd} {v : AVal} {new : List AVal} (ha : a.ev E = some (.ptr f g o)) (hx : x.ev E = some v) (hv : cellsOk v = some new) :
    (Ins.store n a x).ev call E H = wr H f g o n new (.err 5) fun H => .ok .undef H := by
  show withO a E (.err 5) (fun p => onPtr p (.err 5) fun f g off => withO x E (.err 5) fun v => ob (cellsOk v) (.err 5) fun l => wr H f g off n l (.err 5) fun H => .ok .undef H) = _
  rw [withO_eq, ha, ob_mk]
  show withO x E (.err 5) (fun v => ob (cellsOk v) (.err 5) fun l => wr H f g o n l (.err 5) fun H => .ok .undef H) = _
  rw [withO_eq, hx, ob_mk, hv, ob_mk]
theorem ipost_set {v : VV} {a : AVal} {b : Nat} {s s' : BS} (hr : Rel H0 X0 VE B E H β) (hb : getL B b = some s) (hso : s.born) (hn : H'.next = H.next) (hs : ∀ f, f ≠ β b → H'.t.get f = H.t.get f) (hm : H'.mrk = H.mrk) (hw : H'.ws = wrote (β b) H.mrk H.ws)
    (hbox : ∀ X, (∀ v a, VRep H (XB X0 B β) β v a → VRep H' X β v a) → (∀ row l, RepCells H (XB X0 B β) row l → RepCells H' X row l) → BoxOk H' X β (β b) s')
    (hv : ∀ X, VRep H' X β v a) (hq : Q v ((b, s') :: B)) : IPost H0 X0 VE E H false Q a H' := by
  have hnew := hr.new b s hb hso
  have hdom : ∀ c t, getL ((b, s') :: B) c = some t → (c = b ∧ t = s') ∨ (c ≠ b ∧ getL B c = some t) := fun c t hc => by
    rw [getL_cons] at hc
    by_cases e : b = c
    · rw [if_pos e] at hc; cases hc; exact .inl ⟨e.symm, rfl⟩
    · rw [if_neg e] at hc; exact .inr ⟨fun k => e k.symm, hc⟩
  have hX : ∀ f, XB X0 ((b, s') :: B) β f → XB X0 B β f := fun f hx => by
    rcases hx with k | ⟨c, t, h1, ho, h2⟩
    · exact .inl k
    · rcases hdom c t h1 with ⟨rfl, _⟩ | ⟨_, h3⟩
      · exact .inr ⟨_, s, hb, hso, h2⟩
      · exact .inr ⟨c, t, h3, ho, h2⟩
  have hl : Lift H (XB X0 B β) H' (XB X0 ((b, s') :: B) β) := ⟨by omega, fun f hf hx => ⟨fun k => hx (hX f k), hs f fun e => hx (.inr ⟨b, s, hb, hso, e.symm⟩)⟩⟩
  refine ⟨hm, fun e => (by cases e), ⟨fun f hf => ?_, fun hle => ?_⟩, v, (b, s') :: B, β, ⟨by rw [hn]; exact hr.next, fun f hf => (hs f (by omega)).trans (hr.same f hf), by rw [hm, hn]; exact hr.mrk, hr.x0, fun c t hc hto => ?_, fun c e t u hc he hto huo hce => ?_, fun k w hk => ?_, fun c t hc => ?_⟩, hv _, hq⟩
  · rw [hw] at hf
    unfold wrote at hf
    cases h1 : Nat.ble H.mrk (β b) with
    | true => rw [h1] at hf; exact .inl hf
    | false =>
      rw [h1] at hf
      cases h2 : memN (β b) H.ws with
      | true => rw [h2] at hf; exact .inl hf
      | false =>
        rw [h2] at hf
        rcases List.mem_cons.1 hf with rfl | h
        · exact .inr hnew.1
        · exact .inl h
  · rw [hw]
    unfold wrote
    rw [Nat.ble_eq_true_of_le (Nat.le_trans hle hnew.1), chk_true]
  · rw [hn]
    rcases hdom c t hc with ⟨rfl, _⟩ | ⟨_, h3⟩
    · exact hnew
    · exact hr.new c t h3 hto
  · rcases hdom c t hc with ⟨rfl, _⟩ | ⟨_, h3⟩ <;> rcases hdom e u he with ⟨rfl, _⟩ | ⟨_, h4⟩
    · rfl
    · exact hr.inj _ _ _ _ hb h4 hso huo hce
    · exact hr.inj _ _ _ _ h3 hb hto hso hce
    · exact hr.inj _ _ _ _ h3 h4 hto huo hce
  · obtain ⟨a, h1, h2⟩ := hr.env k w hk
    exact ⟨a, h1, h2.lift hl⟩
  · rcases hdom c t hc with ⟨rfl, rfl⟩ | ⟨hcb, h3⟩
    · exact hbox _ (fun v a k => k.lift hl) (fun row l k => k.lift hl)
    · exact BoxOk.lift' hl (fun hto => hs _ fun e => hcb (hr.inj c b t s h3 hb hto hso e)) (hr.box c t h3)
theorem vi_storeV {n : Nat} {a x : Opd} {b o elem bts : Nat} {row new : List VV} {v : VV} (ha : a.vv VE = some (.vp b o)) (hb : getL B b = some (.one elem bts row)) (hx : x.vv VE = some v) (hv : v.cells = some new) (hn : new.length = n) (h0 : 0 < n) (hk : o + n ≤ row.length) (hq : Q .undef ((b, .one elem bts (putV row o new)) :: B)) : VI T (.store n a x) VE B false Q := fun _ X0 _ H β hr => by
  obtain ⟨_, h1, h2⟩ := hr.opd ha
  simp only [VRep] at h2
  subst h2
  obtain ⟨y, h3, h4⟩ := hr.opd hx
  obtain ⟨t, h5, h6⟩ := h4.cells hv
  obtain ⟨l, lo, cs, k1, k2, k3, k4⟩ := hr.box b _ hb
  have ht : t.length = n := by rw [h6.length, hn]
  have hll := k4.length
  have e := fun K => wr_at (e := Res.err 5) (K := K) (q := 0) (o := o) (n := n) (new := t) k1 k2 Nat.zero_lt_one k3 rfl ht h0 (by omega)
  simp only [Nat.zero_mul, Nat.zero_add] at e
  refine ⟨0, .undef, _, fun lf m _ _ => by rw [store_eq h1 h3 h5, e], ?_⟩
  refine ipost_set hr hb trivial rfl (fun f hf => ?_) rfl rfl (fun X j1 j2 => ?_) (fun X => by simp only [VRep]) hq
  · show (H.t.set (β b) _).get f = _
    rw [HT.get_set, if_neg hf]
  · have hlen : (bif Nat.beq n l.length then t else splice l o t).length = l.length := by
      cases hbq : Nat.beq n l.length with
      | true => have := Nat.eq_of_beq_eq_true hbq; show t.length = _; omega
      | false => show (splice l o t).length = _; simp only [splice, List.length_append, List.length_take, List.length_drop]; omega
    refine ⟨bif Nat.beq n l.length then t else splice l o t, 1, cs.set 0 (bif Nat.beq n l.length then t else splice l o t), ?_, Nat.le_refl _, by rw [RT.get_set, if_pos rfl], ?_⟩
    · show (H.t.set (β b) _).get (β b) = _
      rw [HT.get_set, if_pos rfl, hlen]
    · have h7 := VReps_mono j1 h6
      have h8 := VReps_mono j1 k4
      unfold putV
      rw [hn, ← hll]
      exact VReps.bif h7 (h8.splice o h7)
end
end Go.Ev
