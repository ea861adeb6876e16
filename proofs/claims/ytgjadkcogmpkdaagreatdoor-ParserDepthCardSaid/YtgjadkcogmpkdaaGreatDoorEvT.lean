/- A part of an evaluator for the program's code: Regions that draw their order: what is known before the run. It holds for every program. -/
import Derived.Test.YtgjadkcogmpkdaaGreatDoorEvS
/-! Regions that draw their order: what is known before the run. -/
set_option linter.unusedVariables false
set_option linter.unusedSimpArgs false
namespace Go.Ev

/-- 'r', if it is a result, leaves H as it is. -/
def PS (H : AHeap) (r : Res) : Prop := ∀ v H', r = .ok v H' → H' = H
theorem PS.err {H : AHeap} {n : Nat} : PS H (.err n) := fun _ _ h => by cases h
theorem PS.ok {H : AHeap} {v : AVal} : PS H (.ok v H) := fun _ _ h => by cases h; rfl
theorem PS.chk {H : AHeap} {b : Bool} {k e : Res} (h : PS H k) (h' : PS H e) : PS H (chk b k e) := by cases b; exact h'; exact h
theorem PS.ob {H : AHeap} {α : Type} {o : Option α} {e : Res} {k : α → Res} (h : ∀ x, PS H (k x)) (h' : PS H e) : PS H (ob o e k) := by cases o; exact h'; exact h _
theorem PS.withO {H : AHeap} {x : Opd} {E : Env} {e : Res} {k : AVal → Res} (h : ∀ x, PS H (k x)) (h' : PS H e) : PS H (withO x E e k) := by
  cases x with
  | t i => exact PS.ob (o := E.get i) h h'
  | c a => exact h a
theorem PS.onBool {H : AHeap} {a : AVal} {e : Res} {k : Bool → Res} (h : ∀ x, PS H (k x)) (h' : PS H e) : PS H (onBool a e k) := by cases a <;> first | exact h' | exact h _
theorem PS.onInt {H : AHeap} {a : AVal} {e : Res} {k : IntKind → Int → Res} (h : ∀ x y, PS H (k x y)) (h' : PS H e) : PS H (onInt a e k) := by cases a <;> first | exact h' | exact h _ _
theorem PS.onStr {H : AHeap} {a : AVal} {e : Res} {k : Nat → Nat → Res} (h : ∀ x y, PS H (k x y)) (h' : PS H e) : PS H (onStr a e k) := by cases a <;> first | exact h' | exact h _ _
theorem PS.onPtr {H : AHeap} {a : AVal} {e : Res} {k : Nat → Nat → Nat → Res} (h : ∀ x y z, PS H (k x y z)) (h' : PS H e) : PS H (onPtr a e k) := by cases a <;> first | exact h' | exact h _ _ _
theorem PS.onSlice {H : AHeap} {a : AVal} {e e2 : Res} {k : Nat → Nat → Nat → Nat → Nat → Res} (h : ∀ x y z u w, PS H (k x y z u w)) (h2 : PS H e2) (h' : PS H e) : PS H (onSlice a e e2 k) := by cases a <;> first | exact h' | exact h2 | exact h _ _ _ _ _
theorem PS.onAgg {H : AHeap} {a : AVal} {e : Res} {k : List AVal → Res} (h : ∀ x, PS H (k x)) (h' : PS H e) : PS H (onAgg a e k) := by cases a <;> first | exact h' | exact h _
theorem PS.onTuple {H : AHeap} {a : AVal} {e : Res} {k : List AVal → Res} (h : ∀ x, PS H (k x)) (h' : PS H e) : PS H (onTuple a e k) := by cases a <;> first | exact h' | exact h _
theorem PS.onFunc {H : AHeap} {a : AVal} {e : Res} {k : Nat → List AVal → Res} (h : ∀ x y, PS H (k x y)) (h' : PS H e) : PS H (onFunc a e k) := by cases a <;> first | exact h' | exact h _ _
theorem PS.onNat {H : AHeap} {i : Int} {e : Res} {k : Nat → Res} (h : ∀ x, PS H (k x)) (h' : PS H e) : PS H (onNat i e k) := by cases i; exact h _; exact h'
theorem PS.idx {H : AHeap} {a : AVal} {n : Nat} {e : Res} {k : Nat → Res} (h : ∀ x, PS H (k x)) (h' : PS H e) : PS H (idx a n e k) := PS.onInt (fun _ _ => PS.onNat (fun _ => PS.chk (h _) h') h') h'
theorem PS.bnd {H : AHeap} {E : Env} {x : Option Opd} {d y : Nat} {e : Res} {k : Nat → Res} (h : ∀ x, PS H (k x)) (h' : PS H e) : PS H (bnd E x d y e k) := by
  cases x with
  | none => exact h _
  | some z => exact PS.ob (fun _ => PS.onInt (fun _ _ => PS.onNat (fun _ => PS.chk (h _) h') h') h') h'
theorem PS.onRow {H : AHeap} {o : Option AObj} {e : Res} {k : Nat → Nat → Nat → Nat → Nat → Nat → RT → Res} (h : ∀ a b c d e f g, PS H (k a b c d e f g)) (h' : PS H e) : PS H (onRow o e k) := by
  cases o with
  | none => exact h'
  | some o => cases o with
    | row => exact h _ _ _ _ _ _ _
    | map => exact h'
theorem PS.outA {H : AHeap} {agg : Bool} {l : List AVal} {e : Res} {k : AVal → Res} (h : ∀ x, PS H (k x)) (h' : PS H e) : PS H (outA agg l e k) := by
  refine PS.chk (h _) ?_
  cases l with
  | nil => exact h'
  | cons x r => cases r with
    | nil => exact h _
    | cons => exact h'
theorem PS.seqNat {H : AHeap} {n : Nat} {k : Nat → Res} (h : ∀ x, PS H (k x)) : PS H (seqNat n k) := by rw [seqNat_eq]; exact h _
theorem PS.seqInt {H : AHeap} {n : Int} {k : Int → Res} (h : ∀ x, PS H (k x)) : PS H (seqInt n k) := by rw [seqInt_eq]; exact h _
theorem PS.seqVal {H : AHeap} {n : AVal} {k : AVal → Res} (h : ∀ x, PS H (k x)) : PS H (seqVal n k) := by rw [seqVal_eq]; exact h _
theorem PS.seqBool {H : AHeap} {n : Bool} {k : Bool → Res} (h : ∀ x, PS H (k x)) : PS H (seqBool n k) := by cases n <;> exact h _

theorem pure_same {call : CallF} {H : AHeap} {E : Env} {o : Ins} (hp : pureIO o = true) : PS H (o.ev call E H) := by
  cases o with
  | mov x => exact PS.withO (fun _ => PS.ok) PS.err
  | pick c a b => exact PS.withO (fun _ => PS.onBool (fun _ => PS.chk (PS.withO (fun _ => PS.ok) PS.err) (PS.withO (fun _ => PS.ok) PS.err)) PS.err) PS.err
  | boxz a b c d => cases hp
  | box a b c d => cases hp
  | load a b c => cases hp
  | store a b c => cases hp
  | bin op x y => exact PS.withO (fun _ => PS.withO (fun _ => by rw [binR_eq]; exact PS.ob (fun _ => PS.seqVal fun _ => PS.ok) PS.err) PS.err) PS.err
  | eqv c n x y => exact PS.withO (fun _ => PS.withO (fun _ => PS.ob (fun _ => PS.seqBool fun _ => PS.ok) PS.err) PS.err) PS.err
  | un op x => exact PS.withO (fun _ => PS.ob (fun _ => PS.seqVal fun _ => PS.ok) PS.err) PS.err
  | offs x k => exact PS.withO (fun _ => PS.onPtr (fun _ _ _ => PS.seqNat fun _ => PS.ok) PS.err) PS.err
  | sub x a b c => exact PS.withO (fun _ => PS.onAgg (fun _ => PS.chk (PS.outA (fun _ => PS.ok) PS.err) PS.err) PS.err) PS.err
  | idxArr a b x i => exact PS.withO (fun _ => PS.onPtr (fun _ _ _ => PS.withO (fun _ => PS.idx (fun _ => PS.seqNat fun _ => PS.ok) PS.err) PS.err) PS.err) PS.err
  | idxSl a x i => exact PS.withO (fun _ => PS.onSlice (fun _ _ _ _ _ => PS.withO (fun _ => PS.idx (fun _ => PS.seqNat fun _ => PS.ok) PS.err) PS.err) PS.err PS.err) PS.err
  | idxVal a b c x i => exact PS.withO (fun _ => PS.onAgg (fun _ => PS.withO (fun _ => PS.idx (fun _ => PS.chk (PS.outA (fun _ => PS.ok) PS.err) PS.err) PS.err) PS.err) PS.err) PS.err
  | idxStr x i => exact PS.withO (fun _ => PS.onStr (fun _ _ => PS.withO (fun _ => PS.idx (fun _ => PS.seqNat fun _ => PS.ok) PS.err) PS.err) PS.err) PS.err
  | slStr x a b => exact PS.withO (fun _ => PS.onStr (fun _ _ => PS.bnd (fun _ => PS.bnd (fun _ => PS.seqNat fun _ => PS.seqNat fun _ => PS.ok) PS.err) PS.err) PS.err) PS.err
  | slSl n x a b => exact PS.withO (fun _ => PS.onSlice (fun _ _ _ _ _ => PS.chk (PS.bnd (fun _ => PS.bnd (fun _ => PS.seqNat fun _ => PS.seqNat fun _ => PS.ok) PS.err) PS.err) PS.err) (PS.bnd (fun _ => PS.bnd (fun _ => PS.ok) PS.err) PS.err) PS.err) PS.err
  | slArr k n x a b => cases hp
  | extr x i => exact PS.withO (fun _ => PS.onTuple (fun _ => PS.ob (fun _ => PS.ok) PS.err) PS.err) PS.err
  | nilck x => exact PS.withO (fun _ => PS.chk PS.ok PS.err) PS.err
  | mkfn f l => exact PS.ob (fun _ => PS.ok) PS.err
  | mkif t x => exact PS.withO (fun _ => PS.ok) PS.err
  | mksl a b c d e f => cases hp
  | build a b => exact PS.ob (fun _ => PS.ok) PS.err
  | buildSl a b c d e f => cases hp
  | len x => exact PS.withO (fun _ => PS.onSlice (fun _ _ _ _ _ => PS.ok) PS.ok PS.err) PS.err
  | lenK n => exact PS.ok
  | lenS x => exact PS.withO (fun _ => PS.onStr (fun _ _ => PS.ok) PS.err) PS.err
  | app a b c x y => cases hp
  | appStr a x y => cases hp
  | copy a b c => cases hp
  | minmax a b c => exact PS.withO (fun _ => PS.onInt (fun _ _ => PS.ob (fun _ => PS.ob (fun _ => PS.ok) PS.err) PS.err) PS.err) PS.err
  | conv k x => exact PS.withO (fun _ => PS.onInt (fun _ _ => PS.seqInt fun _ => PS.ok) PS.err) PS.err
  | convId x => exact PS.withO (fun _ => PS.ok) PS.err
  | convSB e x => cases hp
  | convBS x => cases hp
  | call f l => cases hp
  | callv x l => cases hp
  | uconv t n x => cases hp
  | usd x => exact PS.withO (fun _ => PS.onSlice (fun _ _ _ _ _ => PS.chk PS.err PS.ok) PS.ok PS.err) PS.err
  | ustr e x n => cases hp
theorem pure_reads {E : Env} {o : Ins} (hp : pureIO o = true) : o.reads E = some [] := by
  cases o <;> first | rfl | cases hp

/-! ### The order -/
inductive Before (ops : Array Oper) : Nat → Nat → Prop
  | edge {j : Nat} {o : Oper} {e : Edge} : ops[j]? = some o → e ∈ o.after → Region.binds .any e = true → Before ops e.on j
  | step {i k j : Nat} : Before ops i k → Before ops k j → Before ops i j

def Closed (ops : Array Oper) (S : Nat → Bool) : Prop := ∀ j o e, ops[j]? = some o → e ∈ o.after → Region.binds .any e = true → S j = true → S e.on = true
def Ready (ops : Array Oper) (S : Nat → Bool) (j : Nat) : Prop := ∀ o e, ops[j]? = some o → e ∈ o.after → Region.binds .any e = true → S e.on = true

theorem Before.closed {ops : Array Oper} {S : Nat → Bool} (hS : Closed ops S) {i j : Nat} (h : Before ops i j) : S j = true → S i = true := by
  induction h with
  | edge h1 h2 h3 => exact fun h => hS _ _ _ h1 h2 h3 h
  | step _ _ ih1 ih2 => exact fun h => ih1 (ih2 h)
theorem Before.ready {ops : Array Oper} {S : Nat → Bool} (hS : Closed ops S) {i j : Nat} (h : Before ops i j) : Ready ops S j → S i = true := by
  induction h with
  | edge h1 h2 h3 => exact fun h => h _ _ h1 h2 h3
  | step h1 _ _ ih2 => exact fun h => h1.closed hS (ih2 h)

def orE (ms : List Nat) : List Edge → Nat
  | [] => 0
  | e :: r => if Region.binds .any e = true then 2 ^ e.on ||| ms.getD e.on 0 ||| orE ms r else orE ms r
def masksFrom : List Oper → List Nat → List Nat
  | [], ms => ms
  | o :: r, ms => masksFrom r (ms ++ [orE ms o.after.toList])
def backFrom : Nat → List Oper → Bool
  | _, [] => true
  | k, o :: r => (o.after.toList.all fun e => !Region.binds .any e || decide (e.on < k)) && backFrom (k + 1) r

theorem orE_ok {ops : Array Oper} {ms : List Nat} (hms : ∀ j i, (ms.getD j 0).testBit i = true → Before ops i j) {j : Nat} {o : Oper} (ho : ops[j]? = some o) :
    ∀ (l : List Edge), (∀ e, e ∈ l → e ∈ o.after) → ∀ i, (orE ms l).testBit i = true → Before ops i j
  | [], _, i, h => by simp [orE] at h
  | e :: r, hl, i, h => by
    have hr := orE_ok hms ho r (fun e he => hl e (List.mem_cons_of_mem _ he)) i
    unfold orE at h
    split at h
    · rename_i hb
      rw [Nat.testBit_or, Nat.testBit_or] at h
      simp only [Bool.or_eq_true] at h
      rcases h with (h | h) | h
      · rw [Nat.testBit_two_pow] at h
        have : e.on = i := by simpa using h
        subst this
        exact .edge ho (hl e (List.mem_cons_self ..)) hb
      · exact .step (hms _ _ h) (.edge ho (hl e (List.mem_cons_self ..)) hb)
      · exact hr h
    · exact hr h
theorem masksFrom_ok {ops : Array Oper} : ∀ (l : List Oper) (ms : List Nat), (∀ n, l[n]? = ops[ms.length + n]?) → (∀ j i, (ms.getD j 0).testBit i = true → Before ops i j) →
    ∀ j i, ((masksFrom l ms).getD j 0).testBit i = true → Before ops i j
  | [], ms, _, h => h
  | o :: r, ms, hl, h => by
    refine masksFrom_ok r _ (fun n => ?_) fun j i hj => ?_
    · have := hl (n + 1)
      simp only [List.getElem?_cons_succ] at this
      rw [this]; simp only [List.length_append, List.length_cons, List.length_nil]; congr 1; omega
    · have ho : ops[ms.length]? = some o := by have := hl 0; simpa using this.symm
      rcases Nat.lt_trichotomy j ms.length with hlt | rfl | hgt
      · rw [List.getD_eq_getElem?_getD, List.getElem?_append_left hlt, ← List.getD_eq_getElem?_getD] at hj
        exact h j i hj
      · rw [List.getD_eq_getElem?_getD, List.getElem?_append_right (Nat.le_refl _)] at hj
        simp only [Nat.sub_self, List.getElem?_cons_zero, Option.getD_some] at hj
        exact orE_ok h ho _ (fun e he => by simpa using he) i hj
      · rw [List.getD_eq_getElem?_getD, List.getElem?_eq_none (by simp; omega)] at hj
        simp at hj
theorem backFrom_ok : ∀ (l : List Oper) (k : Nat), backFrom k l = true → ∀ n o e, l[n]? = some o → e ∈ o.after → Region.binds .any e = true → e.on < k + n
  | [], _, _, n, o, e, h, _, _ => by simp at h
  | x :: r, k, h, n, o, e, hn, he, hb => by
    unfold backFrom at h
    simp only [Bool.and_eq_true, List.all_eq_true] at h
    cases n with
    | zero =>
      simp at hn; subst hn
      have := h.1 e (by simpa using he)
      simpa [hb] using this
    | succ n =>
      have := backFrom_ok r (k + 1) h.2 n o e (by simpa using hn) he hb
      omega

/-! ### The slots -/
def slotOf : Opd → Option Key
  | .t n => some n
  | _ => none
def looksI (o : IOp) : List Key := o.op.opds.filterMap slotOf ++ (match o.g with | some (t, _) => [t] | none => [])
def notIn (d : Option Key) (l : List Key) : Bool := match d with | some d => !(l.contains d) | none => true
def apartI (x y : IOp) : Bool := notIn x.dst (looksI y) && notIn x.dst y.dst.toList && notIn y.dst (looksI x)
def tmpsOk (ms : List Nat) (l : List IOp) : Bool :=
  (List.range l.length).all fun j => (List.range j).all fun i => (ms.getD j 0).testBit i || (match l[i]?, l[j]? with | some x, some y => apartI x y | _, _ => false)

theorem notIn_ok {d : Option Key} {l : List Key} (h : notIn d l = true) : ∀ t, t ∈ l → d ≠ some t := by
  intro t ht he
  subst he
  simp [notIn] at h
  exact h ht
structure ApartI (x y : IOp) : Prop where
  xy : ∀ t, t ∈ looksI y → x.dst ≠ some t
  dd : ∀ t, y.dst = some t → x.dst ≠ some t
  yx : ∀ t, t ∈ looksI x → y.dst ≠ some t
theorem apartI_ok {x y : IOp} (h : apartI x y = true) : ApartI x y := by
  unfold apartI at h
  simp only [Bool.and_eq_true] at h
  exact ⟨notIn_ok h.1.1, fun t ht => notIn_ok h.1.2 t (by simp [ht]), notIn_ok h.2⟩
theorem tmpsOk_ok {ms : List Nat} {l : List IOp} (h : tmpsOk ms l = true) {i j : Nat} {x y : IOp} (hij : i < j) (hx : l[i]? = some x) (hy : l[j]? = some y) : (ms.getD j 0).testBit i = true ∨ ApartI x y := by
  have hj : j < l.length := (List.getElem?_eq_some_iff.1 hy).1
  have h1 := List.all_eq_true.1 (List.all_eq_true.1 h j (List.mem_range.2 hj)) i (List.mem_range.2 hij)
  rw [hx, hy] at h1
  rcases Bool.or_eq_true _ _ |>.mp h1 with h1 | h1
  · exact .inl h1
  · exact .inr (apartI_ok h1)
theorem looks_opd {E E' : Env} {o : IOp} (h : ∀ t, t ∈ looksI o → E.get t = E'.get t) : ∀ x ∈ o.op.opds, x.ev E = x.ev E' := by
  intro x hx
  cases x with
  | t n => exact h n (List.mem_append_left _ (List.mem_filterMap.2 ⟨.t n, hx, rfl⟩))
  | c v => rfl
theorem looks_wants {E E' : Env} {o : IOp} (h : ∀ t, t ∈ looksI o → E.get t = E'.get t) {b : Bool} (hw : Wants E o.g b) : Wants E' o.g b := by
  generalize hg : o.g = g at hw
  cases hw with
  | none => exact .none
  | slot k =>
    rename_i t want b
    refine .slot ?_
    rw [← h t (List.mem_append_right _ (by rw [hg]; simp))]
    exact k

/-! ### The marks -/
def partnersM (m : Nat) : Nat → List Nat → List Nat
  | _, [] => []
  | k, j :: r => if m.testBit j then partnersM m (k + 1) r else k :: partnersM m (k + 1) r
def markM (ms : List Nat) : Nat → List Nat → List IOp → List IOp
  | _, _, [] => []
  | i, seen, o :: r => if pureIO o.op then { o with q := none } :: markM ms (i + 1) seen r else { o with q := some (partnersM (ms.getD i 0) 0 seen) } :: markM ms (i + 1) (i :: seen) r
def seenAt (L : List IOp) : Nat → List Nat
  | 0 => []
  | n + 1 => match L[n]? with
    | some o => if pureIO o.op then seenAt L n else n :: seenAt L n
    | none => seenAt L n

theorem partnersM_ok {m j : Nat} (hj : m.testBit j = false) : ∀ (seen : List Nat) (k n : Nat), seen[n]? = some j → k + n ∈ partnersM m k seen
  | [], _, _, h => by simp at h
  | x :: r, k, n, h => by
    unfold partnersM
    cases n with
    | zero => simp at h; subst h; rw [if_neg (by simp [hj])]; exact List.mem_cons_self ..
    | succ n =>
      have := partnersM_ok hj r (k + 1) n (by simpa using h)
      rw [show k + (n + 1) = k + 1 + n by omega]
      split
      · exact this
      · exact List.mem_cons_of_mem _ this
theorem markM_ok {ms : List Nat} {L : List IOp} : ∀ (l : List IOp) (i : Nat), (∀ n, l[n]? = L[i + n]?) → ∀ n io, (markM ms i (seenAt L i) l)[n]? = some io →
    ∃ io0, L[i + n]? = some io0 ∧ io.dst = io0.dst ∧ io.g = io0.g ∧ io.op = io0.op ∧ io.q = if pureIO io0.op then none else some (partnersM (ms.getD (i + n) 0) 0 (seenAt L (i + n)))
  | [], i, _, n, io, h => by simp [markM] at h
  | o :: r, i, hl, n, io, h => by
    have h0 : L[i]? = some o := by have := hl 0; simpa using this.symm
    have hr : ∀ n, r[n]? = L[i + 1 + n]? := fun n => by have := hl (n + 1); rw [show i + 1 + n = i + (n + 1) by omega]; simpa using this
    have ih := markM_ok (ms := ms) r (i + 1) hr
    have hs : seenAt L (i + 1) = if pureIO o.op then seenAt L i else i :: seenAt L i := by simp only [seenAt, h0]
    unfold markM at h
    cases n with
    | zero =>
      refine ⟨o, h0, ?_⟩
      split at h
      · rename_i hp; simp at h; subst h; exact ⟨rfl, rfl, rfl, by rw [if_pos hp]⟩
      · rename_i hp; simp at h; subst h; exact ⟨rfl, rfl, rfl, by rw [if_neg hp]; rfl⟩
    | succ n =>
      rw [show i + (n + 1) = i + 1 + n by omega]
      refine ih n io ?_
      rw [hs]
      split at h
      · rename_i hp; rw [if_pos hp]; simpa using h
      · rename_i hp; rw [if_neg hp]; simpa using h
theorem markM_length {ms : List Nat} : ∀ (l : List IOp) (i : Nat) (s : List Nat), (markM ms i s l).length = l.length
  | [], _, _ => rfl
  | o :: r, i, s => by
    unfold markM
    split <;> simp [markM_length r]
theorem seenAt_mem {L : List IOp} {i : Nat} {o : IOp} (h : L[i]? = some o) (hp : pureIO o.op = false) : ∀ n, i < n → i ∈ seenAt L n
  | 0, h => by omega
  | n + 1, hn => by
    unfold seenAt
    rcases Nat.lt_or_eq_of_le (Nat.le_of_lt_succ hn) with hlt | rfl
    · have := seenAt_mem h hp n hlt
      split
      · split
        · exact this
        · exact List.mem_cons_of_mem _ this
      · exact this
    · simp [h, hp]

end Go.Ev
