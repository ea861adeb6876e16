/- A part of an evaluator for the program's code: The evaluator by equations, for inputs that are not known. It holds for every program. -/
import Derived.Test.YtgjadkcogmpkdaaGreatDoorEvZ
/-! The evaluator by equations, for inputs that are not known. -/
set_option linter.unusedVariables false
set_option linter.unusedSimpArgs false
namespace Go.Ev
section
variable {call : CallF} {lf : Nat} {E : Env} {H : AHeap}

theorem Env.get_same (E : Env) (k : Key) (v : AVal) : (E.set k v).get k = some v := by rw [Env.get_set, if_pos rfl]
theorem Env.get_ne (E : Env) {k k' : Key} (v : AVal) (h : k' ≠ k) : (E.set k v).get k' = E.get k' := by rw [Env.get_set, if_neg h]

theorem params_nil (E : Env) (c : Env → Res) : params [] [] E c = c E := rfl
theorem params_cons (k : Key) (ks : List Key) (v : AVal) (l : List AVal) (E : Env) (c : Env → Res) : params (k :: ks) (v :: l) E c = params ks l (E.set k v) c :=
  Env.setC_eq E k v fun E => params ks l E c

theorem region_ev (ops : List IOp) : (IC.region false ops).ev call lf E H = ofO (evOps call ops E H) := rfl
theorem regionQ_ev (ops : List IOp) : (IC.region true ops).ev call lf E H = ofO (evOpsQ call ops E H []) := rfl
theorem seq_ev (a b : IC) : (IC.seq a b).ev call lf E H = onNormal (a.ev call lf E H) (b.ev call lf) := rfl
theorem ofO_mk (E : Env) (H : AHeap) : ofO (.ok E H) = .ok .normal E H := rfl
theorem onNormal_mk (E : Env) (H : AHeap) (k : Env → AHeap → Out) : onNormal (.ok .normal E H) k = k E H := rfl
theorem evOps_nil : evOps call [] E H = .ok E H := rfl
theorem evOps_plain (d : Option Key) (q : Option (List Nat)) (op : Ins) (r : List IOp) : evOps call (⟨d, none, q, op⟩ :: r) E H = fin d E (evOps call r) (op.ev call E H) := rfl
theorem fin_some (d : Key) (v : AVal) (k : Env → AHeap → ORes) : fin (some d) E k (.ok v H) = k (E.set d v) H := Env.setO_eq E d v fun E => k E H
theorem fin_none (v : AVal) (k : Env → AHeap → ORes) : fin none E k (.ok v H) = k E H := rfl
theorem t_ev (k : Key) : (Opd.t k).ev E = E.get k := rfl
theorem c_ev (v : AVal) : (Opd.c v).ev E = some v := rfl
theorem ob_mk {α β : Type} (x : α) (e : β) (k : α → β) : ob (some x) e k = k x := rfl
theorem mov_ev (x : Opd) : (Ins.mov x).ev call E H = ob (x.ev E) (.err 1) fun v => .ok v H := withO_eq x E _ _
theorem bin_ev (op : BinOp) (x y : Opd) : (Ins.bin op x y).ev call E H = ob (x.ev E) (.err 6) fun a => ob (y.ev E) (.err 6) fun b => ob (binA op a b) (.err 6) fun v => .ok v H := by
  show withO x E (.err 6) (fun a => withO y E (.err 6) fun b => binR op a b fun v => .ok v H) = _
  simp only [withO_eq, binR_eq, seqVal_eq]
theorem conv_ev (k : IntKind) (x : Opd) : (Ins.conv k x).ev call E H = ob (x.ev E) (.err 36) fun v => onInt v (.err 36) fun _ n => .ok (.int k (wrapF k n)) H := by
  show withO x E (.err 36) (fun v => onInt v (.err 36) fun _ n => seqInt (wrapF k n) fun n => .ok (.int k n) H) = _
  simp only [withO_eq, seqInt_eq]
theorem onInt_mk (k : IntKind) (n : Int) (e : Res) (f : IntKind → Int → Res) : onInt (.int k n) e f = f k n := rfl

/-- the end of a function's body -/
noncomputable def fnEnd (fn : IFn) (o : Out) : Res :=
  Out.rec (motive := fun _ => Res) (fun x E H => Ex.rec (motive := fun _ => Res) (results E H fn.res) (fun _ => .err 72) (results E H fn.res) x) .err o
theorem evFn_eq (fn : IFn) (args : List AVal) (H : AHeap) : evFn call lf fn args H = params fn.ps args .emp fun E => fnEnd fn (fn.body.ev call lf E H) := rfl
theorem evFn_seq2 {fn : IFn} {a b c : IC} (hb : fn.body = .seq a (.seq b c)) (args : List AVal) (H : AHeap) :
    evFn call lf fn args H = params fn.ps args .emp fun E => fnEnd fn (onNormal (a.ev call lf E H) fun E H => onNormal (b.ev call lf E H) (c.ev call lf)) := by
  rw [evFn_eq, hb]; rfl
end

/-- a world that is as it was, as the rows want it -/
theorem Kept.keptBut {w w' : World} (h : Kept w w') (may : MemPlace → Prop) : w.keptBut w' may := by
  refine ⟨h.os, h.output, fun i hi => ?_⟩
  rw [h.old i hi]
  cases w.heap[i]? with
  | none => rfl
  | some o => cases o with
    | cells c t fr => exact ⟨rfl, rfl, rfl, fun _ _ => rfl⟩
    | map es clock => exact .inr ⟨rfl, rfl⟩
    | _ => rfl
/-- the places of the package-level variables are there -/
theorem low_of_shaped {P : Program} {w : World} (h : w.ShapedOpen P) (hr : ((List.range P.globals.size).all fun g => ((((begin P (fun _ _ => 0) default).world.heap[g]?).bind Obj.row?).isSome)) = true) : ∀ g, g < P.globals.size → g < w.heap.size := by
  intro g hg
  have h1 := List.all_eq_true.1 hr g (List.mem_range.2 hg)
  cases hx : ((begin P (fun _ _ => 0) default).world.heap[g]?).bind Obj.row? with
  | none => rw [hx] at h1; cases h1
  | some x =>
    obtain ⟨zero, t⟩ := x
    obtain ⟨cs, hc, _⟩ := h.1 g zero t hg hx
    exact (Array.getElem?_eq_some_iff.1 hc).1

/-! ### A witness' world -/
mutual
def flatD {H : Type} : DataW H → List Value
  | .lit (.int k n) => [.int k n]
  | .lit (.bool b) => [.bool b]
  | .lit (.string bs) => [.string ⟨bs.toArray⟩]
  | .agg parts => flatDs parts
  | _ => []
def flatDs {H : Type} : List (DataW H) → List Value
  | [] => []
  | d :: r => flatD d ++ flatDs r
end
def putG (h : Array Obj) (g : Nat) (cs : List Value) : Array Obj := h.modify g fun
  | .cells _ t frozen => .cells cs.toArray t frozen
  | o => o
end Go.Ev
