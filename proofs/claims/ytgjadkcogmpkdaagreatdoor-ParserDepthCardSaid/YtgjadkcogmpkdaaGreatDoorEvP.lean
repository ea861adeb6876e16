/- A part of an evaluator for the program's code: One operation: it looks at its operands alone; it is sound. It holds for every program. -/
import Derived.Test.YtgjadkcogmpkdaaGreatDoorEvO
/-! One operation: it looks at its operands alone; it is sound. -/
set_option linter.unusedVariables false
set_option linter.unusedSimpArgs false
namespace Go.Ev

def Ins.opds : Ins → List Opd
  | .mov x => [x]
  | .pick c a b => [c, a, b]
  | .boxz _ _ _ _ => []
  | .box _ _ _ x => [x]
  | .load _ _ a => [a]
  | .store _ a x => [a, x]
  | .bin _ x y => [x, y]
  | .eqv _ _ x y => [x, y]
  | .un _ x => [x]
  | .offs x _ => [x]
  | .sub x _ _ _ => [x]
  | .idxArr _ _ x i => [x, i]
  | .idxSl _ x i => [x, i]
  | .idxVal _ _ _ x i => [x, i]
  | .idxStr x i => [x, i]
  | .slStr x lo hi => x :: (lo.toList ++ hi.toList)
  | .slSl _ x lo hi => x :: (lo.toList ++ hi.toList)
  | .slArr _ _ x lo hi => x :: (lo.toList ++ hi.toList)
  | .extr x _ => [x]
  | .nilck x => [x]
  | .mkfn _ l => l
  | .mkif _ x => [x]
  | .mksl _ _ _ _ x y => [x, y]
  | .build _ ps => ps.map (·.2.2)
  | .buildSl _ _ _ _ _ ps => ps.map (·.2)
  | .len x => [x]
  | .lenK _ => []
  | .lenS x => [x]
  | .app _ _ _ x y => [x, y]
  | .appStr _ x y => [x, y]
  | .copy _ x y => [x, y]
  | .minmax _ x ys => x :: ys
  | .conv _ x => [x]
  | .convId x => [x]
  | .convSB _ x => [x]
  | .convBS x => [x]
  | .call _ l => l
  | .callv x l => x :: l
  | .uconv _ _ x => [x]
  | .usd x => [x]
  | .ustr _ x n => [x, n]

theorem withO_eq (x : Opd) (E : Env) (e : Res) (k : AVal → Res) : withO x E e k = ob (x.ev E) e k := by cases x <;> rfl

section
variable {E E' : Env}
theorem evs_congr : ∀ (l : List Opd), (∀ x ∈ l, x.ev E = x.ev E') → evs E l = evs E' l
  | [], _ => rfl
  | x :: r, h => by
    have h1 := h x (by simp)
    have h2 := evs_congr r (fun y hy => h y (by simp [hy]))
    show ob (x.ev E) none (fun v => ob (evs E r) none fun vs => some (v :: vs)) = ob (x.ev E') none (fun v => ob (evs E' r) none fun vs => some (v :: vs))
    rw [h1, h2]
theorem bnd_congr {x : Option Opd} {d y : Nat} {e : Res} {k : Nat → Res} (h : ∀ z ∈ x.toList, z.ev E = z.ev E') : bnd E x d y e k = bnd E' x d y e k := by
  cases x with
  | none => rfl
  | some z =>
    have h1 := h z (by simp)
    show ob (z.ev E) e _ = ob (z.ev E') e _
    rw [h1]
theorem buildA_congr : ∀ (ps : List (Nat × Nat × Opd)) (cells : List AVal), (∀ x ∈ ps.map (·.2.2), x.ev E = x.ev E') → buildA E ps cells = buildA E' ps cells
  | [], _, _ => rfl
  | p :: r, cells, h => by
    have h1 := h p.2.2 (by simp)
    have h2 := fun cells => buildA_congr r cells (fun y hy => h y (by simp only [List.map_cons, List.mem_cons]; exact .inr hy))
    show ob (p.2.2.ev E) none _ = ob (p.2.2.ev E') none _
    rw [h1]
    congr 1
    funext v
    congr 1
    funext new
    congr 1
    exact h2 _
theorem buildTr_congr (es ln : Nat) : ∀ (ps : List (Nat × Opd)) (t : RT), (∀ x ∈ ps.map (·.2), x.ev E = x.ev E') → buildTr E es ln ps t = buildTr E' es ln ps t
  | [], _, _ => rfl
  | p :: r, t, h => by
    have h1 := h p.2 (by simp)
    have h2 := fun t => buildTr_congr es ln r t (fun y hy => h y (by simp only [List.map_cons, List.mem_cons]; exact .inr hy))
    show ob (p.2.ev E) none _ = ob (p.2.ev E') none _
    rw [h1]
    congr 1
    funext v
    congr 1
    funext new
    congr 1
    congr 1
    exact h2 _

theorem Ins.ev_congr {call : CallF} {H : AHeap} (io : Ins) (h : ∀ x ∈ io.opds, x.ev E = x.ev E') : io.ev call E H = io.ev call E' H := by
  cases io with
  | mov x => have h1 := h x (by simp [Ins.opds]); show eMov x E H = eMov x E' H; simp only [eMov, withO_eq, h1]
  | pick c x y =>
    have h1 := h c (by simp [Ins.opds]); have h2 := h x (by simp [Ins.opds]); have h3 := h y (by simp [Ins.opds])
    show ePick c x y E H = ePick c x y E' H; simp only [ePick, eMov, withO_eq, h1, h2, h3]
  | boxz a b c d => rfl
  | box a b c x => have h1 := h x (by simp [Ins.opds]); show eBox a b c x E H = eBox a b c x E' H; simp only [eBox, eBoxz, withO_eq, h1]
  | load a b x => have h1 := h x (by simp [Ins.opds]); show eLoad a b x E H = eLoad a b x E' H; simp only [eLoad, withO_eq, h1]
  | store a x y => have h1 := h x (by simp [Ins.opds]); have h2 := h y (by simp [Ins.opds]); show eStore a x y E H = eStore a x y E' H; simp only [eStore, withO_eq, h1, h2]
  | bin a x y => have h1 := h x (by simp [Ins.opds]); have h2 := h y (by simp [Ins.opds]); show eBin a x y E H = eBin a x y E' H; simp only [eBin, withO_eq, h1, h2]
  | eqv a b x y => have h1 := h x (by simp [Ins.opds]); have h2 := h y (by simp [Ins.opds]); show eEq a b x y E H = eEq a b x y E' H; simp only [eEq, withO_eq, h1, h2]
  | un a x => have h1 := h x (by simp [Ins.opds]); show eUn a x E H = eUn a x E' H; simp only [eUn, withO_eq, h1]
  | offs x a => have h1 := h x (by simp [Ins.opds]); show eOffs x a E H = eOffs x a E' H; simp only [eOffs, withO_eq, h1]
  | sub x a b c => have h1 := h x (by simp [Ins.opds]); show eSub x a b c E H = eSub x a b c E' H; simp only [eSub, withO_eq, h1]
  | idxArr a b x y => have h1 := h x (by simp [Ins.opds]); have h2 := h y (by simp [Ins.opds]); show eIdxArr a b x y E H = eIdxArr a b x y E' H; simp only [eIdxArr, withO_eq, h1, h2]
  | idxSl a x y => have h1 := h x (by simp [Ins.opds]); have h2 := h y (by simp [Ins.opds]); show eIdxSl a x y E H = eIdxSl a x y E' H; simp only [eIdxSl, withO_eq, h1, h2]
  | idxVal a b c x y => have h1 := h x (by simp [Ins.opds]); have h2 := h y (by simp [Ins.opds]); show eIdxVal a b c x y E H = eIdxVal a b c x y E' H; simp only [eIdxVal, withO_eq, h1, h2]
  | idxStr x y => have h1 := h x (by simp [Ins.opds]); have h2 := h y (by simp [Ins.opds]); show eIdxStr x y E H = eIdxStr x y E' H; simp only [eIdxStr, withO_eq, h1, h2]
  | slStr x lo hi =>
    have h1 := h x (by simp [Ins.opds])
    have h2 : ∀ z ∈ lo.toList, z.ev E = z.ev E' := fun z hz => h z (by simp only [Ins.opds, List.mem_cons, List.mem_append]; exact .inr (.inl hz))
    have h3 : ∀ z ∈ hi.toList, z.ev E = z.ev E' := fun z hz => h z (by simp only [Ins.opds, List.mem_cons, List.mem_append]; exact .inr (.inr hz))
    show eSlStr x lo hi E H = eSlStr x lo hi E' H
    simp only [eSlStr, withO_eq, h1, bnd_congr h2, bnd_congr h3]
  | slSl n x lo hi =>
    have h1 := h x (by simp [Ins.opds])
    have h2 : ∀ z ∈ lo.toList, z.ev E = z.ev E' := fun z hz => h z (by simp only [Ins.opds, List.mem_cons, List.mem_append]; exact .inr (.inl hz))
    have h3 : ∀ z ∈ hi.toList, z.ev E = z.ev E' := fun z hz => h z (by simp only [Ins.opds, List.mem_cons, List.mem_append]; exact .inr (.inr hz))
    show eSlSl n x lo hi E H = eSlSl n x lo hi E' H
    simp only [eSlSl, withO_eq, h1, bnd_congr h2, bnd_congr h3]
  | slArr k n x lo hi =>
    have h1 := h x (by simp [Ins.opds])
    have h2 : ∀ z ∈ lo.toList, z.ev E = z.ev E' := fun z hz => h z (by simp only [Ins.opds, List.mem_cons, List.mem_append]; exact .inr (.inl hz))
    have h3 : ∀ z ∈ hi.toList, z.ev E = z.ev E' := fun z hz => h z (by simp only [Ins.opds, List.mem_cons, List.mem_append]; exact .inr (.inr hz))
    show eSlArr k n x lo hi E H = eSlArr k n x lo hi E' H
    simp only [eSlArr, withO_eq, h1, bnd_congr h2, bnd_congr h3]
  | extr x a => have h1 := h x (by simp [Ins.opds]); show eExtr x a E H = eExtr x a E' H; simp only [eExtr, withO_eq, h1]
  | nilck x => have h1 := h x (by simp [Ins.opds]); show eNilck x E H = eNilck x E' H; simp only [eNilck, withO_eq, h1]
  | mkfn f l => have h1 := evs_congr l h; show eMkfn f l E H = eMkfn f l E' H; simp only [eMkfn, h1]
  | mkif t x => have h1 := h x (by simp [Ins.opds]); show eMkif t x E H = eMkif t x E' H; simp only [eMkif, withO_eq, h1]
  | mksl a b c d x y => have h1 := h x (by simp [Ins.opds]); have h2 := h y (by simp [Ins.opds]); show eMksl a b c d x y E H = eMksl a b c d x y E' H; simp only [eMksl, withO_eq, h1, h2]
  | build z ps => have h1 := buildA_congr ps z h; show eBuild z ps E H = eBuild z ps E' H; simp only [eBuild, h1]
  | buildSl a b c d z ps => have h1 := buildTr_congr b d ps (repTr z d) h; show eBuildSl a b c d z ps E H = eBuildSl a b c d z ps E' H; simp only [eBuildSl, h1]
  | len x => have h1 := h x (by simp [Ins.opds]); show eLen x E H = eLen x E' H; simp only [eLen, withO_eq, h1]
  | lenK n => rfl
  | lenS x => have h1 := h x (by simp [Ins.opds]); show eLenS x E H = eLenS x E' H; simp only [eLenS, withO_eq, h1]
  | app a b c x y => have h1 := h x (by simp [Ins.opds]); have h2 := h y (by simp [Ins.opds]); show eApp a b c x y E H = eApp a b c x y E' H; simp only [eApp, withO_eq, h1, h2]
  | appStr a x y => have h1 := h x (by simp [Ins.opds]); have h2 := h y (by simp [Ins.opds]); show eAppStr a x y E H = eAppStr a x y E' H; simp only [eAppStr, withO_eq, h1, h2]
  | copy a x y => rfl
  | minmax m x ys =>
    have h1 := h x (by simp [Ins.opds]); have h2 := evs_congr ys (fun z hz => h z (by simp only [Ins.opds, List.mem_cons]; exact .inr hz))
    show eMinmax m x ys E H = eMinmax m x ys E' H; simp only [eMinmax, withO_eq, h1, h2]
  | conv k x => have h1 := h x (by simp [Ins.opds]); show eConv k x E H = eConv k x E' H; simp only [eConv, withO_eq, h1]
  | convId x => have h1 := h x (by simp [Ins.opds]); show eMov x E H = eMov x E' H; simp only [eMov, withO_eq, h1]
  | convSB e x => have h1 := h x (by simp [Ins.opds]); show eConvSB e x E H = eConvSB e x E' H; simp only [eConvSB, withO_eq, h1]
  | convBS x => have h1 := h x (by simp [Ins.opds]); show eConvBS x E H = eConvBS x E' H; simp only [eConvBS, withO_eq, h1]
  | call f l => have h1 := evs_congr l h; show eCall f l call E H = eCall f l call E' H; simp only [eCall, h1]
  | callv x l =>
    have h1 := h x (by simp [Ins.opds]); have h2 := evs_congr l (fun z hz => h z (by simp only [Ins.opds, List.mem_cons]; exact .inr hz))
    show eCallv x l call E H = eCallv x l call E' H; simp only [eCallv, withO_eq, h1, h2]
  | uconv t n x => have h1 := h x (by simp [Ins.opds]); show eUconv t n x E H = eUconv t n x E' H; simp only [eUconv, withO_eq, h1]
  | usd x => have h1 := h x (by simp [Ins.opds]); show eUsd x E H = eUsd x E' H; simp only [eUsd, withO_eq, h1]
  | ustr e x n => have h1 := h x (by simp [Ins.opds]); have h2 := h n (by simp [Ins.opds]); show eUstr e x n E H = eUstr e x n E' H; simp only [eUstr, withO_eq, h1, h2]

theorem Ins.reads_congr (io : Ins) (h : ∀ x ∈ io.opds, x.ev E = x.ev E') : io.reads E = io.reads E' := by
  cases io with
  | load a b x => have h1 := h x (by simp [Ins.opds]); simp only [Ins.reads, h1]
  | app a b c x y => have h1 := h x (by simp [Ins.opds]); have h2 := h y (by simp [Ins.opds]); simp only [Ins.reads, h1, h2]
  | appStr a x y => have h1 := h x (by simp [Ins.opds]); simp only [Ins.reads, h1]
  | convBS x => have h1 := h x (by simp [Ins.opds]); simp only [Ins.reads, h1]
  | store a x y => have h1 := h x (by simp [Ins.opds]); simp only [Ins.reads, h1]
  | uconv t n x => have h1 := h x (by simp [Ins.opds]); simp only [Ins.reads, h1]
  | ustr t x n => have h1 := h x (by simp [Ins.opds]); simp only [Ins.reads, h1]
  | slArr a b x lo hi => have h1 := h x (by simp [Ins.opds]); simp only [Ins.reads, h1]
  | _ => rfl
end

/-- What is asked of the evaluation of a call. -/
def Known (ρ : Ho) (C : Nat → Option AObj) (H : AHeap) : Prop := ∀ f o, (∃ g h, ρ f g = some h) → H.t.get f = some o → C f = some o
def Globs (P : Program) (ρ : Ho) : Prop := ∀ g, g < P.globals.size → ∃ h, ρ g 1 = some h ∧ h.blk = g ∧ h.off = 0
structure CallOk (P : Program) (call : CallF) : Prop where
  tame : ∀ f args H, H.mrk ≤ H.next → TM H (call f args H)
  sound : ∀ f args H v H' ρ C w (cargs : Array Value), call f args H = .ok v H' → H.mrk ≤ H.next → (∀ x, H.next ≤ x → H.t.get x = none) → R ρ C w → Known ρ C H → Free ρ H.next H'.next → Globs P ρ → VRs ρ args cargs.toList →
    ((callFunc f cargs).run P w = .ok (.enter f cargs) w ∧ Calls P f cargs w fun e w' => ∃ cv, e = .returned cv ∧ Post ρ C w H v H' cv w') ∨
    ∃ cv w', (callFunc f cargs).run P w = .ok (.value cv) w' ∧ Post ρ C w H v H' cv w'

section
variable {P : Program} {ρ : Ho} {nt : Nat} {E : Env} {a : Act} {C : Nat → Option AObj} {w : World} {H H' : AHeap} {v : AVal} {o : Oper} {call : CallF}

theorem call_sound (hA : AR P ρ nt E a) (hR : R ρ C w) (hF : Free ρ H.next H'.next) (hK : Known ρ C H) (hm : H.mrk ≤ H.next) (hwf : ∀ x, H.next ≤ x → H.t.get x = none) (hc : CallOk P call) {c : Call} {f : Nat} {args : List Opd}
    (ho : o.op = .call c) (hcl : c.callee = .value (.func f)) (hx : opdsOf P c.args.toList = some args) (h : eCall f args call E H = .ok v H') : OpOk P o a w (Post ρ C w H v H') := by
  replace h := ob_ok h; obtain ⟨vs, hv, h⟩ := h
  have h1 := hA.opds hx hv
  rcases hc.sound f vs H v H' ρ C w (c.args.map a.eval) h hm hwf hR hK hF hA.glob (by simpa using h1) with ⟨hp, hcs⟩ | ⟨cv, w', hp, hpost⟩
  · refine .inr (.inr ⟨f, c.args.map a.eval, ?_, hcs⟩)
    simp [execOp, ho, resolve, hcl, Deferred.ofValue, Act.eval, invoke, hp]
  · refine .inl ⟨cv, w', ?_, hpost⟩
    simp [execOp, ho, resolve, hcl, Deferred.ofValue, Act.eval, invoke, hp]

theorem callv_sound (hA : AR P ρ nt E a) (hR : R ρ C w) (hF : Free ρ H.next H'.next) (hK : Known ρ C H) (hm : H.mrk ≤ H.next) (hwf : ∀ x, H.next ≤ x → H.t.get x = none) (hc : CallOk P call) {c : Call} {x : Operand} {x' : Opd} {args : List Opd}
    (ho : o.op = .call c) (hcl : c.callee = .value x) (hx' : opdOf P x = some x') (hx : opdsOf P c.args.toList = some args) (h : eCallv x' args call E H = .ok v H') : OpOk P o a w (Post ρ C w H v H') := by
  replace h := withO_ok h; obtain ⟨u, hu, h⟩ := h
  replace h := onFunc_ok h; obtain ⟨f, caps, rfl, h⟩ := h
  replace h := ob_ok h; obtain ⟨vs, hv, h⟩ := h
  have h1 := hA.opds hx hv
  have h2 := hA.opd hx' hu
  simp only [VR] at h2
  obtain ⟨cc, h2, h3⟩ := h2
  rcases hc.sound f (vs ++ caps) H v H' ρ C w (c.args.map a.eval ++ cc) h hm hwf hR hK hF hA.glob (by simpa using VRs.append h1 h3) with ⟨hp, hcs⟩ | ⟨cv, w', hp, hpost⟩
  · refine .inr (.inr ⟨f, c.args.map a.eval ++ cc, ?_, hcs⟩)
    simp [execOp, ho, resolve, hcl, Deferred.ofValue, h2, invoke, hp]
  · refine .inl ⟨cv, w', ?_, hpost⟩
    simp [execOp, ho, resolve, hcl, Deferred.ofValue, h2, invoke, hp]

end
end Go.Ev
