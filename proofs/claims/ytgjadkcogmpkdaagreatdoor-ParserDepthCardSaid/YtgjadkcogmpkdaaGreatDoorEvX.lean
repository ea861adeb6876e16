/- A part of an evaluator for the program's code: The turning of a function's code, and its soundness. It holds for every program. -/
import Derived.Test.YtgjadkcogmpkdaaGreatDoorEvW
import Derived.LoopN
/-! The turning of a function's code, and its soundness. -/
set_option linter.unusedVariables false
set_option linter.unusedSimpArgs false
namespace Go.Ev

def guardOf (ops : Array Oper) : Option (Nat × Bool) → Option (Option (Key × Bool))
  | none => some none
  | some (j, want) => match (ops[j]?).bind (·.dst) with | some d => if d < 216 then some (some (pk d, want)) else none | none => none
def dstOk (nt : Nat) : Option Nat → Bool
  | some d => decide (d < nt) && decide (d < 216)
  | none => true
def insOf (P : Program) (o : Op) : Ins := match ioOf P o with | some io => io | none => bad
def iopOf (P : Program) (nt : Nat) (ops : Array Oper) (o : Oper) : Option IOp :=
  match guardOf ops o.guard with
  | none => none
  | some g => if dstOk nt o.dst = true then some { dst := o.dst.map pk, g := g, q := none, op := insOf P o.op } else none
def iopsOf (P : Program) (nt : Nat) (ops : Array Oper) : List Oper → Option (List IOp)
  | [] => some []
  | o :: r => match iopOf P nt ops o, iopsOf P nt ops r with
    | some a, some l => some (a :: l)
    | _, _ => none
def badIC : IC := .region false [{ dst := none, g := none, q := none, op := bad }]
def regionOf (P : Program) (nt : Nat) (ops : Array Oper) (draw : Bool) : IC :=
  match iopsOf P nt ops ops.toList with
  | none => badIC
  | some l =>
    if draw then
      let ms := masksFrom ops.toList []
      if backFrom 0 ops.toList && tmpsOk ms l then .region true (markM ms 0 [] l) else badIC
    else .region false l
def icOf (P : Program) (nt : Nat) : Code → IC
  | .skip => .skip
  | .region _ ops draw => regionOf P nt ops draw
  | .seq a b => .seq (icOf P nt a) (icOf P nt b)
  | .cond c a b => match opdOf P c with
    | some y => .cond y (icOf P nt a) (icOf P nt b)
    | none => badIC
  | .block id b => .block id (icOf P nt b)
  | .loop b => .loop (icOf P nt b)
  | .exit id => .exit id
  | .ret => .ret
  | _ => badIC
def resOf (P : Program) : List ResultVar → Option (List IRes)
  | [] => some []
  | .tmp t :: r => match resOf P r with | some l => if t < 216 then some (.tmp (pk t) :: l) else none | none => none
  | .cell a t :: r => match resOf P r, sizeT P t with | some l, some n => if a < 216 then some (.cell (pk a) n (isAggT P t) :: l) else none | _, _ => none
def fnOf (P : Program) (fn : Func) : Option IFn :=
  match fn.body, resOf P fn.results.toList with
  | some c, some rs => if fn.params.size + fn.nfree ≤ fn.ntmps ∧ fn.params.size + fn.nfree ≤ 216 ∧ (fn.name == "runtime.NumGoroutine") = false then some { nt := fn.ntmps, ps := (List.range (fn.params.size + fn.nfree)).map pk, res := rs, body := icOf P fn.ntmps c } else none
  | _, _ => none

section
variable {P : Program} {nt : Nat} {ops : Array Oper}

theorem iopOf_ok {o : Oper} {io : IOp} (h : iopOf P nt ops o = some io) : OpOf P nt ops o io := by
  unfold iopOf at h
  cases hg : guardOf ops o.guard with
  | none => rw [hg] at h; cases h
  | some g =>
    rw [hg] at h
    dsimp only at h
    split at h
    · rename_i hd
      cases h
      refine ⟨?_, fun d e => ?_, ?_, ?_⟩
      · show o.dst = (o.dst.map pk).map Key.n
        cases ho : o.dst with
        | none => rfl
        | some d =>
          rw [ho] at hd
          simp only [dstOk, Bool.and_eq_true, decide_eq_true_eq] at hd
          simp only [Option.map_some, pk_n hd.2]
      · have e : o.dst.map pk = some d := e
        cases ho : o.dst with
        | none => rw [ho] at e; cases e
        | some x =>
          rw [ho] at hd e
          simp only [dstOk, Bool.and_eq_true, decide_eq_true_eq] at hd
          cases e
          rw [pk_n hd.2]
          exact hd.1
      · cases h0 : o.guard with
        | none => rw [h0] at hg; cases hg; exact .inl ⟨rfl, rfl⟩
        | some jw =>
          obtain ⟨j, want⟩ := jw
          rw [h0] at hg
          unfold guardOf at hg
          split at hg
          · rename_i h1; cases h1
          · rename_i j' want' h1
            cases h1
            split at hg
            · rename_i d hd
              split at hg
              · rename_i hd2
                cases hg
                exact .inr ⟨j, want, pk d, rfl, by rw [pk_n hd2]; exact hd, rfl⟩
              · cases hg
            · cases hg
      · show ioOf P o.op = some (insOf P o.op) ∨ insOf P o.op = bad
        unfold insOf
        split
        · rename_i io h; exact .inl h
        · exact .inr rfl
    · cases h
theorem iopsOf_ok : ∀ {os : List Oper} {l : List IOp}, iopsOf P nt ops os = some l → l.length = os.length ∧ ∀ (i : Nat) (o : Oper) (io : IOp), os[i]? = some o → l[i]? = some io → OpOf P nt ops o io
  | [], l, h => by cases h; exact ⟨rfl, fun i o io h => by simp at h⟩
  | o :: r, l, h => by
    unfold iopsOf at h
    split at h
    · rename_i a l' h1 h2
      cases h
      obtain ⟨e, k⟩ := iopsOf_ok h2
      refine ⟨by simp [e], fun i x io hx hio => ?_⟩
      cases i with
      | zero => simp at hx hio; subst hx; subst hio; exact iopOf_ok h1
      | succ i => exact k i x io (by simpa using hx) (by simpa using hio)
    · cases h

def exOf : Ex → Exit
  | .normal => .normal
  | .exit id => .exit id
  | .ret => .ret

theorem onNormal_ok {r : Out} {k : Env → AHeap → Out} {x : Ex} {E' : Env} {H' : AHeap} (h : onNormal r k = .ok x E' H') :
    ∃ y E1 H1, r = .ok y E1 H1 ∧ ((y = .normal ∧ k E1 H1 = .ok x E' H') ∨ (y ≠ .normal ∧ y = x ∧ E1 = E' ∧ H1 = H')) := by
  cases r with
  | err n => cases h
  | ok y E1 H1 =>
    refine ⟨y, E1, H1, rfl, ?_⟩
    cases y with
    | normal => exact .inl ⟨rfl, h⟩
    | exit id => cases h; exact .inr ⟨by simp, rfl, rfl, rfl⟩
    | ret => cases h; exact .inr ⟨by simp, rfl, rfl, rfl⟩
theorem ofO_ok {r : ORes} {x : Ex} {E' : Env} {H' : AHeap} (h : ofO r = .ok x E' H') : x = .normal ∧ r = .ok E' H' := by
  cases r with
  | err n => cases h
  | ok E H => cases h; exact ⟨rfl, rfl⟩

theorem Step1.tame {call : CallF} (hc : CallOk P call) {o : IOp} {E : Env} {H : AHeap} {recs : List FP} {b : Bool} {v : AVal} {fp : FP} {H1 : AHeap} (hm : H.mrk ≤ H.next) (h : Step1 call o E H recs b v fp H1) : Tame H H1 := by
  cases h with
  | skip => exact Tame.refl _
  | plain _ _ he => exact TM.ins hm (fun f a => hc.tame f a H hm) E o.op v _ he
  | marked _ _ he _ => exact (TM.ins (H := H.mark) (Nat.le_refl _) (fun f a => hc.tame f a _ (Nat.le_refl _)) E o.op v _ he).unmark hm
theorem evOpsQ_tame {call : CallF} (hc : CallOk P call) : ∀ (l : List IOp) (E : Env) (H : AHeap) (recs : List FP) (E' : Env) (H' : AHeap), H.mrk ≤ H.next → evOpsQ call l E H recs = .ok E' H' → Tame H H'
  | [], E, H, recs, E', H', _, h => by cases h; exact Tame.refl _
  | o :: r, E, H, recs, E', H', hm, h => by
    obtain ⟨b, v, fp, H1, h1, h2⟩ := stepQ_ok (show o.stepQ call E H recs (evOpsQ call r) = .ok E' H' from h)
    have t1 := h1.tame hc hm
    exact t1.trans (evOpsQ_tame hc r _ _ _ _ _ (by rw [t1.mrk]; exact Nat.le_trans hm t1.next) h2)

def TF (f : Env → AHeap → Out) : Prop := ∀ E H x E' H', H.mrk ≤ H.next → f E H = .ok x E' H' → Tame H H'
theorem TF.seq {f g : Env → AHeap → Out} (hf : TF f) (hg : TF g) : TF fun E H => onNormal (f E H) g := by
  intro E H x E' H' hm h
  obtain ⟨y, E1, H1, h1, h2⟩ := onNormal_ok h
  have t1 := hf _ _ _ _ _ hm h1
  rcases h2 with ⟨_, h2⟩ | ⟨_, _, _, e⟩
  · exact t1.trans (hg _ _ _ _ _ (by rw [t1.mrk]; exact Nat.le_trans hm t1.next) h2)
  · exact e ▸ t1
theorem TF.loop {f : Env → AHeap → Out} (hf : TF f) : ∀ n, TF (loopN f n)
  | 0 => fun _ _ _ _ _ _ h => by cases h
  | n + 1 => TF.seq hf (TF.loop hf n)
theorem cCond_ok {c : Opd} {i j : IC} {f g : Env → AHeap → Out} {E E' : Env} {H H' : AHeap} {x : Ex} (h : cCond c i j f g E H = .ok x E' H') : ∃ t, c.ev E = some (.bool t) ∧ (if t then f E H else g E H) = .ok x E' H' := by
  unfold cCond at h
  cases hc : c.ev E with
  | none => rw [hc] at h; cases h
  | some v =>
    rw [hc] at h
    cases v <;> try (cases h; done)
    rename_i t
    refine ⟨t, rfl, ?_⟩
    cases t <;> exact h
theorem cBlock_ok {id : Nat} {i : IC} {f : Env → AHeap → Out} {E E' : Env} {H H' : AHeap} {x : Ex} (h : cBlock id i f E H = .ok x E' H') :
    ∃ y, f E H = .ok y E' H' ∧ ((y = .normal ∧ x = .normal) ∨ (y = .exit id ∧ x = .normal) ∨ (∃ id', id' ≠ id ∧ y = .exit id' ∧ x = .exit id') ∨ (y = .ret ∧ x = .ret)) := by
  unfold cBlock at h
  cases hf : f E H with
  | err n => rw [hf] at h; cases h
  | ok y E1 H1 =>
    rw [hf] at h
    cases y with
    | normal => cases h; exact ⟨_, rfl, .inl ⟨rfl, rfl⟩⟩
    | ret => cases h; exact ⟨_, rfl, .inr (.inr (.inr ⟨rfl, rfl⟩))⟩
    | exit id' =>
      have h : chk (Nat.beq id' id) (Out.ok .normal E1 H1) (.ok (.exit id') E1 H1) = .ok x E' H' := h
      by_cases he : id' = id
      · subst he
        rw [show Nat.beq id' id' = true from Nat.beq_refl id'] at h
        cases h; exact ⟨_, rfl, .inr (.inl ⟨rfl, rfl⟩)⟩
      · have e : Nat.beq id' id = false := by
          cases hb : Nat.beq id' id
          · rfl
          · exact absurd (Nat.eq_of_beq_eq_true hb) he
        rw [e] at h
        cases h; exact ⟨_, rfl, .inr (.inr (.inl ⟨id', he, rfl, rfl⟩))⟩

theorem ic_tame {call : CallF} {lf : Nat} (hc : CallOk P call) : ∀ c : IC, TF (c.ev call lf)
  | .skip => fun _ _ _ _ _ _ h => by cases h; exact Tame.refl _
  | .region d ops => fun E H x E' H' hm h => by
    cases d with
    | false => exact evOps_tame hc ops E H E' H' hm (ofO_ok h).2
    | true => exact evOpsQ_tame hc ops E H [] E' H' hm (ofO_ok h).2
  | .seq a b => TF.seq (ic_tame hc a) (ic_tame hc b)
  | .cond c a b => fun E H x E' H' hm h => by
    obtain ⟨t, _, h⟩ := cCond_ok (i := a) (j := b) (f := a.ev call lf) (g := b.ev call lf) h
    cases t
    · exact ic_tame hc b _ _ _ _ _ hm h
    · exact ic_tame hc a _ _ _ _ _ hm h
  | .block id b => fun E H x E' H' hm h => by
    obtain ⟨y, h, _⟩ := cBlock_ok (i := b) (f := b.ev call lf) h
    exact ic_tame hc b _ _ _ _ _ hm h
  | .loop b => TF.loop (ic_tame hc b) lf
  | .exit id => fun _ _ _ _ _ _ h => by cases h; exact Tame.refl _
  | .ret => fun _ _ _ _ _ _ h => by cases h; exact Tame.refl _

variable {ρ : Ho} {E E' : Env} {H H' H1 : AHeap} {C : Nat → Option AObj} {w : World} {a : Act} {call : CallF} {lf : Nat}

theorem Then.step (hK : Known ρ C H) (t1 : Tame H H1) (t2 : Tame H1 H') {K : Act → World → Prop} (hthen : Then P nt E' H H' C ρ w K) {ρ1 : Ho} {w1 : World} (hext : Ext (Wr H1) H.next H1.next ρ ρ1 w w1) : Then P nt E' H1 H' (upd C H H1) ρ1 w1 K :=
  fun a2 w2 ρ2 hA2 he2 hR2 _ => by
    have h2 := (hext.mono (Wr_mono t2)).trans he2
    exact hthen a2 w2 ρ2 hA2 h2 (hR2.weaken fun f o h hf => upd_trans hK t1.next t2.next t2.keep h2.dom f o h hf) (upd_known hK h2.dom)
theorem Then.refl {K : Act → World → Prop} (hA : AR P ρ nt E a) (hR : R ρ C w) (hK : Known ρ C H) (hthen : Then P nt E H H C ρ w K) : K a w := by
  refine hthen a w ρ hA (Ext.refl _ _ _ _) ?_ ?_
  · rw [upd_same]; exact hR
  · rw [upd_same]; exact hK

theorem badIC_err {x : Ex} (h : badIC.ev call lf E H = .ok x E' H') : False := by cases h

/-- what is asked of a code and its turning -/
def CodeOk (P : Program) (nt : Nat) (c : Code) (f : Env → AHeap → Out) : Prop :=
  ∀ E H x E' H' ρ C a w Q, f E H = .ok x E' H' → AR P ρ nt E a → R ρ C w → Known ρ C H → Free ρ H.next H'.next → H.mrk ≤ H.next → WF H → Then P nt E' H H' C ρ w (Q (exOf x)) → c.wp P Q a w

theorem CodeOk.rounds {c : Code} {f : Env → AHeap → Out} (hf : CodeOk P nt c f) (tf : TF f) : ∀ n E H x E' H' ρ C a w (Q : Exit → Act → World → Prop), loopN f n E H = .ok x E' H' → AR P ρ nt E a → R ρ C w → Known ρ C H → Free ρ H.next H'.next → H.mrk ≤ H.next → WF H →
    Then P nt E' H H' C ρ w (Q (exOf x)) → Code.rounds P c Q n a w
  | 0, _, _, _, _, _, _, _, _, _, _, h, _, _, _, _, _, _, _ => by cases h
  | n + 1, E, H, x, E', H', ρ, C, a, w, Q, h, hA, hR, hK, hF, hm, hwf, ht => by
    rw [rounds_succ]
    obtain ⟨y, E1, H1, h1, h2⟩ := onNormal_ok (k := loopN f n) h
    have t1 := tf _ _ _ _ _ hm h1
    have hm1 : H1.mrk ≤ H1.next := by rw [t1.mrk]; exact Nat.le_trans hm t1.next
    rcases h2 with ⟨rfl, h2⟩ | ⟨hy, rfl, rfl, rfl⟩
    · have t2 := TF.loop tf n _ _ _ _ _ hm1 h2
      refine hf E H _ E1 H1 ρ C a w _ h1 hA hR hK (hF.le t2.next) hm hwf fun a1 w1 ρ1 hA1 he1 hR1 hK1 => ?_
      exact CodeOk.rounds hf tf n E1 H1 x E' H' ρ1 _ a1 w1 Q h2 hA1 hR1 hK1 (hF.sub he1.dom t1.next) hm1 (t1.wf hwf) (ht.step hK t1 t2 he1)
    · refine hf E H _ E1 H1 ρ C a w _ h1 hA hR hK hF hm hwf ?_
      cases y with
      | normal => exact absurd rfl hy
      | exit id => exact ht
      | ret => exact ht

theorem code_sound (hc : CallOk P call) (hmix : P.follows .mixedOrders = true) : ∀ c : Code, CodeOk P nt c ((icOf P nt c).ev call lf)
  | .skip => fun E H x E' H' ρ C a w Q h hA hR hK hF hm hwf ht => by
    cases h
    exact wp_skip (ht.refl hA hR hK)
  | .exit id => fun E H x E' H' ρ C a w Q h hA hR hK hF hm hwf ht => by
    cases h
    exact wp_exit (ht.refl hA hR hK)
  | .ret => fun E H x E' H' ρ C a w Q h hA hR hK hF hm hwf ht => by
    cases h
    exact wp_ret (ht.refl hA hR hK)
  | .seq c d => fun E H x E' H' ρ C a w Q h hA hR hK hF hm hwf ht => by
    have hcc := code_sound hc hmix c
    have hd := code_sound hc hmix d
    obtain ⟨y, E1, H1, h1, h2⟩ := onNormal_ok (k := (icOf P nt d).ev call lf) h
    have t1 := ic_tame hc (icOf P nt c) _ _ _ _ _ hm h1
    have hm1 : H1.mrk ≤ H1.next := by rw [t1.mrk]; exact Nat.le_trans hm t1.next
    refine wp_seq ?_
    rcases h2 with ⟨rfl, h2⟩ | ⟨hy, rfl, rfl, rfl⟩
    · have t2 := ic_tame hc (icOf P nt d) _ _ _ _ _ hm1 h2
      refine hcc E H _ E1 H1 ρ C a w _ h1 hA hR hK (hF.le t2.next) hm hwf fun a1 w1 ρ1 hA1 he1 hR1 hK1 => ?_
      exact hd E1 H1 x E' H' ρ1 _ a1 w1 Q h2 hA1 hR1 hK1 (hF.sub he1.dom t1.next) hm1 (t1.wf hwf) (ht.step hK t1 t2 he1)
    · refine hcc E H _ E1 H1 ρ C a w _ h1 hA hR hK hF hm hwf ?_
      cases y with
      | normal => exact absurd rfl hy
      | exit id => exact ht
      | ret => exact ht
  | .cond c d e => fun E H x E' H' ρ C a w Q h hA hR hK hF hm hwf ht => by
    unfold icOf at h
    split at h
    · rename_i y hy
      obtain ⟨t, h1, h2⟩ := cCond_ok (i := icOf P nt d) (j := icOf P nt e) (f := (icOf P nt d).ev call lf) (g := (icOf P nt e).ev call lf) h
      have k := hA.opd hy h1
      simp only [VR] at k
      refine wp_cond (t := t) k ?_
      cases t
      · exact code_sound hc hmix e E H x E' H' ρ C a w Q h2 hA hR hK hF hm hwf ht
      · exact code_sound hc hmix d E H x E' H' ρ C a w Q h2 hA hR hK hF hm hwf ht
    · exact (badIC_err h).elim
  | .block id c => fun E H x E' H' ρ C a w Q h hA hR hK hF hm hwf ht => by
    obtain ⟨y, h1, h2⟩ := cBlock_ok (i := icOf P nt c) (f := (icOf P nt c).ev call lf) h
    refine wp_block (code_sound hc hmix c E H y E' H' ρ C a w _ h1 hA hR hK hF hm hwf ?_)
    rcases h2 with ⟨rfl, rfl⟩ | ⟨rfl, rfl⟩ | ⟨id', hne, rfl, rfl⟩ | ⟨rfl, rfl⟩
    · exact ht
    · intro a1 w1 ρ1 b1 b2 b3 b4
      show Exit.inBlock id Q (.exit id) a1 w1
      simp only [Exit.inBlock, if_true]
      exact ht a1 w1 ρ1 b1 b2 b3 b4
    · intro a1 w1 ρ1 b1 b2 b3 b4
      show Exit.inBlock id Q (.exit id') a1 w1
      simp only [Exit.inBlock, if_neg hne]
      exact ht a1 w1 ρ1 b1 b2 b3 b4
    · exact ht
  | .loop c => fun E H x E' H' ρ C a w Q h hA hR hK hF hm hwf ht =>
    wp_loop_rounds lf (CodeOk.rounds (code_sound hc hmix c) (ic_tame hc _) lf E H x E' H' ρ C a w Q h hA hR hK hF hm hwf ht)
  | .region id ops draw => fun E H x E' H' ρ C a w Q h hA hR hK hF hm hwf ht => by
    unfold icOf regionOf at h
    split at h
    · exact (badIC_err h).elim
    · rename_i l hl
      obtain ⟨hlen, hop⟩ := iopsOf_ok hl
      cases draw with
      | false =>
        simp only [Bool.false_eq_true, if_false] at h
        obtain ⟨rfl, hz⟩ := ofO_ok (r := evOps call l E H) h
        refine wp_region ?_
        rw [show ops.size = l.length by rw [hlen]; simp, List.range_eq_range']
        exact evOps_sound hc (K := Q .normal) l ops.toList 0 hlen.symm hop (fun i o h => by simpa using h) E H E' H' ρ C a w hz hA hR hK hF hm hwf ht (fun _ _ h => h)
      | true =>
        simp only [if_true] at h
        split at h
        · rename_i hch
          simp only [Bool.and_eq_true] at hch
          obtain ⟨rfl, hz⟩ := ofO_ok (r := evOpsQ call (markM (masksFrom ops.toList []) 0 [] l) E H []) h
          have hms := masksFrom_ok (ops := ops) ops.toList [] (fun n => by simp) (fun j i h => by simp at h)
          have get : ∀ {i : Nat} {io : IOp}, (markM (masksFrom ops.toList []) 0 [] l)[i]? = some io → ∃ io0, l[i]? = some io0 ∧ io.dst = io0.dst ∧ io.g = io0.g ∧ io.op = io0.op ∧ (io.q = none → pureIO io.op = true) := by
            intro i io hio
            obtain ⟨io0, h0, h1, h2, h3, h4⟩ := markM_ok (ms := masksFrom ops.toList []) (L := l) l 0 (fun n => by simp) i io hio
            rw [Nat.zero_add] at h0
            refine ⟨io0, h0, h1, h2, h3, fun hq => ?_⟩
            rw [hq] at h4
            rw [h3]
            cases hp : pureIO io0.op
            · rw [hp] at h4; simp at h4
            · rfl
          refine regionQ_sound hc ⟨?_, ?_, ?_, ?_, ?_⟩ rfl hms hmix hz hA hR hK hF hm hwf ht (fun _ _ h => h)
          · rw [markM_length, hlen]; simp
          · intro i o io ho hio
            obtain ⟨io0, h0, h1, h2, h3, _⟩ := get hio
            have k := hop i o io0 (by simpa using ho) h0
            exact ⟨by rw [h1]; exact k.dst, fun d hd => k.lt d (by rw [← h1]; exact hd), by rw [h2]; exact k.g, by rw [h3]; exact k.op⟩
          · intro j o e ho he hb
            have := backFrom_ok ops.toList 0 hch.1 j o e (by simpa using ho) he hb
            omega
          · intro i j x y hij hx hy
            obtain ⟨x0, hx0, a1, a2, a3, _⟩ := get hx
            obtain ⟨y0, hy0, b1, b2, b3, _⟩ := get hy
            rcases tmpsOk_ok hch.2 hij hx0 hy0 with k | k
            · exact .inl (hms _ _ k)
            · refine .inr ⟨fun t ht => ?_, fun t ht => ?_, fun t ht => ?_⟩
              · rw [a1]; exact k.xy t (by unfold looksI at ht ⊢; rw [← b2, ← b3]; exact ht)
              · rw [a1]; exact k.dd t (by rw [← b1]; exact ht)
              · rw [b1]; exact k.yx t (by unfold looksI at ht ⊢; rw [← a2, ← a3]; exact ht)
          · intro i x hx hq
            obtain ⟨_, _, _, _, _, k⟩ := get hx
            exact k hq
        · exact (badIC_err h).elim
  | .rangeFunc .. => fun E H x E' H' ρ C a w Q h _ _ _ _ _ _ _ => (badIC_err h).elim
  | .scope _ => fun E H x E' H' ρ C a w Q h _ _ _ _ _ _ _ => (badIC_err h).elim
  | .label _ => fun E H x E' H' ρ C a w Q h _ _ _ _ _ _ _ => (badIC_err h).elim
  | .goto _ => fun E H x E' H' ρ C a w Q h _ _ _ _ _ _ _ => (badIC_err h).elim
  | .refuse _ => fun E H x E' H' ρ C a w Q h _ _ _ _ _ _ _ => (badIC_err h).elim

end
end Go.Ev
