/- A part of an evaluator for the program's code: Functions. It holds for every program. -/
import Derived.Test.YtgjadkcogmpkdaaGreatDoorEvX
import Derived.Lib.Bytealg
import Derived.Laws.StandIn
/-! Functions. -/
set_option linter.unusedVariables false
set_option linter.unusedSimpArgs false
namespace Go.Ev

section
variable {P : Program} {nt : Nat} {ρ : Ho} {E E' : Env} {H H' H1 : AHeap} {C : Nat → Option AObj} {w : World} {a : Act} {call : CallF} {lf : Nat}

theorem params_ok : ∀ (ks : List Key) (l : List AVal) (E : Env) (c : Env → Res) (v : AVal) (H' : AHeap), params ks l E c = .ok v H' →
    ks.length = l.length ∧ ∃ E', c E' = .ok v H' ∧ ∀ t x, E'.get t = some x → E.get t = some x ∨ ∃ i : Nat, ks[i]? = some t ∧ l[i]? = some x
  | [], [], E, c, v, H', h => ⟨rfl, E, h, fun t x hx => .inl hx⟩
  | [], _ :: _, E, c, v, H', h => by cases h
  | _ :: _, [], E, c, v, H', h => by cases h
  | k :: ks, y :: l, E, c, v, H', h => by
    have h : E.setC k y (fun E => params ks l E c) = .ok v H' := h
    rw [Env.setC_eq] at h
    obtain ⟨h1, E', h2, h3⟩ := params_ok ks l _ _ _ _ h
    refine ⟨by simp [h1], E', h2, fun t x hx => ?_⟩
    rcases h3 t x hx with h4 | ⟨i, h4, h5⟩
    · rw [Env.get_set] at h4
      split at h4
      · rename_i e
        subst e
        cases h4
        exact .inr ⟨0, rfl, rfl⟩
      · exact .inl h4
    · exact .inr ⟨i + 1, by simpa using h4, by simpa using h5⟩

theorem AR.init {args : List AVal} {cargs : Array Value} (hv : VRs ρ args cargs.toList) (hn : args.length ≤ nt) (hg : Globs P ρ) {E' : Env} {n : Nat} (hn2 : n ≤ 216)
    (hE : ∀ t x, E'.get t = some x → Env.emp.get t = some x ∨ ∃ i : Nat, ((List.range n).map pk)[i]? = some t ∧ args[i]? = some x) :
    AR P ρ nt E' { tmps := cargs ++ Array.replicate (nt - cargs.size) undef, defers := [] } := by
  have hl : cargs.size = args.length := by have := hv.length; simpa using this
  refine ⟨by simp; omega, rfl, fun t v h => ?_, hg⟩
  rcases hE t v h with h | ⟨i, h1, h2⟩
  · rw [Env.get_emp] at h; cases h
  · obtain ⟨y, hy, hvy⟩ := hv.get _ v h2
    refine ⟨y, ?_, hvy⟩
    have hi : i < n := by
      have := (List.getElem?_eq_some_iff.1 h1).1
      simpa using this
    have ht : pk i = t := by simpa [hi] using h1
    have hk : t.n = i := by rw [← ht]; exact pk_n (by omega)
    have : i < cargs.size := by
      have := (List.getElem?_eq_some_iff.1 h2).1
      omega
    rw [hk, Array.getElem?_append_left this]
    simpa using hy

/-! ### Results -/
def resM (tmps : Array Value) : ResultVar → Sem Value
  | .tmp t => pure (tmps.getD t undef)
  | .cell a t => do loadVar t (← asAddr (tmps.getD a undef))
theorem results_eq (fn : Func) (tmps : Array Value) : Go.results fn tmps = (do
    let vs ← fn.results.mapM (resM tmps)
    pure (if h : vs.size = 1 then vs[0] else .tuple vs)) := by
  unfold Go.results
  congr 2

theorem getD_of {tmps : Array Value} {t : Nat} {cv : Value} (h : tmps[t]? = some cv) : tmps.getD t undef = cv := by
  simp [Array.getD_eq_getD_getElem?, h]

theorem resA_ok (hA : AR P ρ nt E a) (hR : R ρ C w) (hK : Known ρ C H) {r : ResultVar} {rs : List IRes} {ir : IRes} (hr : resOf P (r :: []) = some [ir]) {k : AVal → Res} {e : Nat} {v : AVal} (h : resA E H ir (.err e) k = .ok v H') :
    ∃ x cx, (resM a.tmps r).run P w = .ok cx w ∧ VR ρ x cx ∧ k x = .ok v H' := by
  cases r with
  | tmp t =>
    simp only [resOf] at hr
    split at hr
    case isFalse => cases hr
    rename_i ht
    simp only [Option.some.injEq, List.cons.injEq, and_true] at hr
    subst hr
    replace h := ob_ok (o := E.get (pk t)) h
    obtain ⟨x, hx, h⟩ := h
    obtain ⟨cv, h1, h2⟩ := hA.tmp (pk t) x hx
    rw [pk_n ht] at h1
    exact ⟨x, cv, by simp [resM, getD_of h1], h2, h⟩
  | cell s t =>
    simp only [resOf] at hr
    split at hr
    · rename_i l n hl hn
      cases hl
      split at hr
      case isFalse => cases hr
      rename_i hs216
      simp only [Option.some.injEq, List.cons.injEq, and_true] at hr
      subst hr
      replace h := ob_ok (o := E.get (pk s)) h
      obtain ⟨x, hx, h⟩ := h
      replace h := onPtr_ok h; obtain ⟨f, g, off, rfl, h⟩ := h
      obtain ⟨l, hl, h⟩ := rd_ok h (by simp)
      obtain ⟨cv, h1, h2⟩ := hA.tmp (pk s) _ hx
      rw [pk_n hs216] at h1
      simp only [VR] at h2
      obtain ⟨hm, hh, rfl⟩ := h2
      obtain ⟨_, _, _, _, _, hn0⟩ := sizeT_ok hn
      have hCf : C f = H.t.get f := by
        obtain ⟨_, _, _, _, _, _, _, _, hg, _⟩ := hl
        exact (hK f _ ⟨_, _, hh⟩ hg).trans hg.symm
      obtain ⟨hlen, hk, hc⟩ := hR.rd hl hCf hh (by omega)
      have key : ∀ x, outA (isAggT P t) l (.err 0) (fun v => .ok v H) = .ok x H → k x = .ok v H' → ∃ x cx, (resM a.tmps (.cell s t)).run P w = .ok cx w ∧ VR ρ x cx ∧ k x = .ok v H' := by
        intro x hx hk'
        obtain ⟨_, cv, hrun, hcv⟩ := run_loadVar (P := P) (ρ := ρ) (w := w) (ad := ⟨hm.blk, hm.off + off, none⟩) hn hlen hk (fun j x hx => by rw [Addr.add_lit]; exact hc j x hx) hx
        exact ⟨x, cv, by simp [resM, getD_of h1, asAddr, hrun], hcv, hk'⟩
      rcases outA_ok h with ⟨hagg, h⟩ | ⟨x, hagg, hl1, h⟩
      · exact key _ (by rw [hagg]; rfl) h
      · exact key x (by rw [hagg, hl1]; rfl) h
    · cases hr

theorem resAs_ok (hA : AR P ρ nt E a) (hR : R ρ C w) (hK : Known ρ C H) {e : Nat} {v : AVal} : ∀ {l : List ResultVar} {rs : List IRes} (hr : resOf P l = some rs) {k : List AVal → Res}, resAs E H rs (.err e) k = .ok v H' →
    ∃ vs cvs, (l.mapM (resM a.tmps)).run P w = .ok cvs w ∧ VRs ρ vs cvs ∧ k vs = .ok v H'
  | [], rs, hr, k, h => by
    cases hr
    exact ⟨[], [], by simp, by simp only [VRs], h⟩
  | r :: l, rs, hr, k, h => by
    have hsplit : ∃ ir rs', rs = ir :: rs' ∧ resOf P [r] = some [ir] ∧ resOf P l = some rs' := by
      cases r with
      | tmp t =>
        unfold resOf at hr
        split at hr
        · rename_i l' hl
          split at hr
          · rename_i ht; cases hr; exact ⟨_, l', rfl, by simp [resOf, ht], hl⟩
          · cases hr
        · cases hr
      | cell s t =>
        unfold resOf at hr
        split at hr
        · rename_i l' n hl hn
          split at hr
          · rename_i ht; cases hr; exact ⟨_, l', rfl, by simp [resOf, hn, ht], hl⟩
          · cases hr
        · cases hr
    obtain ⟨ir, rs', rfl, h1, h2⟩ := hsplit
    have h : resA E H ir (.err e) (fun v => resAs E H rs' (.err e) fun vs => k (v :: vs)) = .ok v H' := h
    obtain ⟨x, cx, hx, hvx, h⟩ := resA_ok hA hR hK (rs := []) h1 h
    obtain ⟨vs, cvs, hm, hvs, h⟩ := resAs_ok hA hR hK h2 h
    exact ⟨x :: vs, cx :: cvs, by simp [hx, hm], ⟨cx, cvs, rfl, hvx, hvs⟩, h⟩

theorem resultsA_ok (hA : AR P ρ nt E a) (hR : R ρ C w) (hK : Known ρ C H) {fn : Func} {rs : List IRes} (hr : resOf P fn.results.toList = some rs) {v : AVal} (h : results E H rs = .ok v H') :
    H' = H ∧ ∃ cv, (Go.results fn a.tmps).run P w = .ok cv w ∧ VR ρ v cv := by
  obtain ⟨vs, cvs, hm, hv, h⟩ := resAs_ok (P := P) (e := 70) hA hR hK hr h
  rw [results_eq]
  cases vs with
  | nil =>
    cases h
    simp only [VRs] at hv
    subst hv
    refine ⟨rfl, .tuple #[], by simp [Array.mapM_eq_mapM_toList, hm], ?_⟩
    simp only [VR]
    exact ⟨#[], rfl, by simp only [VRs]⟩
  | cons x r =>
    cases r with
    | nil =>
      cases h
      simp only [VRs] at hv
      obtain ⟨c, t, rfl, hc, rfl⟩ := hv
      exact ⟨rfl, c, by simp [Array.mapM_eq_mapM_toList, hm], hc⟩
    | cons y s =>
      cases h
      refine ⟨rfl, .tuple cvs.toArray, ?_, ?_⟩
      · have hl := hv.length
        have : ¬ cvs.length = 1 := by simp at hl; omega
        simp [Array.mapM_eq_mapM_toList, hm, this]
      · simp only [VR]
        exact ⟨cvs.toArray, rfl, by simpa using hv⟩

/-! ### Functions -/
theorem fnOf_ok {g : Func} {fn : IFn} (h : fnOf P g = some fn) : ∃ c, g.body = some c ∧ resOf P g.results.toList = some fn.res ∧ (∃ n, n ≤ g.ntmps ∧ n ≤ 216 ∧ fn.ps = (List.range n).map pk) ∧ fn.nt = g.ntmps ∧ fn.body = icOf P g.ntmps c ∧ (g.name == "runtime.NumGoroutine") = false := by
  unfold fnOf at h
  split at h
  · rename_i c rs hb hr
    split at h
    · rename_i hn
      cases h
      exact ⟨c, hb, hr, ⟨_, hn.1, hn.2.1, rfl⟩, rfl, rfl, hn.2.2⟩
    · cases h
  · cases h

theorem evFn_ok {fn : IFn} {args : List AVal} {v : AVal} (h : evFn call lf fn args H = .ok v H') :
    fn.ps.length = args.length ∧ ∃ E' x E1 H1, (∀ t y, E'.get t = some y → Env.emp.get t = some y ∨ ∃ i : Nat, fn.ps[i]? = some t ∧ args[i]? = some y) ∧ fn.body.ev call lf E' H = .ok x E1 H1 ∧ (x = .normal ∨ x = .ret) ∧ results E1 H1 fn.res = .ok v H' := by
  obtain ⟨h1, E', h2, h3⟩ := params_ok fn.ps args .emp _ _ _ h
  refine ⟨h1, E', ?_⟩
  cases hx : fn.body.ev call lf E' H with
  | err n => rw [hx] at h2; cases h2
  | ok x E1 H1 =>
    rw [hx] at h2
    refine ⟨x, E1, H1, h3, rfl, ?_⟩
    cases x with
    | normal => exact ⟨.inl rfl, h2⟩
    | exit id => cases h2
    | ret => exact ⟨.inr rfl, h2⟩

theorem PS.rd {H : AHeap} {f g off n : Nat} {e : Res} {k : List AVal → Res} (h : ∀ x, PS H (k x)) (h' : PS H e) : PS H (rd H f g off n e k) :=
  PS.onRow (fun _ _ _ _ _ _ _ => PS.chk (PS.chk (PS.chk (PS.chk (PS.ob (fun _ => PS.chk (h _) (h _)) h') h') h') h') h') h'
theorem results_tame {rs : List IRes} {v : AVal} (h : results E H rs = .ok v H') : H' = H := by
  have key : ∀ (rs : List IRes) (k : List AVal → Res), (∀ vs, PS H (k vs)) → PS H (resAs E H rs (.err 70) k) := by
    intro rs
    induction rs with
    | nil => intro k hk; exact hk []
    | cons r rs ih =>
      intro k hk
      show PS H (resA E H r (.err 70) fun v => resAs E H rs (.err 70) fun vs => k (v :: vs))
      have hk2 : ∀ v, PS H (resAs E H rs (.err 70) fun vs => k (v :: vs)) := fun v => ih _ fun vs => hk _
      cases r with
      | tmp t => exact PS.ob (fun x => hk2 x) PS.err
      | cell s n g => exact PS.ob (fun x => PS.onPtr (fun _ _ _ => PS.rd (fun _ => PS.outA (fun x => hk2 x) PS.err) PS.err) PS.err) PS.err
  exact key rs _ (fun vs => by
    cases vs with
    | nil => exact PS.ok
    | cons x r => cases r <;> exact PS.ok) v H' h

/-- a table of functions is the program's -/
def TableOk (P : Program) (ft : Tr IFn) : Prop := ∀ f fn, ft.get f = some fn → ∃ g, P.funcs[f]? = some g ∧ fnOf P g = some fn

theorem evFn_sound (hc : CallOk P call) (hmix : P.follows .mixedOrders = true) {f : Nat} {g : Func} {fn : IFn} (hf : P.funcs[f]? = some g) (hg : fnOf P g = some fn) {args : List AVal} {v : AVal} {cargs : Array Value}
    (h : evFn call lf fn args H = .ok v H') (hm : H.mrk ≤ H.next) (hwf : WF H) (hR : R ρ C w) (hK : Known ρ C H) (hF : Free ρ H.next H'.next) (hG : Globs P ρ) (hv : VRs ρ args cargs.toList) :
    Calls P f cargs w fun e w' => ∃ cv, e = .returned cv ∧ Post ρ C w H v H' cv w' := by
  obtain ⟨c, hb, hr, ⟨np, hnp, hnp2, hps⟩, hnt, hbody, _⟩ := fnOf_ok hg
  obtain ⟨hlen, E', x, E1, H1, hE, h1, hx, h2⟩ := evFn_ok h
  have he := results_tame h2
  subst he
  rw [hps] at hE hlen
  have hA : AR P ρ g.ntmps E' { tmps := cargs ++ Array.replicate (g.ntmps - cargs.size) undef, defers := [] } := AR.init hv (by rw [← hlen]; simpa using hnp) hG hnp2 hE
  rw [hbody] at h1
  refine calls_of_wp hf hb (code_sound hc hmix c _ H x E1 H' ρ C _ w _ h1 hA hR hK hF hm hwf fun a1 w1 ρ1 hA1 he1 hR1 hK1 => ?_)
  obtain ⟨_, cv, hrun, hcv⟩ := resultsA_ok hA1 hR1 hK1 hr h2
  have fin : a1.defers = [] ∧ ∃ v, (Go.results g a1.tmps).run P w1 = .ok v w1 ∧ ∃ cv, Ending.returned v = .returned cv ∧ Post ρ C w H ‹AVal› H' cv w1 := ⟨hA1.defers, cv, hrun, cv, rfl, ρ1, hcv, he1, hR1⟩
  rcases hx with rfl | rfl
  · exact fin
  · exact fin

/-! ### Functions of the library that the model stands in for -/
def extImpl : Nat → Option (Array Value → Sem Value)
  | 0 => some Extern.BytealgIndexByte.indexByte
  | 1 => some Extern.AbiNoEscape.same
  | _ => none
/-- a table of such functions is the program's -/
def ExtOk (P : Program) (xt : Tr Nat) : Prop := ∀ f c, xt.get f = some c → ∃ fn, P.funcs[f]? = some fn ∧ (fn.name == "runtime.NumGoroutine") = false ∧ fn.body.isNone = true ∧ Extern.findNext fn = none ∧ ∃ e, extImpl c = some e ∧ Extern.find fn = some e

theorem idxB_ok (c : UInt8) : ∀ (l : List UInt8) (i : Nat), idxB c.toNat l.length (pack l) i = if Lib.indexByte l c = -1 then -1 else Lib.indexByte l c + i
  | [], i => rfl
  | b :: l, i => by
    show chk (Nat.beq (Nat.mod (pack (b :: l)) 256) c.toNat) (Int.ofNat i) (seqNat (Nat.div (pack (b :: l)) 256) fun s => seqNat (Nat.succ i) fun i => idxB c.toNat l.length s i) = _
    have e1 : Nat.mod (pack (b :: l)) 256 = b.toNat := by
      have := pack_take (b :: l) 1
      simp only [Nat.pow_one] at this
      rw [show Nat.mod (pack (b :: l)) 256 = pack (b :: l) % 256 from rfl, this]
      simp [pack]
    have e2 : Nat.div (pack (b :: l)) 256 = pack l := by
      have := pack_drop (b :: l) 1
      simp only [Nat.pow_one] at this
      exact this
    rw [e1, e2, seqNat_eq, seqNat_eq, idxB_ok c l (i + 1)]
    have hge := Lib.indexByte_ge l c
    by_cases hb : b = c
    · subst hb
      rw [show Nat.beq b.toNat b.toNat = true from Nat.beq_refl _, chk_true]
      simp [Lib.indexByte]
    · have : Nat.beq b.toNat c.toNat = false := by
        cases h : Nat.beq b.toNat c.toNat
        · rfl
        · exact absurd (UInt8.toNat_inj.1 (Nat.eq_of_beq_eq_true h)) hb
      rw [this]
      show (if Lib.indexByte l c = -1 then (-1 : Int) else Lib.indexByte l c + ((i + 1 : Nat) : Int)) = _
      have hb2 : (b == c) = false := by simpa using hb
      rw [show Lib.indexByte (b :: l) c = if (b == c) = true then 0 else if (Lib.indexByte l c == -1) = true then -1 else Lib.indexByte l c + 1 from rfl, hb2]
      by_cases h1 : Lib.indexByte l c = -1
      · simp [h1]
      · have h2 : (Lib.indexByte l c == -1) = false := by simpa using h1
        have h3 : ¬ (Lib.indexByte l c + 1 = -1) := by omega
        rw [if_neg h1, h2]
        simp only [Bool.false_eq_true, if_false, if_neg h3]
        omega

theorem ext_ok (hR : R ρ C w) {c : Nat} {e : Array Value → Sem Value} (he : extImpl c = some e) {args : List AVal} {cargs : Array Value} (hv : VRs ρ args cargs.toList) {v : AVal} (h : extF c args H = .ok v H') :
    H' = H ∧ ∃ cv, (e cargs).run P w = .ok cv w ∧ VR ρ v cv := by
  unfold extImpl at he
  split at he
  · cases he
    have h : xIndexByte args H = .ok v H' := h
    cases args with
    | nil => cases h
    | cons x r => cases r with
      | nil => cases h
      | cons y r =>
        have h : onStr x (.err 90) (fun l s => onInt y (.err 90) fun k c => onNat c (.err 90) fun c => chk (Nat.beq (ikN k) 4) (chk (Nat.ble c 255) (chk (Nat.beq (lenL (y :: r)) 1) (seqInt (idxB c l s 0) fun i => Res.ok (.int .i64 i) H) (.err 90)) (.err 90)) (.err 90)) = .ok v H' := h
        replace h := onStr_ok h; obtain ⟨l, s, rfl, h⟩ := h
        replace h := onInt_ok h; obtain ⟨k, c0, rfl, h⟩ := h
        replace h := onNat_ok h; obtain ⟨c, rfl, h⟩ := h
        replace h := chk_ok h; obtain ⟨g1, h⟩ := h
        replace h := chk_ok h; obtain ⟨g2, h⟩ := h
        replace h := chk_ok h; obtain ⟨g3, h⟩ := h
        rw [seqInt_eq] at h
        cases h
        rw [lenL_eq] at g3
        have g3 := Nat.eq_of_beq_eq_true g3
        have hr : r = [] := by simpa using g3
        subst hr
        have g2 := Nat.le_of_ble_eq_true g2
        have g1 := Nat.eq_of_beq_eq_true g1
        simp only [VRs, VR] at hv
        obtain ⟨_, _, e1, ⟨b, rfl, rfl, rfl⟩, _, _, rfl, rfl, rfl⟩ := hv
        have hk : k = .u8 := by cases k <;> simp [ikN] at g1 <;> rfl
        subst hk
        have hc : cargs = #[.string b, .int .u8 (Int.ofNat c)] := by have := congrArg List.toArray e1; simpa using this
        subst hc
        refine ⟨rfl, _, Lib.run_indexByteString (P := P) b (Int.ofNat c) w, ?_⟩
        simp only [VR]
        have hcc : (c.toUInt8).toNat = c := by show (UInt8.ofNat c).toNat = c; rw [UInt8.toNat_ofNat']; omega
        have := idxB_ok c.toUInt8 b.data.toList 0
        rw [hcc] at this
        have hl : b.data.toList.length = b.size := Array.length_toList
        rw [hl] at this
        rw [this]
        congr 1
        have e : (Int.ofNat c).toNat.toUInt8 = c.toUInt8 := rfl
        rw [e]
        split
        · rename_i h1; exact h1
        · simp
  · cases he
    have h : xSame args H = .ok v H' := h
    cases args with
    | nil => cases h
    | cons x r => cases r with
      | cons y r => cases h
      | nil =>
        cases h
        simp only [VRs] at hv
        obtain ⟨cx, _, e1, hx, rfl⟩ := hv
        have hc : cargs = #[cx] := by have := congrArg List.toArray e1; simpa using this
        subst hc
        exact ⟨rfl, cx, rfl, hx⟩
  · cases he

theorem ext_same {c : Nat} {args : List AVal} : PS H (extF c args H) := by
  cases c with
  | zero =>
    show PS H (xIndexByte args H)
    cases args with
    | nil => exact PS.err
    | cons x r => cases r with
      | nil => exact PS.err
      | cons y r => exact PS.onStr (fun _ _ => PS.onInt (fun _ _ => PS.onNat (fun _ => PS.chk (PS.chk (PS.chk (PS.seqInt fun _ => PS.ok) PS.err) PS.err) PS.err) PS.err) PS.err) PS.err
  | succ c => cases c with
    | zero =>
      show PS H (xSame args H)
      cases args with
      | nil => exact PS.err
      | cons x r => cases r with
        | nil => exact PS.ok
        | cons y r => exact PS.err
    | succ c => exact PS.err

theorem evF_ok (hmix : P.follows .mixedOrders = true) {ft : Tr IFn} {xt : Tr Nat} (ht : TableOk P ft) (hx : ExtOk P xt) : ∀ n, CallOk P (evF ft xt lf n)
  | 0 => ⟨fun _ _ _ _ => TM.err, fun _ _ _ _ _ _ _ _ _ h => (by cases h)⟩
  | n + 1 => by
    have ih := evF_ok hmix ht hx n
    have key : ∀ f args H v H', evF ft xt lf (n + 1) f args H = .ok v H' → (∃ fn, ft.get f = some fn ∧ evFn (evF ft xt lf n) lf fn args H = .ok v H') ∨ ∃ c, xt.get f = some c ∧ extF c args H = .ok v H' := by
      intro f args H v H' h
      have h : ob (ft.get f) (ob (xt.get f) (.err (Nat.add 10000 f)) fun c => extF c args H) (fun fn => evFn (evF ft xt lf n) lf fn args H) = .ok v H' := h
      cases hf : ft.get f with
      | some fn => rw [hf] at h; exact .inl ⟨fn, rfl, h⟩
      | none =>
        rw [hf] at h
        exact .inr (ob_ok (o := xt.get f) h)
    refine ⟨fun f args H hm v H' h => ?_, fun f args H v H' ρ C w cargs h hm hwf hR hK hF hG hv => ?_⟩
    · rcases key _ _ _ _ _ h with ⟨fn, _, h⟩ | ⟨c, _, h⟩
      · obtain ⟨_, _, x, E1, H1, _, h1, _, h2⟩ := evFn_ok h
        rw [results_tame h2]
        exact ic_tame ih fn.body _ _ _ _ _ hm h1
      · rw [ext_same v H' h]; exact Tame.refl _
    · rcases key _ _ _ _ _ h with ⟨fn, hfn, h⟩ | ⟨c, hc, h⟩
      · obtain ⟨g, hg, hfg⟩ := ht f fn hfn
        obtain ⟨cd, hb, _, _, _, _, hname⟩ := fnOf_ok hfg
        have h1 : g.name ≠ "runtime.NumGoroutine" := by simpa using hname
        exact .inl ⟨by simp [callFunc, hg, h1, hb], evFn_sound ih hmix hg hfg h hm hwf hR hK hF hG hv⟩
      · obtain ⟨fn, hf, hname, hb, hn, e, he, hfind⟩ := hx f c hc
        obtain ⟨rfl, cv, hrun, hcv⟩ := ext_ok (P := P) hR he hv h
        refine .inr ⟨cv, w, ?_, ρ, hcv, Ext.refl _ _ _ _, ?_⟩
        · rw [run_callFunc_standIn hf hname hb hn hfind, hrun]
          rfl
        · rw [upd_same]; exact hR
end
end Go.Ev
