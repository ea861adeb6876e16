/- A part of an evaluator for the program's code: Regions that draw their order, to the end; the turning of regions. It holds for every program. -/
import Derived.Test.YtgjadkcogmpkdaaGreatDoorEvV
/-! Regions that draw their order, to the end; the turning of regions. -/
set_option linter.unusedVariables false
set_option linter.unusedSimpArgs false
namespace Go.Ev

theorem filter_less {p q : Nat → Bool} : ∀ (l : List Nat) {j : Nat}, j ∈ l → p j = true → q j = false → (∀ i, q i = true → p i = true) → (l.filter q).length + 1 ≤ (l.filter p).length
  | [], _, hj, _, _, _ => by cases hj
  | x :: r, j, hj, hp, hq, h => by
    have le : (r.filter q).length ≤ (r.filter p).length := by
      clear hj
      induction r with
      | nil => simp
      | cons y s ih =>
        cases hy : q y
        · rw [List.filter_cons_of_neg (by simp [hy])]
          cases hz : p y
          · rw [List.filter_cons_of_neg (by simp [hz])]; exact ih
          · rw [List.filter_cons_of_pos hz]; simp; omega
        · rw [List.filter_cons_of_pos hy, List.filter_cons_of_pos (h y hy)]; simp; exact ih
    rcases List.mem_cons.1 hj with rfl | hj
    · rw [List.filter_cons_of_neg (by simp [hq]), List.filter_cons_of_pos hp]; simp; exact le
    · have ih := filter_less r hj hp hq h
      cases hy : q x
      · rw [List.filter_cons_of_neg (by simp [hy])]
        cases hz : p x
        · rw [List.filter_cons_of_neg (by simp [hz])]; exact ih
        · rw [List.filter_cons_of_pos hz]; simp; omega
      · rw [List.filter_cons_of_pos hy, List.filter_cons_of_pos (h x hy)]; simp; omega

def listedS (listed : Array Bool) : Nat → Bool := fun i => listed.getD i false
def unl (listed : Array Bool) (n : Nat) : Nat := ((List.range n).filter fun i => !listedS listed i).length

section
variable {P : Program} {call : CallF} {nt : Nat} {ops : Array Oper} {l : List IOp} {E E' : Env} {H H' : AHeap} {Es : Nat → Env} {Hs : Nat → AHeap} {Rs : Nat → List FP} {Wn : Nat → Bool} {Vs : Nat → AVal} {Fp : Nat → FP}

theorem listedS_set {listed : Array Bool} {j : Nat} (hj : j < listed.size) : listedS (listed.setIfInBounds j true) = ins (listedS listed) j := by
  funext i
  unfold listedS ins
  by_cases h : i = j
  · subst h; simp [hj]
  · rw [getD_set_ne false (Ne.symm h)]; simp [h]

theorem none_ready (hr : RegOk P nt ops l) {listed : Array Bool} (hs : listed.size = l.length) (h : Region.ready .any ops listed = []) : ∀ i, i < l.length → listedS listed i = true := by
  intro i
  induction i using Nat.strongRecOn with
  | _ i ih =>
    intro hi
    cases hl : listedS listed i with
    | true => rfl
    | false =>
      obtain ⟨o, ho⟩ : ∃ o, ops[i]? = some o := ⟨_, Array.getElem?_eq_getElem (by rw [← hr.len]; exact hi)⟩
      have : i ∈ Region.ready .any ops listed := by
        rw [mem_ready]
        refine ⟨?_, o, ho, fun e he hb => ih e.on (hr.back i o e ho he hb) (Nat.lt_trans (hr.back i o e ho he hb) hi)⟩
        unfold listedS at hl
        simp only [Array.getD_eq_getD_getElem?] at hl ⊢
        rw [Array.getElem?_eq_getElem (by rw [hs]; exact hi)] at hl ⊢
        simpa using hl
      rw [h] at this; cases this

theorem any_ok (hc : CallOk P call) (hr : RegOk P nt ops l) (T : Trace call l E H [] E' H' Es Hs Rs Wn Vs Fp)
    (hpairs : ∀ (i j : Nat) (x y : IOp), i < j → l[i]? = some x → l[j]? = some y → x.q.isSome = true → y.q.isSome = true → Before ops i j ∨ FPApart (Fp j) (Fp i))
    (hm : H.mrk ≤ H.next) (hwf : WF H) {ρ0 : Ho} {C0 : Nat → Option AObj} {w0 : World} (hK0 : Known ρ0 C0 H) (hF0 : Free ρ0 H.next H'.next) {Q : Exit → Act → World → Prop}
    (hfin : ∀ S a w ρ, (∀ i, i < l.length → S i = true) → Inv P nt l E H H' Hs Vs ρ0 C0 w0 S a w ρ → Q .normal a w) :
    ∀ (fuel : Nat) (listed : Array Bool) (a : Act) (w : World) (ρ : Ho), listed.size = l.length → Closed ops (listedS listed) → Inv P nt l E H H' Hs Vs ρ0 C0 w0 (listedS listed) a w ρ → unl listed l.length ≤ fuel →
      wpAny P .any ops Q fuel listed a w := by
  intro fuel
  induction fuel with
  | zero =>
    intro listed a w ρ hs hC hI hu
    have all : ∀ i, i < l.length → listedS listed i = true := by
      intro i hi
      cases hl : listedS listed i with
      | true => rfl
      | false =>
        have : i ∈ (List.range l.length).filter fun i => !listedS listed i := List.mem_filter.2 ⟨List.mem_range.2 hi, by simp [hl]⟩
        rw [List.eq_nil_of_length_eq_zero (Nat.le_zero.1 hu)] at this; cases this
    refine ⟨?_, hfin _ a w ρ all hI⟩
    cases hrd : Region.ready .any ops listed with
    | nil => rfl
    | cons j r =>
      have hj : j ∈ Region.ready .any ops listed := by rw [hrd]; exact List.mem_cons_self ..
      obtain ⟨h0, o, ho, _⟩ := mem_ready.1 hj
      have hjl : j < l.length := by rw [hr.len]; exact (Array.getElem?_eq_some_iff.1 ho).1
      have := all j hjl
      unfold listedS at this
      simp only [Array.getD_eq_getD_getElem?] at h0 this
      rw [Array.getElem?_eq_getElem (by rw [hs]; exact hjl)] at h0 this
      simp at h0 this; rw [h0] at this; cases this
  | succ fuel ih =>
    intro listed a w ρ hs hC hI hu
    refine ⟨fun h => hfin _ a w ρ (none_ready hr hs h) hI, fun j hj => ?_⟩
    obtain ⟨h0, o, ho, hrd⟩ := mem_ready.1 hj
    have hjl : j < l.length := by rw [hr.len]; exact (Array.getElem?_eq_some_iff.1 ho).1
    have hjS : listedS listed j = false := by
      unfold listedS
      simp only [Array.getD_eq_getD_getElem?] at h0 ⊢
      rw [Array.getElem?_eq_getElem (by rw [hs]; exact hjl)] at h0 ⊢
      simpa using h0
    have hjr : Ready ops (listedS listed) j := fun o' e ho' he hb => by
      rw [ho] at ho'; cases ho'
      exact hrd e he hb
    have hset := listedS_set (listed := listed) (j := j) (by rw [hs]; exact hjl)
    refine step_any hc hr T hpairs hm hwf hK0 hF0 hC hjl hjS hjr hI fun a' w' ρ' hI' => ?_
    refine ih _ a' w' ρ' (by simp [hs]) ?_ (by rw [hset]; exact hI') ?_
    · rw [hset]
      intro k o' e ho' he hb hk
      unfold ins at hk ⊢
      by_cases hkj : k = j
      · subst hkj; simp [hjr o' e ho' he hb]
      · simp [hkj] at hk; simp [hC k o' e ho' he hb hk]
    · have := filter_less (p := fun i => !listedS listed i) (q := fun i => !listedS (listed.setIfInBounds j true) i) (List.range l.length) (List.mem_range.2 hjl) (by simp [hjS]) (by rw [hset]; simp [ins]) (by
        intro i hi; rw [hset] at hi; simp [ins] at hi; simp [hi])
      have h2 : unl (listed.setIfInBounds j true) l.length + 1 ≤ unl listed l.length := this
      omega

theorem Inv.fin (hc : CallOk P call) (hr : RegOk P nt ops l) (T : Trace call l E H [] E' H' Es Hs Rs Wn Vs Fp) (hm : H.mrk ≤ H.next) (hwf : WF H) {ρ0 ρ : Ho} {C0 : Nat → Option AObj} {w0 w : World} (hK0 : Known ρ0 C0 H) (hF0 : Free ρ0 H.next H'.next)
    {S : Nat → Bool} {a : Act} (hall : ∀ i, i < l.length → S i = true) (hI : Inv P nt l E H H' Hs Vs ρ0 C0 w0 S a w ρ) : AR P ρ nt E' a ∧ R ρ (upd C0 H H') w := by
  have h0 : Hs 0 = H := T.h0
  have hN : Hs l.length = H' := T.hN
  have nxt : ∀ i k, i ≤ k → k ≤ l.length → (Hs i).next ≤ (Hs k).next := fun i k h1 h2 => (T.tame hc hr hm hwf k h1 h2).next
  refine ⟨AR.congr hI.ar fun t => ?_, hI.r.weaken fun f o hf hd => ?_⟩
  · rw [← T.eN, T.env l.length (Nat.le_refl _)]
    exact rE_low t _ fun i hi hs => absurd (hall i hi).symm hs
  · obtain ⟨g, x, hx⟩ := hd
    have hdom := hI.dom f g x hx
    have known : ∀ o', H'.t.get f = some o' → rC C0 Hs S l.length f = some o' := by
      rw [← hN]
      refine rC_known f (fun o' ho' => ?_) _ (fun i hi hs => by rw [hall i hi] at hs; cases hs)
      rw [h0] at ho'
      rcases hdom with e | ⟨k, hk, _, e1, e2⟩
      · exact hK0 f o' e ho'
      · have n1 := nxt 0 k (by omega) (by omega)
        rw [h0] at n1
        rw [hwf f (by omega)] at ho'; cases ho'
    unfold upd at hf
    split at hf
    · exact known o hf
    · rename_i hn
      split at hf
      · rename_i he
        have hd0 : ∃ g0 x0, ρ0 f g0 = some x0 := by
          rcases hdom with e | ⟨k, hk, _, e1, e2⟩
          · exact e
          · have n1 := nxt 0 k (by omega) (by omega)
            have n2 := nxt (k + 1) l.length (by omega) (by omega)
            rw [h0] at n1; rw [hN] at n2
            omega
        cases hg : H.t.get f with
        | some o' =>
          have := hK0 f o' hd0 hg
          rw [hf] at this; cases this
          exact known o (he.trans hg)
        | none =>
          have nn : ∀ i, i ≤ l.length → (Hs i).t.get f = none := by
            intro i hi
            cases hi2 : (Hs i).t.get f with
            | none => rfl
            | some o2 =>
              have := (T.tame hc hr hm hwf (i := i) l.length hi (Nat.le_refl _)).keep f (by rw [hi2]; simp)
              rw [hN, he, hg] at this; exact absurd rfl this
          rw [rC_high (j := 0) f l.length (Nat.zero_le _) fun k _ hk _ ht => ?_]
          · exact hf
          · rcases ht with ht | ht
            · have n1 := nxt 0 k (by omega) (by omega)
              have n2 := nxt (k + 1) l.length (by omega) (by omega)
              rw [h0] at n1; rw [hN] at n2
              omega
            · rw [nn k (by omega), nn (k + 1) (by omega)] at ht; exact ht rfl
      · exact known o hf

theorem recs_at {ms : List Nat} {l0 : List IOp} (hl : l = markM ms 0 [] l0) (T : Trace call l E H [] E' H' Es Hs Rs Wn Vs Fp) : ∀ n, n ≤ l.length → Rs n = (seenAt l0 n).map Fp
  | 0, _ => T.r0
  | n + 1, hn => by
    obtain ⟨o, ho⟩ : ∃ o, l[n]? = some o := ⟨_, List.getElem?_eq_getElem (by omega)⟩
    rw [(T.step n o ho).2.2, recs_at hl T n (by omega)]
    obtain ⟨io0, h0, _, _, _, hq⟩ := markM_ok (ms := ms) (L := l0) l0 0 (fun n => by simp) n o (by rw [← ho, hl]; rfl)
    rw [Nat.zero_add] at h0 hq
    unfold recsNext
    simp only [seenAt, h0]
    rw [hq]
    cases pureIO io0.op <;> rfl
theorem pairs_ok {ms : List Nat} {l0 : List IOp} (hl : l = markM ms 0 [] l0) (hms : ∀ j i, (ms.getD j 0).testBit i = true → Before ops i j) (T : Trace call l E H [] E' H' Es Hs Rs Wn Vs Fp)
    (i j : Nat) (x y : IOp) (hij : i < j) (hx : l[i]? = some x) (hy : l[j]? = some y) (qx : x.q.isSome = true) (qy : y.q.isSome = true) : Before ops i j ∨ FPApart (Fp j) (Fp i) := by
  have hjl : j < l.length := (List.getElem?_eq_some_iff.1 hy).1
  obtain ⟨x0, hx0, _, _, _, hqx⟩ := markM_ok (ms := ms) (L := l0) l0 0 (fun n => by simp) i x (by rw [← hx, hl]; rfl)
  obtain ⟨y0, hy0, _, _, _, hqy⟩ := markM_ok (ms := ms) (L := l0) l0 0 (fun n => by simp) j y (by rw [← hy, hl]; rfl)
  rw [Nat.zero_add] at hx0 hy0 hqx hqy
  have px : pureIO x0.op = false := by
    cases h : pureIO x0.op
    · rfl
    · rw [h] at hqx; rw [hqx] at qx; cases qx
  have py : pureIO y0.op = false := by
    cases h : pureIO y0.op
    · rfl
    · rw [h] at hqy; rw [hqy] at qy; cases qy
  rw [py] at hqy
  cases hb : (ms.getD j 0).testBit i
  case true => exact .inl (hms _ _ hb)
  right
  obtain ⟨n, hn⟩ := List.getElem?_of_mem (seenAt_mem hx0 px j hij)
  have hp := partnersM_ok hb (seenAt l0 j) 0 n hn
  rw [Nat.zero_add] at hp
  have hr := recs_at hl T j (by omega)
  generalize hWj : Wn j = wj at *
  generalize hVj : Vs j = vj at *
  have st := (T.step j y hy).1
  have key : ∀ {b : Bool} {v : AVal} {fp : FP} {H1 : AHeap}, Step1 call y (Es j) (Hs j) (Rs j) b v fp H1 → FPApart fp (Fp i) := by
    intro b v fp H1 st
    cases st with
    | skip hw hq =>
      rw [hq qy]
      exact ⟨fun _ h => (by cases h), fun _ _ => ⟨[], rfl, by simp⟩, fun _ h => (by cases h), fun _ h => (by cases h)⟩
    | plain hw hq _ => rw [hq] at qy; cases qy
    | marked hw hq he ha =>
      rename_i q H2
      rw [hq] at hqy
      simp at hqy
      subst hqy
      obtain ⟨b, hb1, hb2⟩ := apartAll_ok ha n hp
      rw [hr, List.getElem?_map, hn] at hb1
      cases hb1
      exact hb2
  exact key st

/-- A region that draws its order. -/
theorem regionQ_sound (hc : CallOk P call) (hr : RegOk P nt ops l) {ms : List Nat} {l0 : List IOp} (hl : l = markM ms 0 [] l0) (hms : ∀ j i, (ms.getD j 0).testBit i = true → Before ops i j) (hmix : P.follows .mixedOrders = true)
    {ρ : Ho} {C : Nat → Option AObj} {w : World} {a : Act} {id : Nat} {K : Act → World → Prop} {Q : Exit → Act → World → Prop} (h : evOpsQ call l E H [] = .ok E' H') (hA : AR P ρ nt E a) (hR : R ρ C w) (hK : Known ρ C H) (hF : Free ρ H.next H'.next) (hm : H.mrk ≤ H.next) (hwf : WF H)
    (hthen : Then P nt E' H H' C ρ w K) (hQ : ∀ a w, K a w → Q .normal a w) : (Code.region id ops true).wp P Q a w := by
  obtain ⟨Es, Hs, Rs, Wn, Vs, Fp, T⟩ := trace_ok l E H [] E' H' h
  have hnn : H.next ≤ H'.next := by
    have := (T.tame hc hr hm hwf (i := 0) l.length (Nat.zero_le _) (Nat.le_refl _)).next
    rw [T.h0, T.hN] at this; exact this
  refine wp_region_any hmix (any_ok hc hr T (pairs_ok hl hms T) hm hwf (ρ0 := ρ) (C0 := C) (w0 := { w with drawn := w.drawn + 1 }) hK hF (fun S a' w' ρ' hall hI => ?_) ops.size _ a _ ρ (by simp [hr.len]) ?_ ⟨?_, ?_, ?_, fun f g h e => .inl ⟨g, h, e⟩⟩ ?_)
  · obtain ⟨k1, k2⟩ := hI.fin hc hr T hm hwf hK hF hall
    have he := hI.ext
    exact hQ _ _ (hthen a' w' ρ' k1 ⟨he.le, he.dom, he.blk, he.frame, he.size, he.nn, he.os, he.tape, he.output⟩ k2 (upd_known hK he.dom))
  · intro j o e ho he hb hj
    exact absurd hj (by unfold listedS; by_cases hjs : j < ops.size <;> simp [Array.getD_eq_getD_getElem?, Array.getElem?_replicate, hjs])
  · refine AR.congr hA fun t => ?_
    rw [rE_high (j := 0) t l.length (Nat.zero_le _) fun k _ _ hk => ?_]
    · rfl
    · exact absurd hk (by unfold listedS; by_cases hjs : k < ops.size <;> simp [Array.getD_eq_getD_getElem?, Array.getElem?_replicate, hjs])
  · have e : rC C Hs (listedS (Array.replicate ops.size false)) l.length = C := funext fun f => by
      rw [rC_high (j := 0) f l.length (Nat.zero_le _) fun k _ _ hk => ?_]
      · rfl
      · exact absurd hk (by unfold listedS; by_cases hjs : k < ops.size <;> simp [Array.getD_eq_getD_getElem?, Array.getElem?_replicate, hjs])
    rw [e]
    exact ⟨fun f o ho g x hx => (hR.obj f o ho g x hx).keep (Ho.le_refl _) rfl, hR.disj, hR.inb, hR.uniq⟩
  · exact (Ext.refl _ H.next ρ _).wide (Nat.le_refl _) hnn
  · unfold unl
    refine Nat.le_trans (List.length_filter_le _ _) ?_
    simp [hr.len]
end
end Go.Ev
