/- BinderTypes without memory: walks through the functions that it reaches, and that they answer alike. It holds for every input. -/
import Derived.Test.YtffkihiledcilaaGreatDoorI2
namespace Go.Ev.Bt
open Go Go.Proofs.YtffkihiledcilaaGreatDoor
set_option maxRecDepth 10000
structure Col where
  id : Int
  nl : Nat
  nv : Nat
  kind : Int
def Col.enc (c : Col) : List DC := [.i .i64 c.id, .s c.nl c.nv, .i .i64 c.kind]
structure Ver where
  a : Int
  b : Int
  cols : Option (List Col)
def Ver.enc (v : Ver) : List DC := [.i .i64 v.a, .i .i64 v.b, encSl Col.enc v.cols]
structure Ref3 where
  p : Option (List (List DC))
  c : DC
  r : Option (List (List DC))
def Ref3.enc (x : Ref3) : List DC := [encSl id x.p, x.c, encSl id x.r]
structure Ref2 where
  c : DC
  r : Option (List (List DC))
def Ref2.enc (x : Ref2) : List DC := [x.c, encSl id x.r]
structure Sch where
  nl : Nat
  nv : Nat
  vers : Option (List Ver)
  k : Option (List (List DC))
  r3 : Option (List Ref3)
  r2 : Option (List Ref2)
def Sch.enc (s : Sch) : List DC := [.s s.nl s.nv, encSl Ver.enc s.vers, encSl id s.k, encSl Ref3.enc s.r3, encSl Ref2.enc s.r2]
def aggOf (l : List DC) : VV := .agg (l.map .d)
/-- small enough -/
def Sch.small (s : Sch) : Prop := (elS s.vers).length ≤ 12 ∧ ∀ v, v ∈ elS s.vers → (elS v.cols).length ≤ 20

set_option maxHeartbeats 1000000 in
theorem fewSchema {T : Tab} (h13 : T.ft.get 13 = some i13) (s : Sch) : Sound T 13 [aggOf s.enc] fun r => ∃ b, r = .d (.b b) ∧ (b = true → s.small) := by
  refine sound_fn h13 rfl ?_
  refine vc_seq ?_
  refine vc_region ?_
  refine vo_op (vi_box 1 rfl rfl rfl rfl rfl ?_)
  refine vo_op (vi_mov rfl ?_)
  refine vo_nil ?_
  refine vc_seq ?_
  refine vc_seq ?_
  refine vc_region ?_
  first | refine vo_op (vi_offsR rfl ?_) | refine vo_op (vi_offsV rfl ?_) | refine vo_op (vi_offsB rfl ?_)
  first | refine vo_op (vi_load1V rfl rfl rfl ?_) | refine vo_op (vi_load1R rfl rfl ?_)
  refine vo_op (vi_lenS rfl ?_)
  refine vo_op (vi_gt rfl rfl ?_)
  refine vo_op (vi_mov rfl ?_)
  refine vo_split (g := kk10) rfl (fun h10 => ?_) (fun h10 => ?_)
  · skip
    refine vo_skip rfl (h10) ?_
    refine vo_skip rfl (h10) ?_
    refine vo_skip rfl (h10) ?_
    refine vo_skip rfl (h10) ?_
    refine vo_op (vi_pickTH rfl (h10) rfl ?_)
    refine vo_op (vi_mov rfl ?_)
    refine vo_skip rfl (rfl) ?_
    refine vo_skip rfl (rfl) ?_
    refine vo_skip rfl (rfl) ?_
    refine vo_skip rfl (rfl) ?_
    refine vo_op (vi_pickTH rfl (rfl) rfl ?_)
    refine vo_op (vi_mov rfl ?_)
    refine vo_skip rfl (rfl) ?_
    refine vo_skip rfl (rfl) ?_
    refine vo_skip rfl (rfl) ?_
    refine vo_skip rfl (rfl) ?_
    refine vo_op (vi_pickTH rfl (rfl) rfl ?_)
    refine vo_op (vi_mov rfl ?_)
    refine vo_skip rfl (rfl) ?_
    refine vo_skip rfl (rfl) ?_
    refine vo_skip rfl (rfl) ?_
    refine vo_skip rfl (rfl) ?_
    refine vo_op (vi_pickTH rfl (rfl) rfl ?_)
    refine vo_nil ?_
    refine vc_condTH rfl (rfl) ?_
    refine vc_seq ?_
    refine vc_region ?_
    refine vo_op (vi_mov rfl ?_)
    refine vo_nil ?_
    refine vc_ret ?_
    refine ⟨_, rfl, ⟨trivial, trivial⟩, ?_⟩
    first | exact ⟨false, rfl, fun h => by cases h⟩ | exact ⟨true, rfl, fun _ => ⟨hv12, hall⟩⟩
  · skip
    skip
    first | refine vo_wantH rfl (h10) (vi_offsR rfl ?_) | refine vo_wantH rfl (h10) (vi_offsV rfl ?_) | refine vo_wantH rfl (h10) (vi_offsB rfl ?_)
    first | refine vo_wantH rfl (h10) (vi_load1V rfl rfl rfl ?_) | refine vo_wantH rfl (h10) (vi_load1R rfl rfl ?_)
    first | refine vo_wantH rfl (h10) (vi_lenO rfl ?_) | refine vo_wantH rfl (h10) (vi_lenB rfl ?_) | refine vo_wantH rfl (h10) (vi_lenA rfl ?_) | refine vo_wantH rfl (h10) (vi_len rfl ?_)
    refine vo_wantH rfl (h10) (vi_gt rfl rfl ?_)
    refine vo_op (vi_pickFH rfl (h10) rfl ?_)
    refine vo_op (vi_mov rfl ?_)
    refine vo_split (g := kk16) rfl (fun h16 => ?_) (fun h16 => ?_)
    · skip
      refine vo_skip rfl (h16) ?_
      refine vo_skip rfl (h16) ?_
      refine vo_skip rfl (h16) ?_
      refine vo_skip rfl (h16) ?_
      refine vo_op (vi_pickTH rfl (h16) rfl ?_)
      refine vo_op (vi_mov rfl ?_)
      refine vo_skip rfl (rfl) ?_
      refine vo_skip rfl (rfl) ?_
      refine vo_skip rfl (rfl) ?_
      refine vo_skip rfl (rfl) ?_
      refine vo_op (vi_pickTH rfl (rfl) rfl ?_)
      refine vo_op (vi_mov rfl ?_)
      refine vo_skip rfl (rfl) ?_
      refine vo_skip rfl (rfl) ?_
      refine vo_skip rfl (rfl) ?_
      refine vo_skip rfl (rfl) ?_
      refine vo_op (vi_pickTH rfl (rfl) rfl ?_)
      refine vo_nil ?_
      refine vc_condTH rfl (rfl) ?_
      refine vc_seq ?_
      refine vc_region ?_
      refine vo_op (vi_mov rfl ?_)
      refine vo_nil ?_
      refine vc_ret ?_
      refine ⟨_, rfl, ⟨trivial, trivial⟩, ?_⟩
      first | exact ⟨false, rfl, fun h => by cases h⟩ | exact ⟨true, rfl, fun _ => ⟨hv12, hall⟩⟩
    · skip
      have hv12 : (elS s.vers).length ≤ 12 := by simp at h16; omega
      first | refine vo_wantH rfl (h16) (vi_offsR rfl ?_) | refine vo_wantH rfl (h16) (vi_offsV rfl ?_) | refine vo_wantH rfl (h16) (vi_offsB rfl ?_)
      first | refine vo_wantH rfl (h16) (vi_load1V rfl rfl rfl ?_) | refine vo_wantH rfl (h16) (vi_load1R rfl rfl ?_)
      first | refine vo_wantH rfl (h16) (vi_lenO rfl ?_) | refine vo_wantH rfl (h16) (vi_lenB rfl ?_) | refine vo_wantH rfl (h16) (vi_lenA rfl ?_) | refine vo_wantH rfl (h16) (vi_len rfl ?_)
      refine vo_wantH rfl (h16) (vi_gt rfl rfl ?_)
      refine vo_op (vi_pickFH rfl (h16) rfl ?_)
      refine vo_op (vi_mov rfl ?_)
      refine vo_split (g := kk22) rfl (fun h22 => ?_) (fun h22 => ?_)
      · skip
        refine vo_skip rfl (h22) ?_
        refine vo_skip rfl (h22) ?_
        refine vo_skip rfl (h22) ?_
        refine vo_skip rfl (h22) ?_
        refine vo_op (vi_pickTH rfl (h22) rfl ?_)
        refine vo_op (vi_mov rfl ?_)
        refine vo_skip rfl (rfl) ?_
        refine vo_skip rfl (rfl) ?_
        refine vo_skip rfl (rfl) ?_
        refine vo_skip rfl (rfl) ?_
        refine vo_op (vi_pickTH rfl (rfl) rfl ?_)
        refine vo_nil ?_
        refine vc_condTH rfl (rfl) ?_
        refine vc_seq ?_
        refine vc_region ?_
        refine vo_op (vi_mov rfl ?_)
        refine vo_nil ?_
        refine vc_ret ?_
        refine ⟨_, rfl, ⟨trivial, trivial⟩, ?_⟩
        first | exact ⟨false, rfl, fun h => by cases h⟩ | exact ⟨true, rfl, fun _ => ⟨hv12, hall⟩⟩
      · skip
        first | refine vo_wantH rfl (h22) (vi_offsR rfl ?_) | refine vo_wantH rfl (h22) (vi_offsV rfl ?_) | refine vo_wantH rfl (h22) (vi_offsB rfl ?_)
        first | refine vo_wantH rfl (h22) (vi_load1V rfl rfl rfl ?_) | refine vo_wantH rfl (h22) (vi_load1R rfl rfl ?_)
        first | refine vo_wantH rfl (h22) (vi_lenO rfl ?_) | refine vo_wantH rfl (h22) (vi_lenB rfl ?_) | refine vo_wantH rfl (h22) (vi_lenA rfl ?_) | refine vo_wantH rfl (h22) (vi_len rfl ?_)
        refine vo_wantH rfl (h22) (vi_gt rfl rfl ?_)
        refine vo_op (vi_pickFH rfl (h22) rfl ?_)
        refine vo_op (vi_mov rfl ?_)
        refine vo_split (g := kk28) rfl (fun h28 => ?_) (fun h28 => ?_)
        · skip
          refine vo_skip rfl (h28) ?_
          refine vo_skip rfl (h28) ?_
          refine vo_skip rfl (h28) ?_
          refine vo_skip rfl (h28) ?_
          refine vo_op (vi_pickTH rfl (h28) rfl ?_)
          refine vo_nil ?_
          refine vc_condTH rfl (rfl) ?_
          refine vc_seq ?_
          refine vc_region ?_
          refine vo_op (vi_mov rfl ?_)
          refine vo_nil ?_
          refine vc_ret ?_
          refine ⟨_, rfl, ⟨trivial, trivial⟩, ?_⟩
          first | exact ⟨false, rfl, fun h => by cases h⟩ | exact ⟨true, rfl, fun _ => ⟨hv12, hall⟩⟩
        · skip
          have h310 : (elS s.r3).length ≤ 10 := by simp at h28; omega
          first | refine vo_wantH rfl (h28) (vi_offsR rfl ?_) | refine vo_wantH rfl (h28) (vi_offsV rfl ?_) | refine vo_wantH rfl (h28) (vi_offsB rfl ?_)
          first | refine vo_wantH rfl (h28) (vi_load1V rfl rfl rfl ?_) | refine vo_wantH rfl (h28) (vi_load1R rfl rfl ?_)
          first | refine vo_wantH rfl (h28) (vi_lenO rfl ?_) | refine vo_wantH rfl (h28) (vi_lenB rfl ?_) | refine vo_wantH rfl (h28) (vi_lenA rfl ?_) | refine vo_wantH rfl (h28) (vi_len rfl ?_)
          refine vo_wantH rfl (h28) (vi_gt rfl rfl ?_)
          refine vo_op (vi_pickFH rfl (h28) rfl ?_)
          refine vo_nil ?_
          refine vc_cond rfl (fun h33 => ?_) (fun h33 => ?_)
          · skip
            refine vc_seq ?_
            refine vc_region ?_
            refine vo_op (vi_mov rfl ?_)
            refine vo_nil ?_
            refine vc_ret ?_
            refine ⟨_, rfl, ⟨trivial, trivial⟩, ?_⟩
            first | exact ⟨false, rfl, fun h => by cases h⟩ | exact ⟨true, rfl, fun _ => ⟨hv12, hall⟩⟩
          · skip
            have h210 : (elS s.r2).length ≤ 10 := by simp at h33; omega
            refine vc_skip ?_
            refine vc_seq ?_
            refine vc_seq ?_
            refine vc_region ?_
            refine vo_op (vi_mov rfl ?_)
            refine vo_nil ?_
            refine vc_blockV ?_
            refine vc_loop (fun k VE B => ∃ i : Nat, i ≤ (elS s.vers).length ∧ k = (elS s.vers).length - i ∧ (∀ j v, j < i → (elS s.vers)[j]? = some v → (elS v.cols).length ≤ 20) ∧ SubL [(1, .vp 1 0), (3, .d (.i .i64 i))] VE ∧ SubL [(1, .one 31 112 (s.enc.map .d))] B) ?_ (k := (elS s.vers).length) ⟨0, Nat.zero_le _, rfl, fun j v h => by omega, ⟨rfl, rfl, trivial⟩, ⟨rfl, trivial⟩⟩
            rintro k VE B ⟨i, hi, rfl, hc, hV, hB⟩
            refine vc_norm _ _ hV hB ?_
            refine vc_seq ?_
            refine vc_seq ?_
            refine vc_region ?_
            refine vo_op (vi_mov rfl ?_)
            first | refine vo_op (vi_offsR rfl ?_) | refine vo_op (vi_offsV rfl ?_) | refine vo_op (vi_offsB rfl ?_)
            first | refine vo_op (vi_load1V rfl rfl rfl ?_) | refine vo_op (vi_load1R rfl rfl ?_)
            first | refine vo_op (vi_lenO rfl ?_) | refine vo_op (vi_lenB rfl ?_) | refine vo_op (vi_lenA rfl ?_) | refine vo_op (vi_len rfl ?_)
            refine vo_op (vi_lt rfl rfl ?_)
            refine vo_nil ?_
            refine vc_cond rfl (fun h38 => ?_) (fun h38 => ?_)
            · skip
              have hlt : i < (elS s.vers).length := by simpa using h38
              obtain ⟨x, hx⟩ : ∃ x, (elS s.vers)[i]? = some x := ⟨_, List.getElem?_eq_getElem hlt⟩
              refine vc_skip ?_
              refine vc_seq ?_
              refine vc_blockV ?_
              refine vc_seq ?_
              refine vc_region ?_
              first | refine vo_op (vi_offsR rfl ?_) | refine vo_op (vi_offsV rfl ?_) | refine vo_op (vi_offsB rfl ?_)
              first | refine vo_op (vi_load1V rfl rfl rfl ?_) | refine vo_op (vi_load1R rfl rfl ?_)
              refine vo_op (vi_mov rfl ?_)
              first | refine vo_op (vi_idxO rfl rfl hx rfl ?_) | refine vo_op (vi_idxB rfl rfl (by omega) ?_) | refine vo_op (vi_idxA rfl rfl (by omega) ?_)
              first | refine vo_op (vi_offsR rfl ?_) | refine vo_op (vi_offsV rfl ?_) | refine vo_op (vi_offsB rfl ?_)
              first | refine vo_op (vi_load1V rfl rfl rfl ?_) | refine vo_op (vi_load1R rfl rfl ?_)
              first | refine vo_op (vi_lenO rfl ?_) | refine vo_op (vi_lenB rfl ?_) | refine vo_op (vi_lenA rfl ?_) | refine vo_op (vi_len rfl ?_)
              refine vo_op (vi_gt rfl rfl ?_)
              refine vo_nil ?_
              refine vc_cond rfl (fun h48 => ?_) (fun h48 => ?_)
              · skip
                refine vc_seq ?_
                refine vc_region ?_
                refine vo_op (vi_mov rfl ?_)
                refine vo_nil ?_
                refine vc_ret ?_
                refine ⟨_, rfl, ⟨trivial, trivial⟩, ?_⟩
                first | exact ⟨false, rfl, fun h => by cases h⟩ | exact ⟨true, rfl, fun _ => ⟨hv12, hall⟩⟩
              · skip
                refine vc_skip ?_
                refine vc_region ?_
                refine vo_op (vi_mov rfl ?_)
                first | refine vo_op (vi_inc rfl rfl (by omega) ?_) | refine vo_op (vi_add rfl rfl (by omega) (by omega) ?_)
                refine vo_op (vi_mov rfl ?_)
                refine vo_nil ?_
                refine ⟨(elS s.vers).length - (i + 1), by omega, i + 1, by omega, rfl, ?_, ⟨rfl, rfl, trivial⟩, ⟨rfl, trivial⟩⟩
                intro j v hj hv
                by_cases e : j = i
                · subst e; rw [hx] at hv; cases hv; have h48 := h48; simp at h48; omega
                · exact hc j v (by omega) hv
            · skip
              have hall : ∀ v, v ∈ elS s.vers → (elS v.cols).length ≤ 20 := fun v hv => by
                obtain ⟨j, hj⟩ := List.getElem?_of_mem hv
                have := (List.getElem?_eq_some_iff.1 hj).1
                have hge : (elS s.vers).length ≤ i := by simpa using h38
                exact hc j v (by omega) hj
              clear hc hi hV hB VE B h38
              refine vc_exit ?_
              refine vc_seq ?_
              refine vc_seq ?_
              refine vc_region ?_
              refine vo_op (vi_mov rfl ?_)
              refine vo_nil ?_
              refine vc_blockV ?_
              refine vc_loop (fun k VE B => ∃ i : Nat, i ≤ (elS s.r3).length ∧ k = (elS s.r3).length - i ∧ SubL [(1, .vp 1 0), (4, .d (.i .i64 i))] VE ∧ SubL [(1, .one 31 112 (s.enc.map .d))] B) ?_ (k := (elS s.r3).length) ⟨0, Nat.zero_le _, rfl, ⟨rfl, rfl, trivial⟩, ⟨rfl, trivial⟩⟩
              rintro k VE B ⟨i, hi, rfl, hV, hB⟩
              refine vc_norm _ _ hV hB ?_
              refine vc_seq ?_
              refine vc_seq ?_
              refine vc_region ?_
              refine vo_op (vi_mov rfl ?_)
              first | refine vo_op (vi_offsR rfl ?_) | refine vo_op (vi_offsV rfl ?_) | refine vo_op (vi_offsB rfl ?_)
              first | refine vo_op (vi_load1V rfl rfl rfl ?_) | refine vo_op (vi_load1R rfl rfl ?_)
              first | refine vo_op (vi_lenO rfl ?_) | refine vo_op (vi_lenB rfl ?_) | refine vo_op (vi_lenA rfl ?_) | refine vo_op (vi_len rfl ?_)
              refine vo_op (vi_lt rfl rfl ?_)
              refine vo_nil ?_
              refine vc_cond rfl (fun h53 => ?_) (fun h53 => ?_)
              · skip
                have hlt : i < (elS s.r3).length := by simpa using h53
                obtain ⟨x, hx⟩ : ∃ x, (elS s.r3)[i]? = some x := ⟨_, List.getElem?_eq_getElem hlt⟩
                refine vc_skip ?_
                refine vc_seq ?_
                refine vc_blockV ?_
                refine vc_seq ?_
                refine vc_region ?_
                first | refine vo_op (vi_offsR rfl ?_) | refine vo_op (vi_offsV rfl ?_) | refine vo_op (vi_offsB rfl ?_)
                first | refine vo_op (vi_load1V rfl rfl rfl ?_) | refine vo_op (vi_load1R rfl rfl ?_)
                refine vo_op (vi_mov rfl ?_)
                first | refine vo_op (vi_idxO rfl rfl hx rfl ?_) | refine vo_op (vi_idxB rfl rfl (by omega) ?_) | refine vo_op (vi_idxA rfl rfl (by omega) ?_)
                first | refine vo_op (vi_offsR rfl ?_) | refine vo_op (vi_offsV rfl ?_) | refine vo_op (vi_offsB rfl ?_)
                first | refine vo_op (vi_load1V rfl rfl rfl ?_) | refine vo_op (vi_load1R rfl rfl ?_)
                first | refine vo_op (vi_lenO rfl ?_) | refine vo_op (vi_lenB rfl ?_) | refine vo_op (vi_lenA rfl ?_) | refine vo_op (vi_len rfl ?_)
                refine vo_op (vi_gt rfl rfl ?_)
                refine vo_op (vi_mov rfl ?_)
                refine vo_split (g := kk64) rfl (fun h64 => ?_) (fun h64 => ?_)
                · skip
                  refine vo_skip rfl (h64) ?_
                  refine vo_skip rfl (h64) ?_
                  refine vo_skip rfl (h64) ?_
                  refine vo_skip rfl (h64) ?_
                  refine vo_skip rfl (h64) ?_
                  refine vo_skip rfl (h64) ?_
                  refine vo_skip rfl (h64) ?_
                  refine vo_skip rfl (h64) ?_
                  refine vo_op (vi_pickTH rfl (h64) rfl ?_)
                  refine vo_nil ?_
                  refine vc_condTH rfl (rfl) ?_
                  refine vc_seq ?_
                  refine vc_region ?_
                  refine vo_op (vi_mov rfl ?_)
                  refine vo_nil ?_
                  refine vc_ret ?_
                  refine ⟨_, rfl, ⟨trivial, trivial⟩, ?_⟩
                  first | exact ⟨false, rfl, fun h => by cases h⟩ | exact ⟨true, rfl, fun _ => ⟨hv12, hall⟩⟩
                · skip
                  first | refine vo_wantH rfl (h64) (vi_offsR rfl ?_) | refine vo_wantH rfl (h64) (vi_offsV rfl ?_) | refine vo_wantH rfl (h64) (vi_offsB rfl ?_)
                  first | refine vo_wantH rfl (h64) (vi_load1V rfl rfl rfl ?_) | refine vo_wantH rfl (h64) (vi_load1R rfl rfl ?_)
                  refine vo_wantH rfl (h64) (vi_mov rfl ?_)
                  first | refine vo_wantH rfl (h64) (vi_idxO rfl rfl hx rfl ?_) | refine vo_wantH rfl (h64) (vi_idxB rfl rfl (by omega) ?_) | refine vo_wantH rfl (h64) (vi_idxA rfl rfl (by omega) ?_)
                  first | refine vo_wantH rfl (h64) (vi_offsR rfl ?_) | refine vo_wantH rfl (h64) (vi_offsV rfl ?_) | refine vo_wantH rfl (h64) (vi_offsB rfl ?_)
                  first | refine vo_wantH rfl (h64) (vi_load1V rfl rfl rfl ?_) | refine vo_wantH rfl (h64) (vi_load1R rfl rfl ?_)
                  first | refine vo_wantH rfl (h64) (vi_lenO rfl ?_) | refine vo_wantH rfl (h64) (vi_lenB rfl ?_) | refine vo_wantH rfl (h64) (vi_lenA rfl ?_) | refine vo_wantH rfl (h64) (vi_len rfl ?_)
                  refine vo_wantH rfl (h64) (vi_gt rfl rfl ?_)
                  refine vo_op (vi_pickFH rfl (h64) rfl ?_)
                  refine vo_nil ?_
                  refine vc_cond rfl (fun h73 => ?_) (fun h73 => ?_)
                  · skip
                    refine vc_seq ?_
                    refine vc_region ?_
                    refine vo_op (vi_mov rfl ?_)
                    refine vo_nil ?_
                    refine vc_ret ?_
                    refine ⟨_, rfl, ⟨trivial, trivial⟩, ?_⟩
                    first | exact ⟨false, rfl, fun h => by cases h⟩ | exact ⟨true, rfl, fun _ => ⟨hv12, hall⟩⟩
                  · skip
                    refine vc_skip ?_
                    refine vc_region ?_
                    refine vo_op (vi_mov rfl ?_)
                    first | refine vo_op (vi_inc rfl rfl (by omega) ?_) | refine vo_op (vi_add rfl rfl (by omega) (by omega) ?_)
                    refine vo_op (vi_mov rfl ?_)
                    refine vo_nil ?_
                    refine ⟨(elS s.r3).length - (i + 1), by omega, i + 1, by omega, rfl, ⟨rfl, rfl, trivial⟩, ⟨rfl, trivial⟩⟩
              · skip
                clear hi hV hB VE B h53
                refine vc_exit ?_
                refine vc_seq ?_
                refine vc_seq ?_
                refine vc_region ?_
                refine vo_op (vi_mov rfl ?_)
                refine vo_nil ?_
                refine vc_blockV ?_
                refine vc_loop (fun k VE B => ∃ i : Nat, i ≤ (elS s.r2).length ∧ k = (elS s.r2).length - i ∧ SubL [(1, .vp 1 0), (5, .d (.i .i64 i))] VE ∧ SubL [(1, .one 31 112 (s.enc.map .d))] B) ?_ (k := (elS s.r2).length) ⟨0, Nat.zero_le _, rfl, ⟨rfl, rfl, trivial⟩, ⟨rfl, trivial⟩⟩
                rintro k VE B ⟨i, hi, rfl, hV, hB⟩
                refine vc_norm _ _ hV hB ?_
                refine vc_seq ?_
                refine vc_seq ?_
                refine vc_region ?_
                refine vo_op (vi_mov rfl ?_)
                first | refine vo_op (vi_offsR rfl ?_) | refine vo_op (vi_offsV rfl ?_) | refine vo_op (vi_offsB rfl ?_)
                first | refine vo_op (vi_load1V rfl rfl rfl ?_) | refine vo_op (vi_load1R rfl rfl ?_)
                first | refine vo_op (vi_lenO rfl ?_) | refine vo_op (vi_lenB rfl ?_) | refine vo_op (vi_lenA rfl ?_) | refine vo_op (vi_len rfl ?_)
                refine vo_op (vi_lt rfl rfl ?_)
                refine vo_nil ?_
                refine vc_cond rfl (fun h78 => ?_) (fun h78 => ?_)
                · skip
                  have hlt : i < (elS s.r2).length := by simpa using h78
                  obtain ⟨x, hx⟩ : ∃ x, (elS s.r2)[i]? = some x := ⟨_, List.getElem?_eq_getElem hlt⟩
                  refine vc_skip ?_
                  refine vc_seq ?_
                  refine vc_blockV ?_
                  refine vc_seq ?_
                  refine vc_region ?_
                  first | refine vo_op (vi_offsR rfl ?_) | refine vo_op (vi_offsV rfl ?_) | refine vo_op (vi_offsB rfl ?_)
                  first | refine vo_op (vi_load1V rfl rfl rfl ?_) | refine vo_op (vi_load1R rfl rfl ?_)
                  refine vo_op (vi_mov rfl ?_)
                  first | refine vo_op (vi_idxO rfl rfl hx rfl ?_) | refine vo_op (vi_idxB rfl rfl (by omega) ?_) | refine vo_op (vi_idxA rfl rfl (by omega) ?_)
                  first | refine vo_op (vi_offsR rfl ?_) | refine vo_op (vi_offsV rfl ?_) | refine vo_op (vi_offsB rfl ?_)
                  first | refine vo_op (vi_load1V rfl rfl rfl ?_) | refine vo_op (vi_load1R rfl rfl ?_)
                  first | refine vo_op (vi_lenO rfl ?_) | refine vo_op (vi_lenB rfl ?_) | refine vo_op (vi_lenA rfl ?_) | refine vo_op (vi_len rfl ?_)
                  refine vo_op (vi_gt rfl rfl ?_)
                  refine vo_nil ?_
                  refine vc_cond rfl (fun h88 => ?_) (fun h88 => ?_)
                  · skip
                    refine vc_seq ?_
                    refine vc_region ?_
                    refine vo_op (vi_mov rfl ?_)
                    refine vo_nil ?_
                    refine vc_ret ?_
                    refine ⟨_, rfl, ⟨trivial, trivial⟩, ?_⟩
                    first | exact ⟨false, rfl, fun h => by cases h⟩ | exact ⟨true, rfl, fun _ => ⟨hv12, hall⟩⟩
                  · skip
                    refine vc_skip ?_
                    refine vc_region ?_
                    refine vo_op (vi_mov rfl ?_)
                    first | refine vo_op (vi_inc rfl rfl (by omega) ?_) | refine vo_op (vi_add rfl rfl (by omega) (by omega) ?_)
                    refine vo_op (vi_mov rfl ?_)
                    refine vo_nil ?_
                    refine ⟨(elS s.r2).length - (i + 1), by omega, i + 1, by omega, rfl, ⟨rfl, rfl, trivial⟩, ⟨rfl, trivial⟩⟩
                · skip
                  refine vc_exit ?_
                  refine vc_seq ?_
                  refine vc_region ?_
                  refine vo_op (vi_mov rfl ?_)
                  refine vo_nil ?_
                  refine vc_ret ?_
                  refine ⟨_, rfl, ⟨trivial, trivial⟩, ?_⟩
                  first | exact ⟨false, rfl, fun h => by cases h⟩ | exact ⟨true, rfl, fun _ => ⟨hv12, hall⟩⟩
theorem few {T : Tab} (h5 : T.ft.get 5 = some i5) (h13 : T.ft.get 13 = some i13) (l : Option (List Sch)) : Sound T 5 [.d (encSl Sch.enc l)] fun r => ∃ b, r = .d (.b b) ∧ (b = true → (elS l).length < 5 ∧ ∀ v, v ∈ elS l → v.small) := by
  refine sound_fn h5 rfl ?_
  refine vc_seq ?_
  refine vc_region ?_
  refine vo_op (vi_mov rfl ?_)
  refine vo_nil ?_
  refine vc_seq ?_
  refine vc_seq ?_
  refine vc_region ?_
  refine vo_op (vi_mov rfl ?_)
  refine vo_nil ?_
  refine vc_blockV ?_
  refine vc_loop (fun k VE B => ∃ i : Nat, i ≤ (elS l).length ∧ i ≤ 5 ∧ k = (elS l).length - i ∧ (∀ j v, j < i → (elS l)[j]? = some v → v.small) ∧ SubL [(0, .d (encSl Sch.enc l)), (3, .d (.i .i64 i))] VE ∧ SubL [] B) ?_ (k := (elS l).length) ⟨0, Nat.zero_le _, by omega, rfl, fun j v h => by omega, ⟨rfl, rfl, trivial⟩, trivial⟩
  rintro k VE B ⟨i, hi, hi5, rfl, hc, hV, hB⟩
  refine vc_norm _ _ hV hB ?_
  refine vc_seq ?_
  refine vc_seq ?_
  refine vc_region ?_
  refine vo_op (vi_mov rfl ?_)
  refine vo_op (vi_mov rfl ?_)
  first | refine vo_op (vi_lenO rfl ?_) | refine vo_op (vi_lenB rfl ?_) | refine vo_op (vi_lenA rfl ?_) | refine vo_op (vi_len rfl ?_)
  refine vo_op (vi_lt rfl rfl ?_)
  refine vo_op (vi_mov rfl ?_)
  refine vo_split (g := kk8) rfl (fun h8 => ?_) (fun h8 => ?_)
  · skip
    have hlt : i < (elS l).length := by simpa using h8
    obtain ⟨x, hx⟩ : ∃ x, (elS l)[i]? = some x := ⟨_, List.getElem?_eq_getElem hlt⟩
    refine vo_wantH rfl (h8) (vi_mov rfl ?_)
    refine vo_wantH rfl (h8) (vi_lt rfl rfl ?_)
    refine vo_op (vi_pickTH rfl (h8) rfl ?_)
    refine vo_nil ?_
    refine vc_cond rfl (fun h11 => ?_) (fun h11 => ?_)
    · skip
      have h115 : i < 5 := by have h11 := h11; simp at h11; omega
      refine vc_skip ?_
      refine vc_seq ?_
      refine vc_blockV ?_
      refine vc_seq ?_
      refine vc_region ?_
      refine vo_op (vi_mov rfl ?_)
      refine vo_op (vi_mov rfl ?_)
      first | refine vo_op (vi_idxO rfl rfl hx rfl ?_) | refine vo_op (vi_idxB rfl rfl (by omega) ?_) | refine vo_op (vi_idxA rfl rfl (by omega) ?_)
      first | refine vo_op (vi_loadAV rfl rfl (Nat.le_of_ble_eq_true rfl) (Nat.le_of_ble_eq_true rfl) ?_) | refine vo_op (vi_loadAR rfl (Nat.le_of_ble_eq_true rfl) (Nat.le_of_ble_eq_true rfl) ?_)
      refine vo_op (vi_call (args := [aggOf x.enc]) rfl (by repeat (first | exact trivial | apply And.intro)) (fewSchema h13 x) (fun r hn hr => ?_))
      obtain ⟨b, rfl, hr2⟩ := hr
      refine vo_op (vi_not rfl ?_)
      refine vo_nil ?_
      refine vc_cond rfl (fun h19 => ?_) (fun h19 => ?_)
      · skip
        refine vc_seq ?_
        refine vc_region ?_
        refine vo_op (vi_mov rfl ?_)
        refine vo_nil ?_
        refine vc_ret ?_
        refine ⟨_, rfl, ⟨trivial, trivial⟩, ?_⟩
        first | exact ⟨false, rfl, fun h => by cases h⟩ | exact ⟨_, rfl, fun h => by
          have h := h
          simp at h
          exact ⟨by omega, hall (by omega)⟩⟩
      · skip
        refine vc_skip ?_
        refine vc_region ?_
        refine vo_op (vi_mov rfl ?_)
        first | refine vo_op (vi_inc rfl rfl (by omega) ?_) | refine vo_op (vi_add rfl rfl (by omega) (by omega) ?_)
        refine vo_op (vi_mov rfl ?_)
        refine vo_nil ?_
        refine ⟨(elS l).length - (i + 1), by omega, i + 1, by omega, by omega, rfl, ?_, ⟨rfl, rfl, trivial⟩, trivial⟩
        intro j v hj hv
        by_cases e : j = i
        · subst e; rw [hx] at hv; cases hv; exact hr2 (by simpa using h19)
        · exact hc j v (by omega) hv
    · skip
      have hall : (elS l).length < 5 → ∀ v, v ∈ elS l → v.small := fun _ v hv => by
        have h11 := h11
        simp at h11
        omega
      clear hc hi hi5 hV hB VE B hx
      refine vc_exit ?_
      refine vc_seq ?_
      refine vc_region ?_
      refine vo_op (vi_mov rfl ?_)
      first | refine vo_op (vi_lenO rfl ?_) | refine vo_op (vi_lenB rfl ?_) | refine vo_op (vi_lenA rfl ?_) | refine vo_op (vi_len rfl ?_)
      refine vo_op (vi_lt rfl rfl ?_)
      refine vo_op (vi_mov rfl ?_)
      refine vo_nil ?_
      refine vc_ret ?_
      refine ⟨_, rfl, ⟨trivial, trivial⟩, ?_⟩
      first | exact ⟨false, rfl, fun h => by cases h⟩ | exact ⟨_, rfl, fun h => by
        have h := h
        simp at h
        exact ⟨by omega, hall (by omega)⟩⟩
  · skip
    have hall : (elS l).length < 5 → ∀ v, v ∈ elS l → v.small := fun _ v hv => by
      obtain ⟨j, hj⟩ := List.getElem?_of_mem hv
      have := (List.getElem?_eq_some_iff.1 hj).1
      have h8 := h8
      simp at h8
      exact hc j v (by omega) hj
    clear hc hi hi5 hV hB VE B
    refine vo_skip rfl (h8) ?_
    refine vo_skip rfl (h8) ?_
    refine vo_op (vi_pickFH rfl (h8) rfl ?_)
    refine vo_nil ?_
    refine vc_condFH rfl (rfl) ?_
    refine vc_exit ?_
    refine vc_seq ?_
    refine vc_region ?_
    refine vo_op (vi_mov rfl ?_)
    first | refine vo_op (vi_lenO rfl ?_) | refine vo_op (vi_lenB rfl ?_) | refine vo_op (vi_lenA rfl ?_) | refine vo_op (vi_len rfl ?_)
    refine vo_op (vi_lt rfl rfl ?_)
    refine vo_op (vi_mov rfl ?_)
    refine vo_nil ?_
    refine vc_ret ?_
    refine ⟨_, rfl, ⟨trivial, trivial⟩, ?_⟩
    first | exact ⟨false, rfl, fun h => by cases h⟩ | exact ⟨_, rfl, fun h => by
      have h := h
      simp at h
      exact ⟨by omega, hall (by omega)⟩⟩
theorem clone174 {T : Tab} (h174 : T.ft.get 174 = some i174) {o : Option (List Col)} (hl : (elS o).length ≤ 1000) : Sound T 174 [.d (encSl Col.enc o)] fun r => r = .d (encSl Col.enc o) := by
  refine sound_fn h174 rfl ?_
  refine vc_seq ?_
  refine vc_region ?_
  refine vo_op (vi_mov rfl ?_)
  refine vo_nil ?_
  refine vc_seq ?_
  refine vc_seq ?_
  refine vc_region ?_
  refine vo_op (vi_mov rfl ?_)
  refine vo_op (vi_nilO rfl rfl ?_)
  refine vo_nil ?_
  refine vc_cond rfl (fun h4 => ?_) (fun h4 => ?_)
  · skip
    have ho : o = none := by cases o with
      | none => rfl
      | some l => cases h4
    subst ho
    refine vc_seq ?_
    refine vc_region ?_
    refine vo_op (vi_mov rfl ?_)
    refine vo_nil ?_
    first | refine vc_frz 2 5 rfl rfl (fun _ => ⟨rfl, rfl⟩) ?_ | skip
    refine vc_ret ?_
    exact ⟨_, rfl, (by repeat (first | exact trivial | apply And.intro)), rfl⟩
  · skip
    obtain ⟨l, rfl⟩ : ∃ l, o = some l := by cases o with
      | none => cases h4
      | some l => exact ⟨l, rfl⟩
    refine vc_skip ?_
    refine vc_seq ?_
    refine vc_region ?_
    refine vo_op (vi_buildSl 5 rfl rfl rfl rfl rfl rfl ?_)
    refine vo_op (vi_mov rfl ?_)
    refine vo_op (vi_appB (rows := []) rfl rfl rfl (YR.enc fun _ => rfl) (by decide) (by rw [List.nil_append, List.length_map]; omega) ?_)
    refine vo_op (vi_mov rfl ?_)
    refine vo_nil ?_
    first | refine vc_frz 2 5 rfl rfl (fun _ => ⟨rfl, rfl⟩) ?_ | skip
    refine vc_ret ?_
    exact ⟨_, rfl, (by repeat (first | exact trivial | apply And.intro)), rfl⟩
theorem cloneVersion {T : Tab} (h101 : T.ft.get 101 = some i101) (h174 : T.ft.get 174 = some i174) {v : Ver} (hl : (elS v.cols).length ≤ 1000) : Sound T 101 [aggOf v.enc] fun r => r = aggOf v.enc := by
  refine sound_fn h101 rfl ?_
  refine vc_seq ?_
  refine vc_region ?_
  refine vo_op (vi_box 1 rfl rfl rfl rfl rfl ?_)
  refine vo_op (vi_boxz 2 rfl rfl rfl rfl ?_)
  refine vo_nil ?_
  refine vc_seq ?_
  refine vc_region ?_
  first | refine vo_op (vi_offsR rfl ?_) | refine vo_op (vi_offsV rfl ?_) | refine vo_op (vi_offsB rfl ?_)
  first | refine vo_op (vi_load1V rfl rfl rfl ?_) | refine vo_op (vi_load1R rfl rfl ?_)
  refine vo_op (vi_call (args := [.d (encSl Col.enc v.cols)]) rfl (by repeat (first | exact trivial | apply And.intro)) (clone174 h174 hl) (fun r hn hr => ?_))
  subst hr
  first | refine vo_op (vi_offsR rfl ?_) | refine vo_op (vi_offsV rfl ?_) | refine vo_op (vi_offsB rfl ?_)
  first | refine vo_opN (vi_storeV rfl rfl rfl rfl rfl (Nat.le_of_ble_eq_true rfl) (Nat.le_of_ble_eq_true rfl) ?_) | refine vo_opN (vi_storeB rfl rfl rfl rfl rfl rfl (Nat.le_of_ble_eq_true rfl) (Nat.le_of_ble_eq_true rfl) hrow ?_)
  refine vo_nil ?_
  refine vc_seq ?_
  refine vc_region ?_
  first | refine vo_op (vi_loadAV rfl rfl (Nat.le_of_ble_eq_true rfl) (Nat.le_of_ble_eq_true rfl) ?_) | refine vo_op (vi_loadAR rfl (Nat.le_of_ble_eq_true rfl) (Nat.le_of_ble_eq_true rfl) ?_)
  first | refine vo_opN (vi_storeV rfl rfl rfl rfl rfl (Nat.le_of_ble_eq_true rfl) (Nat.le_of_ble_eq_true rfl) ?_) | refine vo_opN (vi_storeB rfl rfl rfl rfl rfl rfl (Nat.le_of_ble_eq_true rfl) (Nat.le_of_ble_eq_true rfl) hrow ?_)
  refine vo_nil ?_
  refine vc_ret ?_
  exact ⟨_, rfl, (by repeat (first | exact trivial | apply And.intro)), rfl⟩

def Ver.sees (t : Int) (v : Ver) : Bool := decide (v.a ≤ t) && decide (t < v.b)
def verAt (l : List Ver) (t : Int) : Option Ver := l.find? (Ver.sees t)
def zeroVer : Ver := ⟨0, 0, none⟩
def atV (o : Option Ver) : VV := .tuple [aggOf (o.getD zeroVer).enc, .d (.b o.isSome)]
theorem verAt_some {l : List Ver} {t : Int} {i : Nat} {x : Ver} (hx : l[i]? = some x) (hs : x.sees t = true) (hc : ∀ j v, j < i → l[j]? = some v → v.sees t = false) : verAt l t = some x := by
  unfold verAt
  induction l generalizing i with
  | nil => simp at hx
  | cons y r ih =>
    cases i with
    | zero => simp at hx; subst hx; simp [hs]
    | succ i =>
      have hy := hc 0 y (by omega) rfl
      rw [List.find?_cons, hy]
      exact ih (by simpa using hx) fun j v hj hv => hc (j + 1) v (by omega) (by simpa using hv)
theorem verAt_none {l : List Ver} {t : Int} (hc : ∀ j v, j < l.length → l[j]? = some v → v.sees t = false) : verAt l t = none := by
  unfold verAt
  rw [List.find?_eq_none]
  intro v hv
  obtain ⟨j, hj⟩ := List.getElem?_of_mem hv
  rw [hc j v (List.getElem?_eq_some_iff.1 hj).1 hj]
  simp
set_option maxHeartbeats 1000000 in
theorem schemaAt {T : Tab} (h48 : T.ft.get 48 = some i48) (h101 : T.ft.get 101 = some i101) (h174 : T.ft.get 174 = some i174) {s : Sch} (hs : s.small) (t : Int) : Sound T 48 [aggOf s.enc, .d (.i .i64 t)] fun r => r = atV (verAt (elS s.vers) t) := by
  refine sound_fn h48 rfl ?_
  have hs1 := hs.1
  refine vc_seq ?_
  refine vc_region ?_
  refine vo_op (vi_box 2 rfl rfl rfl rfl rfl ?_)
  refine vo_op (vi_boxz 4 rfl rfl rfl rfl ?_)
  refine vo_op (vi_mov rfl ?_)
  refine vo_nil ?_
  refine vc_seq ?_
  refine vc_seq ?_
  refine vc_region ?_
  first | refine vo_op (vi_offsR rfl ?_) | refine vo_op (vi_offsV rfl ?_) | refine vo_op (vi_offsB rfl ?_)
  first | refine vo_op (vi_load1V rfl rfl rfl ?_) | refine vo_op (vi_load1R rfl rfl ?_)
  first | refine vo_op (vi_lenO rfl ?_) | refine vo_op (vi_lenB rfl ?_) | refine vo_op (vi_lenA rfl ?_) | refine vo_op (vi_len rfl ?_)
  refine vo_op (vi_mov rfl ?_)
  refine vo_nil ?_
  refine vc_blockV ?_
  refine vc_loop (fun k VE B => ∃ i : Nat, i ≤ (elS s.vers).length ∧ k = (elS s.vers).length - i ∧ (∀ j v, j < i → (elS s.vers)[j]? = some v → v.sees t = false) ∧ SubL [(1, .d (.i .i64 t)), (9, .d (encSl Ver.enc s.vers)), (10, .d (.i .i64 ((elS s.vers).length : Nat))), (11, .d (.i .i64 i)), (4, .vp 4 0)] VE ∧ SubL [(4, .one 77 40 [.d (.i .i64 0), .d (.i .i64 0), .d .nil])] B) ?_ (k := (elS s.vers).length) ⟨0, Nat.zero_le _, rfl, fun j v h => by omega, ⟨rfl, rfl, rfl, rfl, rfl, trivial⟩, ⟨rfl, trivial⟩⟩
  rintro k VE B ⟨i, hi, rfl, hc, hV, hB⟩
  refine vc_norm _ _ hV hB ?_
  refine vc_seq ?_
  refine vc_region ?_
  refine vo_op (vi_lt rfl rfl ?_)
  refine vo_nil ?_
  refine vc_seq ?_
  refine vc_cond rfl (fun h12 => ?_) (fun h12 => ?_)
  · skip
    have hlt : i < (elS s.vers).length := by simpa using h12
    obtain ⟨x, hx⟩ : ∃ x, (elS s.vers)[i]? = some x := ⟨_, List.getElem?_eq_getElem hlt⟩
    have hxl := hs.2 x (List.mem_of_getElem? hx)
    refine vc_skip ?_
    refine vc_seq ?_
    refine vc_blockV ?_
    refine vc_seq ?_
    refine vc_region ?_
    first | refine vo_op (vi_idxO rfl rfl hx rfl ?_) | refine vo_op (vi_idxB rfl rfl (by omega) ?_) | refine vo_op (vi_idxA rfl rfl (by omega) ?_)
    first | refine vo_op (vi_loadAV rfl rfl (Nat.le_of_ble_eq_true rfl) (Nat.le_of_ble_eq_true rfl) ?_) | refine vo_op (vi_loadAR rfl (Nat.le_of_ble_eq_true rfl) (Nat.le_of_ble_eq_true rfl) ?_)
    refine vo_op (vi_boxz 7 rfl rfl rfl rfl ?_)
    first | refine vo_opN (vi_storeV rfl rfl rfl rfl rfl (Nat.le_of_ble_eq_true rfl) (Nat.le_of_ble_eq_true rfl) ?_) | refine vo_opN (vi_storeB rfl rfl rfl rfl rfl rfl (Nat.le_of_ble_eq_true rfl) (Nat.le_of_ble_eq_true rfl) hrow ?_)
    refine vo_nil ?_
    refine vc_seq ?_
    refine vc_region ?_
    first | refine vo_op (vi_offsR rfl ?_) | refine vo_op (vi_offsV rfl ?_) | refine vo_op (vi_offsB rfl ?_)
    first | refine vo_op (vi_offsR rfl ?_) | refine vo_op (vi_offsV rfl ?_) | refine vo_op (vi_offsB rfl ?_)
    first | refine vo_op (vi_load1V rfl rfl rfl ?_) | refine vo_op (vi_load1R rfl rfl ?_)
    refine vo_op (vi_mov rfl ?_)
    refine vo_op (vi_le rfl rfl ?_)
    refine vo_op (vi_mov rfl ?_)
    refine vo_split (g := kk20) rfl (fun h20 => ?_) (fun h20 => ?_)
    · skip
      refine vo_wantH rfl (h20) (vi_mov rfl ?_)
      first | refine vo_wantH rfl (h20) (vi_offsR rfl ?_) | refine vo_wantH rfl (h20) (vi_offsV rfl ?_) | refine vo_wantH rfl (h20) (vi_offsB rfl ?_)
      first | refine vo_wantH rfl (h20) (vi_offsR rfl ?_) | refine vo_wantH rfl (h20) (vi_offsV rfl ?_) | refine vo_wantH rfl (h20) (vi_offsB rfl ?_)
      first | refine vo_wantH rfl (h20) (vi_load1V rfl rfl rfl ?_) | refine vo_wantH rfl (h20) (vi_load1R rfl rfl ?_)
      refine vo_wantH rfl (h20) (vi_lt rfl rfl ?_)
      refine vo_op (vi_pickTH rfl (h20) rfl ?_)
      refine vo_nil ?_
      refine vc_cond rfl (fun h26 => ?_) (fun h26 => ?_)
      · skip
        have hv : verAt (elS s.vers) t = some x := verAt_some hx (by simp only [Ver.sees, h20, h26, Bool.and_self]) hc
        refine vc_seq ?_
        refine vc_region ?_
        first | refine vo_op (vi_loadAV rfl rfl (Nat.le_of_ble_eq_true rfl) (Nat.le_of_ble_eq_true rfl) ?_) | refine vo_op (vi_loadAR rfl (Nat.le_of_ble_eq_true rfl) (Nat.le_of_ble_eq_true rfl) ?_)
        refine vo_op (vi_call (args := [aggOf x.enc]) rfl (by repeat (first | exact trivial | apply And.intro)) (cloneVersion h101 h174 (by omega)) (fun r hn hr => ?_))
        subst hr
        first | refine vo_opN (vi_storeV rfl rfl rfl rfl rfl (Nat.le_of_ble_eq_true rfl) (Nat.le_of_ble_eq_true rfl) ?_) | refine vo_opN (vi_storeB rfl rfl rfl rfl rfl rfl (Nat.le_of_ble_eq_true rfl) (Nat.le_of_ble_eq_true rfl) hrow ?_)
        refine vo_op (vi_mov rfl ?_)
        refine vo_nil ?_
        refine vc_ret ?_
        exact ⟨_, rfl, (by repeat (first | exact trivial | apply And.intro)), by rw [hv]; rfl⟩
      · skip
        refine vc_skip ?_
        refine vc_region ?_
        first | refine vo_op (vi_inc rfl rfl (by omega) ?_) | refine vo_op (vi_add rfl rfl (by omega) (by omega) ?_)
        refine vo_op (vi_mov rfl ?_)
        refine vo_nil ?_
        refine ⟨(elS s.vers).length - (i + 1), by omega, i + 1, by omega, rfl, ?_, ⟨rfl, rfl, rfl, rfl, rfl, trivial⟩, ⟨rfl, trivial⟩⟩
        intro j v hj hv
        by_cases e : j = i
        · subst e; rw [hx] at hv; cases hv; first | (simp only [Ver.sees, h20, h26, Bool.and_false]) | (simp only [Ver.sees, h20, Bool.false_and])
        · exact hc j v (by omega) hv
    · skip
      refine vo_skip rfl (h20) ?_
      refine vo_skip rfl (h20) ?_
      refine vo_skip rfl (h20) ?_
      refine vo_skip rfl (h20) ?_
      refine vo_skip rfl (h20) ?_
      refine vo_op (vi_pickFH rfl (h20) rfl ?_)
      refine vo_nil ?_
      refine vc_condFH rfl (rfl) ?_
      refine vc_skip ?_
      refine vc_region ?_
      first | refine vo_op (vi_inc rfl rfl (by omega) ?_) | refine vo_op (vi_add rfl rfl (by omega) (by omega) ?_)
      refine vo_op (vi_mov rfl ?_)
      refine vo_nil ?_
      refine ⟨(elS s.vers).length - (i + 1), by omega, i + 1, by omega, rfl, ?_, ⟨rfl, rfl, rfl, rfl, rfl, trivial⟩, ⟨rfl, trivial⟩⟩
      intro j v hj hv
      by_cases e : j = i
      · subst e; rw [hx] at hv; cases hv; first | (simp only [Ver.sees, h20, h26, Bool.and_false]) | (simp only [Ver.sees, h20, Bool.false_and])
      · exact hc j v (by omega) hv
  · skip
    have hge : (elS s.vers).length ≤ i := by simpa using h12
    have hv : verAt (elS s.vers) t = none := verAt_none fun j v hj => hc j v (by omega)
    refine vc_exit ?_
    refine vc_seq ?_
    refine vc_region ?_
    refine vo_op (vi_build rfl rfl ?_)
    first | refine vo_opN (vi_storeV rfl rfl rfl rfl rfl (Nat.le_of_ble_eq_true rfl) (Nat.le_of_ble_eq_true rfl) ?_) | refine vo_opN (vi_storeB rfl rfl rfl rfl rfl rfl (Nat.le_of_ble_eq_true rfl) (Nat.le_of_ble_eq_true rfl) hrow ?_)
    refine vo_op (vi_mov rfl ?_)
    refine vo_nil ?_
    refine vc_ret ?_
    exact ⟨_, rfl, (by repeat (first | exact trivial | apply And.intro)), by rw [hv]; rfl⟩
set_option maxHeartbeats 1000000 in
theorem refSchemaAt {T : Tab} (h75 : T.ft.get 75 = some i75) {s : Sch} (hs : s.small) (t : Int) : Sound T 75 [aggOf s.enc, .d (.i .i64 t)] fun r => r = atV (verAt (elS s.vers) t) := by
  refine sound_fn h75 rfl ?_
  have hs1 := hs.1
  refine vc_seq ?_
  refine vc_region ?_
  refine vo_op (vi_box 2 rfl rfl rfl rfl rfl ?_)
  refine vo_op (vi_boxz 4 rfl rfl rfl rfl ?_)
  refine vo_op (vi_mov rfl ?_)
  refine vo_nil ?_
  refine vc_seq ?_
  refine vc_seq ?_
  refine vc_region ?_
  refine vo_op (vi_mov rfl ?_)
  refine vo_nil ?_
  refine vc_blockV ?_
  refine vc_loop (fun k VE B => ∃ i : Nat, i ≤ (elS s.vers).length ∧ k = (elS s.vers).length - i ∧ (∀ j v, j < i → (elS s.vers)[j]? = some v → v.sees t = false) ∧ SubL [(1, .d (.i .i64 t)), (2, .vp 2 0), (6, .d (.i .i64 i)), (4, .vp 4 0)] VE ∧ SubL [(2, .one 31 112 (s.enc.map .d)), (4, .one 77 40 [.d (.i .i64 0), .d (.i .i64 0), .d .nil])] B) ?_ (k := (elS s.vers).length) ⟨0, Nat.zero_le _, rfl, fun j v h => by omega, ⟨rfl, rfl, rfl, rfl, trivial⟩, ⟨rfl, rfl, trivial⟩⟩
  rintro k VE B ⟨i, hi, rfl, hc, hV, hB⟩
  refine vc_norm _ _ hV hB ?_
  refine vc_seq ?_
  refine vc_seq ?_
  refine vc_region ?_
  refine vo_op (vi_mov rfl ?_)
  first | refine vo_op (vi_offsR rfl ?_) | refine vo_op (vi_offsV rfl ?_) | refine vo_op (vi_offsB rfl ?_)
  first | refine vo_op (vi_load1V rfl rfl rfl ?_) | refine vo_op (vi_load1R rfl rfl ?_)
  first | refine vo_op (vi_lenO rfl ?_) | refine vo_op (vi_lenB rfl ?_) | refine vo_op (vi_lenA rfl ?_) | refine vo_op (vi_len rfl ?_)
  refine vo_op (vi_lt rfl rfl ?_)
  refine vo_nil ?_
  refine vc_cond rfl (fun h12 => ?_) (fun h12 => ?_)
  · skip
    have hlt : i < (elS s.vers).length := by simpa using h12
    obtain ⟨x, hx⟩ : ∃ x, (elS s.vers)[i]? = some x := ⟨_, List.getElem?_eq_getElem hlt⟩
    have hxl := hs.2 x (List.mem_of_getElem? hx)
    refine vc_skip ?_
    refine vc_seq ?_
    refine vc_blockV ?_
    refine vc_seq ?_
    refine vc_region ?_
    first | refine vo_op (vi_offsR rfl ?_) | refine vo_op (vi_offsV rfl ?_) | refine vo_op (vi_offsB rfl ?_)
    first | refine vo_op (vi_load1V rfl rfl rfl ?_) | refine vo_op (vi_load1R rfl rfl ?_)
    refine vo_op (vi_mov rfl ?_)
    first | refine vo_op (vi_idxO rfl rfl hx rfl ?_) | refine vo_op (vi_idxB rfl rfl (by omega) ?_) | refine vo_op (vi_idxA rfl rfl (by omega) ?_)
    first | refine vo_op (vi_offsR rfl ?_) | refine vo_op (vi_offsV rfl ?_) | refine vo_op (vi_offsB rfl ?_)
    first | refine vo_op (vi_loadAV rfl rfl (Nat.le_of_ble_eq_true rfl) (Nat.le_of_ble_eq_true rfl) ?_) | refine vo_op (vi_loadAR rfl (Nat.le_of_ble_eq_true rfl) (Nat.le_of_ble_eq_true rfl) ?_)
    refine vo_op (vi_boxz 7 rfl rfl rfl rfl ?_)
    first | refine vo_opN (vi_storeV rfl rfl rfl rfl rfl (Nat.le_of_ble_eq_true rfl) (Nat.le_of_ble_eq_true rfl) ?_) | refine vo_opN (vi_storeB rfl rfl rfl rfl rfl rfl (Nat.le_of_ble_eq_true rfl) (Nat.le_of_ble_eq_true rfl) hrow ?_)
    refine vo_nil ?_
    refine vc_seq ?_
    refine vc_region ?_
    first | refine vo_op (vi_offsR rfl ?_) | refine vo_op (vi_offsV rfl ?_) | refine vo_op (vi_offsB rfl ?_)
    first | refine vo_op (vi_load1V rfl rfl rfl ?_) | refine vo_op (vi_load1R rfl rfl ?_)
    refine vo_op (vi_mov rfl ?_)
    refine vo_op (vi_le rfl rfl ?_)
    refine vo_op (vi_mov rfl ?_)
    refine vo_split (g := kk25) rfl (fun h25 => ?_) (fun h25 => ?_)
    · skip
      refine vo_wantH rfl (h25) (vi_mov rfl ?_)
      first | refine vo_wantH rfl (h25) (vi_offsR rfl ?_) | refine vo_wantH rfl (h25) (vi_offsV rfl ?_) | refine vo_wantH rfl (h25) (vi_offsB rfl ?_)
      first | refine vo_wantH rfl (h25) (vi_load1V rfl rfl rfl ?_) | refine vo_wantH rfl (h25) (vi_load1R rfl rfl ?_)
      refine vo_wantH rfl (h25) (vi_lt rfl rfl ?_)
      refine vo_op (vi_pickTH rfl (h25) rfl ?_)
      refine vo_nil ?_
      refine vc_cond rfl (fun h30 => ?_) (fun h30 => ?_)
      · skip
        have hv : verAt (elS s.vers) t = some x := verAt_some hx (by simp only [Ver.sees, h25, h30, Bool.and_self]) hc
        refine vc_seq ?_
        refine vc_region ?_
        first | refine vo_op (vi_offsR rfl ?_) | refine vo_op (vi_offsV rfl ?_) | refine vo_op (vi_offsB rfl ?_)
        first | refine vo_op (vi_load1V rfl rfl rfl ?_) | refine vo_op (vi_load1R rfl rfl ?_)
        refine vo_op (vi_mov rfl ?_)
        first | refine vo_op (vi_idxO rfl rfl hx rfl ?_) | refine vo_op (vi_idxB rfl rfl (by omega) ?_) | refine vo_op (vi_idxA rfl rfl (by omega) ?_)
        first | refine vo_op (vi_loadAV rfl rfl (Nat.le_of_ble_eq_true rfl) (Nat.le_of_ble_eq_true rfl) ?_) | refine vo_op (vi_loadAR rfl (Nat.le_of_ble_eq_true rfl) (Nat.le_of_ble_eq_true rfl) ?_)
        first | refine vo_opN (vi_storeV rfl rfl rfl rfl rfl (Nat.le_of_ble_eq_true rfl) (Nat.le_of_ble_eq_true rfl) ?_) | refine vo_opN (vi_storeB rfl rfl rfl rfl rfl rfl (Nat.le_of_ble_eq_true rfl) (Nat.le_of_ble_eq_true rfl) hrow ?_)
        refine vo_op (vi_mov rfl ?_)
        refine vo_nil ?_
        refine vc_ret ?_
        exact ⟨_, rfl, (by repeat (first | exact trivial | apply And.intro)), by rw [hv]; rfl⟩
      · skip
        refine vc_skip ?_
        refine vc_region ?_
        refine vo_op (vi_mov rfl ?_)
        first | refine vo_op (vi_inc rfl rfl (by omega) ?_) | refine vo_op (vi_add rfl rfl (by omega) (by omega) ?_)
        refine vo_op (vi_mov rfl ?_)
        refine vo_nil ?_
        refine ⟨(elS s.vers).length - (i + 1), by omega, i + 1, by omega, rfl, ?_, ⟨rfl, rfl, rfl, rfl, trivial⟩, ⟨rfl, rfl, trivial⟩⟩
        intro j v hj hv
        by_cases e : j = i
        · subst e; rw [hx] at hv; cases hv; first | (simp only [Ver.sees, h25, h30, Bool.and_false]) | (simp only [Ver.sees, h25, Bool.false_and])
        · exact hc j v (by omega) hv
    · skip
      refine vo_skip rfl (h25) ?_
      refine vo_skip rfl (h25) ?_
      refine vo_skip rfl (h25) ?_
      refine vo_skip rfl (h25) ?_
      refine vo_op (vi_pickFH rfl (h25) rfl ?_)
      refine vo_nil ?_
      refine vc_condFH rfl (rfl) ?_
      refine vc_skip ?_
      refine vc_region ?_
      refine vo_op (vi_mov rfl ?_)
      first | refine vo_op (vi_inc rfl rfl (by omega) ?_) | refine vo_op (vi_add rfl rfl (by omega) (by omega) ?_)
      refine vo_op (vi_mov rfl ?_)
      refine vo_nil ?_
      refine ⟨(elS s.vers).length - (i + 1), by omega, i + 1, by omega, rfl, ?_, ⟨rfl, rfl, rfl, rfl, trivial⟩, ⟨rfl, rfl, trivial⟩⟩
      intro j v hj hv
      by_cases e : j = i
      · subst e; rw [hx] at hv; cases hv; first | (simp only [Ver.sees, h25, h30, Bool.and_false]) | (simp only [Ver.sees, h25, Bool.false_and])
      · exact hc j v (by omega) hv
  · skip
    have hge : (elS s.vers).length ≤ i := by simpa using h12
    have hv : verAt (elS s.vers) t = none := verAt_none fun j v hj => hc j v (by omega)
    refine vc_exit ?_
    refine vc_seq ?_
    refine vc_region ?_
    refine vo_op (vi_build rfl rfl ?_)
    first | refine vo_opN (vi_storeV rfl rfl rfl rfl rfl (Nat.le_of_ble_eq_true rfl) (Nat.le_of_ble_eq_true rfl) ?_) | refine vo_opN (vi_storeB rfl rfl rfl rfl rfl rfl (Nat.le_of_ble_eq_true rfl) (Nat.le_of_ble_eq_true rfl) hrow ?_)
    refine vo_op (vi_mov rfl ?_)
    refine vo_nil ?_
    refine vc_ret ?_
    exact ⟨_, rfl, (by repeat (first | exact trivial | apply And.intro)), by rw [hv]; rfl⟩

def flatCols : List Col := [⟨0, 5, 470021203574, 1⟩, ⟨0, 3, 7304310, 1⟩, ⟨0, 5, 470021203570, 1⟩, ⟨0, 3, 7304306, 1⟩]
/-- what grew from nil -/
def accO {α : Type} (l : List α) : Option (List α) := match l with | [] => none | x :: r => some (x :: r)
theorem elS_accO {α : Type} (l : List α) : elS (accO l) = l := by cases l <;> rfl
theorem ofAcc_map {α : Type} (enc : α → List DC) (l : List α) : DC.ofAcc (l.map enc) = encSl enc (accO l) := by cases l <;> rfl
def colsOf (x : Ver) (flat : Bool) : List Col := elS x.cols ++ (if flat then flatCols else [])
def colsO (o : Option Ver) (flat : Bool) : Option (List Col) := match o with
  | none => none
  | some x => accO (colsOf x flat)
def colsV (o : Option Ver) (flat : Bool) : VV := .tuple [.d (encSl Col.enc (colsO o flat)), .d (.b o.isSome)]
theorem verAt_mem {l : List Ver} {t : Int} {x : Ver} (h : verAt l t = some x) : x ∈ l := List.mem_of_find?_eq_some h

theorem refFlat {T : Tab} (h76 : T.ft.get 76 = some i76) : Sound T 76 [] fun r => r = .d (encSl Col.enc (some flatCols)) := by
  refine sound_fn h76 rfl ?_
  refine vc_seq ?_
  refine vc_region ?_
  refine vo_op (vi_mov rfl ?_)
  refine vo_nil ?_
  refine vc_seq ?_
  refine vc_region ?_
  refine vo_op (vi_build rfl rfl ?_)
  refine vo_op (vi_build rfl rfl ?_)
  refine vo_op (vi_build rfl rfl ?_)
  refine vo_op (vi_build rfl rfl ?_)
  refine vo_op (vi_buildSl 5 rfl rfl rfl rfl rfl rfl ?_)
  refine vo_op (vi_mov rfl ?_)
  refine vo_nil ?_
  first | refine vc_frzA 0 5 rfl rfl (fun _ => ⟨rfl, rfl⟩) ?_ | refine vc_frz 0 5 rfl rfl (fun _ => ⟨rfl, rfl⟩) ?_ | skip
  refine vc_ret ?_
  exact ⟨_, rfl, (by repeat (first | exact trivial | apply And.intro)), rfl⟩
theorem flat {T : Tab} (h49 : T.ft.get 49 = some i49) : Sound T 49 [] fun r => r = .d (encSl Col.enc (some flatCols)) := by
  refine sound_fn h49 rfl ?_
  refine vc_seq ?_
  refine vc_region ?_
  refine vo_op (vi_mov rfl ?_)
  refine vo_nil ?_
  refine vc_seq ?_
  refine vc_region ?_
  refine vo_op (vi_mov rfl ?_)
  refine vo_nil ?_
  refine vc_seq ?_
  refine vc_seq ?_
  refine vc_region ?_
  refine vo_op (vi_buildSl 4 rfl rfl rfl rfl rfl rfl ?_)
  first | refine vo_op (vi_lenO rfl ?_) | refine vo_op (vi_lenB rfl ?_) | refine vo_op (vi_lenA rfl ?_) | refine vo_op (vi_len rfl ?_)
  refine vo_op (vi_mov rfl ?_)
  refine vo_nil ?_
  refine vc_blockV ?_
  refine vc_ghost 1 1 62 32 3 rfl rfl ?_
  refine vc_loop (fun k VE B => ∃ (i : Nat) (out : List (List DC)), i ≤ 4 ∧ k = 4 - i ∧ out = (flatCols.take i).map Col.enc ∧ SubL [(1, .ac 1 out.length 3), (4, .bs 4 4 1), (5, .d (.i .i64 (4 : Nat))), (6, .d (.i .i64 i))] VE ∧ SubL [(1, .acc 62 32 3 out), (4, .arr 9 16 1 4 (flatCols.map fun c => [.s c.nl c.nv]))] B) ?_ (k := 4) ⟨0, [], Nat.zero_le _, rfl, rfl, ⟨rfl, rfl, rfl, rfl, trivial⟩, ⟨rfl, rfl, trivial⟩⟩
  rintro k VE B ⟨i, out, hi, rfl, hout, hV, hB⟩
  have hol : out.length ≤ i := by rw [hout, List.length_map, List.length_take]; omega
  refine vc_norm _ _ hV hB ?_
  refine vc_seq ?_
  refine vc_region ?_
  refine vo_op (vi_lt rfl rfl ?_)
  refine vo_nil ?_
  refine vc_seq ?_
  refine vc_cond rfl (fun h7 => ?_) (fun h7 => ?_)
  · skip
    have hlt : i < 4 := by have h7 := h7; simp at h7; omega
    obtain ⟨x, hx⟩ : ∃ x, flatCols[i]? = some x := ⟨_, List.getElem?_eq_getElem (show i < flatCols.length from hlt)⟩
    have hrow : (flatCols.map fun c => [DC.s c.nl c.nv])[i]? = some [.s x.nl x.nv] := by rw [List.getElem?_map, hx]; rfl
    have hxe : x.id = 0 ∧ x.kind = 1 := by
      have := List.mem_of_getElem? hx
      simp [flatCols] at this
      rcases this with rfl | rfl | rfl | rfl <;> exact ⟨rfl, rfl⟩
    obtain ⟨xi, xl, xv, xk⟩ := x
    obtain ⟨rfl, rfl⟩ : xi = 0 ∧ xk = 1 := hxe
    refine vc_skip ?_
    refine vc_seq ?_
    refine vc_blockV ?_
    refine vc_seq ?_
    refine vc_region ?_
    first | refine vo_op (vi_idxO rfl rfl hx rfl ?_) | refine vo_op (vi_idxB rfl rfl (by omega) ?_) | refine vo_op (vi_idxA rfl rfl (by omega) ?_)
    refine vo_op (vi_load1B rfl rfl (Nat.le_refl _) (Nat.le_refl _) hlt hrow rfl ?_)
    refine vo_op (vi_mov rfl ?_)
    refine vo_nil ?_
    refine vc_region ?_
    refine vo_op (vi_mov rfl ?_)
    refine vo_op (vi_mov rfl ?_)
    refine vo_op (vi_build rfl rfl ?_)
    refine vo_op (vi_buildSl 13 rfl rfl rfl rfl rfl rfl ?_)
    refine vo_op (vi_app (rows := out) (ys := [Col.enc ⟨0, xl, xv, 1⟩]) rfl rfl rfl (.bs (rows := [Col.enc ⟨0, xl, xv, 1⟩]) rfl) (Nat.le_of_ble_eq_true rfl) (by simp only [List.length_append, List.length_cons, List.length_nil]; omega) (fun h => by subst h; rfl) (fun h => by subst h; rfl) ?_)
    refine vo_op (vi_mov rfl ?_)
    refine vo_nil ?_
    refine vc_region ?_
    first | refine vo_op (vi_inc rfl rfl (by omega) ?_) | refine vo_op (vi_add rfl rfl (by omega) (by omega) ?_)
    refine vo_op (vi_mov rfl ?_)
    refine vo_nil ?_
    refine ⟨4 - (i + 1), by omega, i + 1, out ++ [Col.enc ⟨0, xl, xv, 1⟩], by omega, rfl, ?_, ⟨rfl, rfl, rfl, rfl, trivial⟩, ⟨rfl, rfl, trivial⟩⟩
    rw [hout, List.take_add_one, hx, List.map_append]
    rfl
  · skip
    have hge : i = 4 := by have h7 := h7; simp at h7; omega
    subst hge
    refine vc_exit ?_
    refine vc_seq ?_
    refine vc_region ?_
    refine vo_op (vi_mov rfl ?_)
    refine vo_op (vi_mov rfl ?_)
    refine vo_nil ?_
    first | refine vc_frzA 0 1 rfl rfl (fun _ => ⟨rfl, rfl⟩) ?_ | refine vc_frz 0 1 rfl rfl (fun _ => ⟨rfl, rfl⟩) ?_ | skip
    refine vc_ret ?_
    exact ⟨_, rfl, (by repeat (first | exact trivial | apply And.intro)), by rw [hout]; rfl⟩
set_option maxHeartbeats 1000000 in
theorem columnsOf {T : Tab} (h36 : T.ft.get 36 = some i36) (h75 : T.ft.get 75 = some i75) (h76 : T.ft.get 76 = some i76) {s : Sch} (hs : s.small) (t : Int) (flat : Bool) : Sound T 36 [aggOf s.enc, .d (.i .i64 t), .d (.b flat)] fun r => r = colsV (verAt (elS s.vers) t) flat := by
  refine sound_fn h36 rfl ?_
  refine vc_seq ?_
  refine vc_region ?_
  refine vo_op (vi_box 3 rfl rfl rfl rfl rfl ?_)
  refine vo_op (vi_mov rfl ?_)
  refine vo_op (vi_mov rfl ?_)
  refine vo_nil ?_
  refine vc_seq ?_
  refine vc_region ?_
  first | refine vo_op (vi_loadAV rfl rfl (Nat.le_of_ble_eq_true rfl) (Nat.le_of_ble_eq_true rfl) ?_) | refine vo_op (vi_loadAR rfl (Nat.le_of_ble_eq_true rfl) (Nat.le_of_ble_eq_true rfl) ?_)
  refine vo_op (vi_mov rfl ?_)
  refine vo_op (vi_call (args := [aggOf s.enc, .d (.i .i64 t)]) rfl (by repeat (first | exact trivial | apply And.intro)) (refSchemaAt h75 hs t) (fun r hn hr => ?_))
  subst hr
  generalize hv : verAt (elS s.vers) t = o
  refine vo_op (vi_mov rfl ?_)
  refine vo_op (vi_extr rfl rfl ?_)
  refine vo_op (vi_extr rfl rfl ?_)
  refine vo_op (vi_boxz 8 rfl rfl rfl rfl ?_)
  first | refine vo_opN (vi_storeV rfl rfl rfl rfl rfl (Nat.le_of_ble_eq_true rfl) (Nat.le_of_ble_eq_true rfl) ?_) | refine vo_opN (vi_storeB rfl rfl rfl rfl rfl rfl (Nat.le_of_ble_eq_true rfl) (Nat.le_of_ble_eq_true rfl) hrow ?_)
  refine vo_op (vi_mov rfl ?_)
  refine vo_nil ?_
  refine vc_seq ?_
  refine vc_seq ?_
  refine vc_region ?_
  refine vo_op (vi_mov rfl ?_)
  refine vo_op (vi_not rfl ?_)
  refine vo_nil ?_
  refine vc_cond rfl (fun h18 => ?_) (fun h18 => ?_)
  · skip
    have ho : o = none := by cases o with
      | none => rfl
      | some x => cases h18
    subst ho
    refine vc_seq ?_
    refine vc_region ?_
    refine vo_op (vi_mov rfl ?_)
    refine vo_op (vi_mov rfl ?_)
    refine vo_nil ?_
    first | refine vc_frzA 6 21 rfl rfl (fun _ => ⟨rfl, rfl⟩) ?_ | refine vc_frz 6 21 rfl rfl (fun _ => ⟨rfl, rfl⟩) ?_ | skip
    refine vc_ret ?_
    first | exact ⟨_, rfl, (by repeat (first | exact trivial | apply And.intro)), rfl⟩ | (refine ⟨_, rfl, (by repeat (first | exact trivial | apply And.intro)), ?_⟩; show VV.tuple [.d (.ofAcc _), .d (.b true)] = VV.tuple [.d (encSl Col.enc (accO (colsOf x flat))), .d (.b true)]; rw [← ofAcc_map, colsOf, h22, ← hout, List.map_append]; first | rfl | (rw [show List.map Col.enc (if false = true then flatCols else []) = [] from rfl, List.append_nil]))
  · skip
    obtain ⟨x, rfl⟩ : ∃ x, o = some x := by cases o with
      | none => cases h18
      | some x => exact ⟨x, rfl⟩
    have hx := hs.2 x (verAt_mem hv)
    refine vc_skip ?_
    refine vc_seq ?_
    refine vc_region ?_
    first | refine vo_op (vi_offsR rfl ?_) | refine vo_op (vi_offsV rfl ?_) | refine vo_op (vi_offsB rfl ?_)
    first | refine vo_op (vi_load1V rfl rfl rfl ?_) | refine vo_op (vi_load1R rfl rfl ?_)
    refine vo_op (vi_appN (ys := (elS x.cols).map Col.enc) 21 rfl rfl rfl rfl rfl (YR.enc fun _ => rfl) (Nat.le_of_ble_eq_true rfl) (by rw [List.length_map]; omega) ?_)
    generalize hout : (elS x.cols).map Col.enc = out
    have hol : out.length ≤ 20 := by rw [← hout, List.length_map]; exact hx
    refine vo_op (vi_mov rfl ?_)
    refine vo_nil ?_
    refine vc_seq ?_
    refine vc_seq ?_
    refine vc_region ?_
    refine vo_op (vi_mov rfl ?_)
    refine vo_nil ?_
    refine vc_cond rfl (fun h22 => ?_) (fun h22 => ?_)
    · skip
      refine vc_region ?_
      refine vo_op (vi_mov rfl ?_)
      refine vo_op (vi_call (args := []) rfl (by repeat (first | exact trivial | apply And.intro)) (refFlat h76) (fun r hn hr => ?_))
      subst hr
      refine vo_op (vi_app (rows := out) (ys := flatCols.map Col.enc) rfl rfl rfl (YR.enc (o := some flatCols) fun _ => rfl) (Nat.le_of_ble_eq_true rfl) (by rw [List.length_append]; show (out.length + 4) * 32 ≤ _; omega) (fun h => by subst h; rfl) (fun h => by subst h; rfl) ?_)
      refine vo_op (vi_mov rfl ?_)
      refine vo_nil ?_
      refine vc_seq ?_
      refine vc_region ?_
      refine vo_op (vi_mov rfl ?_)
      refine vo_op (vi_mov rfl ?_)
      refine vo_op (vi_mov rfl ?_)
      refine vo_nil ?_
      first | refine vc_frzA 6 21 rfl rfl (fun _ => ⟨rfl, rfl⟩) ?_ | refine vc_frz 6 21 rfl rfl (fun _ => ⟨rfl, rfl⟩) ?_ | skip
      refine vc_ret ?_
      first | exact ⟨_, rfl, (by repeat (first | exact trivial | apply And.intro)), rfl⟩ | (refine ⟨_, rfl, (by repeat (first | exact trivial | apply And.intro)), ?_⟩; show VV.tuple [.d (.ofAcc _), .d (.b true)] = VV.tuple [.d (encSl Col.enc (accO (colsOf x flat))), .d (.b true)]; rw [← ofAcc_map, colsOf, h22, ← hout, List.map_append]; first | rfl | (rw [show List.map Col.enc (if false = true then flatCols else []) = [] from rfl, List.append_nil]))
    · skip
      refine vc_skip ?_
      refine vc_seq ?_
      refine vc_region ?_
      refine vo_op (vi_mov rfl ?_)
      refine vo_op (vi_mov rfl ?_)
      refine vo_op (vi_mov rfl ?_)
      refine vo_nil ?_
      first | refine vc_frzA 6 21 rfl rfl (fun _ => ⟨rfl, rfl⟩) ?_ | refine vc_frz 6 21 rfl rfl (fun _ => ⟨rfl, rfl⟩) ?_ | skip
      refine vc_ret ?_
      first | exact ⟨_, rfl, (by repeat (first | exact trivial | apply And.intro)), rfl⟩ | (refine ⟨_, rfl, (by repeat (first | exact trivial | apply And.intro)), ?_⟩; show VV.tuple [.d (.ofAcc _), .d (.b true)] = VV.tuple [.d (encSl Col.enc (accO (colsOf x flat))), .d (.b true)]; rw [← ofAcc_map, colsOf, h22, ← hout, List.map_append]; first | rfl | (rw [show List.map Col.enc (if false = true then flatCols else []) = [] from rfl, List.append_nil]))

structure Typ where
  nl : Nat
  nv : Nat
  k : Option (List Int)
def eI (n : Int) : List DC := [.i .i64 n]
def Typ.enc (t : Typ) : List DC := [.s t.nl t.nv, encSl eI t.k]
def typRef (t : Int) (flat : Bool) (s : Sch) : Option Typ := (verAt (elS s.vers) t).map fun x => ⟨s.nl, s.nv, accO ((colsOf x flat).map Col.kind)⟩
theorem colsOf_len {x : Ver} (h : (elS x.cols).length ≤ 20) (flat : Bool) : (colsOf x flat).length ≤ 24 := by
  unfold colsOf
  rw [List.length_append]
  cases flat
  · simp; omega
  · show (elS x.cols).length + 4 ≤ 24; omega
theorem filterMap_step {α γ : Type} (f : α → Option γ) {l : List α} {i : Nat} {x : α} (hx : l[i]? = some x) : (l.take (i + 1)).filterMap f = (l.take i).filterMap f ++ (match f x with | none => [] | some y => [y]) := by
  rw [List.take_add_one, hx, List.filterMap_append]
  cases h : f x <;> simp [h]

set_option maxHeartbeats 2000000 in
theorem refTypes {T : Tab} (h14 : T.ft.get 14 = some i14) (h36 : T.ft.get 36 = some i36) (h75 : T.ft.get 75 = some i75) (h76 : T.ft.get 76 = some i76) {l : Option (List Sch)} (hl1 : (elS l).length < 5) (hl2 : ∀ s, s ∈ elS l → s.small) (t : Int) (flat : Bool) : Sound T 14 [.d (encSl Sch.enc l), .d (.i .i64 t), .d (.b flat)] fun r => r = .d (encSl Typ.enc (accO ((elS l).filterMap (typRef t flat)))) := by
  refine sound_fn h14 rfl ?_
  refine vc_seq ?_
  refine vc_region ?_
  refine vo_op (vi_mov rfl ?_)
  refine vo_nil ?_
  refine vc_seq ?_
  refine vc_region ?_
  refine vo_op (vi_mov rfl ?_)
  refine vo_nil ?_
  refine vc_seq ?_
  refine vc_seq ?_
  refine vc_region ?_
  refine vo_op (vi_mov rfl ?_)
  refine vo_nil ?_
  refine vc_blockV ?_
  refine vc_ghost 7 7 74 40 2 rfl rfl ?_
  refine vc_loop (fun k VE B => ∃ (i : Nat) (out : List (List DC)), i ≤ (elS l).length ∧ k = (elS l).length - i ∧ out = (((elS l).take i).filterMap (typRef t flat)).map Typ.enc ∧ SubL [(0, .d (encSl Sch.enc l)), (1, .d (.i .i64 t)), (2, .d (.b flat)), (7, .ac 7 out.length 2), (8, .d (.i .i64 i))] VE ∧ SubL [(7, .acc 74 40 2 out)] B) ?_ (k := (elS l).length) ⟨0, [], Nat.zero_le _, rfl, rfl, ⟨rfl, rfl, rfl, rfl, rfl, trivial⟩, ⟨rfl, trivial⟩⟩
  rintro k VE B ⟨i, out, hi, rfl, hout, hV, hB⟩
  have hol : out.length ≤ i := by rw [hout, List.length_map]; exact Nat.le_trans (List.length_filterMap_le _ _) (by rw [List.length_take]; omega)
  refine vc_norm _ _ hV hB ?_
  refine vc_seq ?_
  refine vc_seq ?_
  refine vc_region ?_
  refine vo_op (vi_mov rfl ?_)
  refine vo_op (vi_mov rfl ?_)
  first | refine vo_op (vi_lenO rfl ?_) | refine vo_op (vi_lenB rfl ?_) | refine vo_op (vi_lenA rfl ?_) | refine vo_op (vi_len rfl ?_)
  refine vo_op (vi_lt rfl rfl ?_)
  refine vo_nil ?_
  refine vc_cond rfl (fun h16 => ?_) (fun h16 => ?_)
  · skip
    have hlt : i < (elS l).length := by simpa using h16
    obtain ⟨x, hx⟩ : ∃ x, (elS l)[i]? = some x := ⟨_, List.getElem?_eq_getElem hlt⟩
    have hxs := hl2 x (List.mem_of_getElem? hx)
    refine vc_skip ?_
    refine vc_seq ?_
    refine vc_blockV ?_
    refine vc_seq ?_
    refine vc_region ?_
    refine vo_op (vi_mov rfl ?_)
    refine vo_op (vi_mov rfl ?_)
    first | refine vo_op (vi_idxO rfl rfl hx rfl ?_) | refine vo_op (vi_idxB rfl rfl (by omega) ?_) | refine vo_op (vi_idxA rfl rfl (by omega) ?_)
    first | refine vo_op (vi_loadAV rfl rfl (Nat.le_of_ble_eq_true rfl) (Nat.le_of_ble_eq_true rfl) ?_) | refine vo_op (vi_loadAR rfl (Nat.le_of_ble_eq_true rfl) (Nat.le_of_ble_eq_true rfl) ?_)
    refine vo_op (vi_mov rfl ?_)
    refine vo_op (vi_mov rfl ?_)
    refine vo_op (vi_call (args := [aggOf x.enc, .d (.i .i64 t), .d (.b flat)]) rfl (by repeat (first | exact trivial | apply And.intro)) (columnsOf h36 h75 h76 hxs t flat) (fun r hn hr => ?_))
    subst hr
    generalize hv : verAt (elS x.vers) t = o
    refine vo_op (vi_mov rfl ?_)
    refine vo_op (vi_extr rfl rfl ?_)
    refine vo_op (vi_extr rfl rfl ?_)
    refine vo_op (vi_mov rfl ?_)
    refine vo_op (vi_mov rfl ?_)
    refine vo_nil ?_
    refine vc_seq ?_
    refine vc_seq ?_
    refine vc_region ?_
    refine vo_op (vi_mov rfl ?_)
    refine vo_op (vi_not rfl ?_)
    refine vo_nil ?_
    refine vc_cond rfl (fun h30 => ?_) (fun h30 => ?_)
    · skip
      have ho : o = none := by cases o with
        | none => rfl
        | some x => cases h30
      subst ho
      refine vc_exit ?_
      refine vc_region ?_
      refine vo_op (vi_mov rfl ?_)
      first | refine vo_op (vi_inc rfl rfl (by omega) ?_) | refine vo_op (vi_add rfl rfl (by omega) (by omega) ?_)
      refine vo_op (vi_mov rfl ?_)
      refine vo_nil ?_
      refine ⟨(elS l).length - (i + 1), by omega, i + 1, out, by omega, rfl, ?_, ⟨rfl, rfl, rfl, rfl, rfl, trivial⟩, ⟨rfl, trivial⟩⟩
      rw [filterMap_step _ hx, typRef, hv, hout]; simp
    · skip
      obtain ⟨v, rfl⟩ : ∃ v, o = some v := by cases o with
        | none => cases h30
        | some x => exact ⟨x, rfl⟩
      have hvl := colsOf_len (hxs.2 v (verAt_mem hv)) flat
      have hec : elS (colsO (some v) flat) = colsOf v flat := elS_accO _
      generalize hc : colsO (some v) flat = c
      have hcl : (elS c).length ≤ 24 := by rw [← hc, hec]; exact hvl
      refine vc_skip ?_
      refine vc_seq ?_
      refine vc_region ?_
      refine vo_op (vi_mov rfl ?_)
      refine vo_op (vi_mov rfl ?_)
      first | refine vo_op (vi_idxO rfl rfl hx rfl ?_) | refine vo_op (vi_idxB rfl rfl (by omega) ?_) | refine vo_op (vi_idxA rfl rfl (by omega) ?_)
      first | refine vo_op (vi_offsR rfl ?_) | refine vo_op (vi_offsV rfl ?_) | refine vo_op (vi_offsB rfl ?_)
      first | refine vo_op (vi_load1V rfl rfl rfl ?_) | refine vo_op (vi_load1R rfl rfl ?_)
      refine vo_op (vi_build rfl rfl ?_)
      refine vo_ghostC 36 1 36 3 8 1 rfl rfl rfl ?_
      refine vo_op (vi_boxz 11 rfl rfl rfl rfl ?_)
      first | refine vo_opN (vi_storeV rfl rfl rfl rfl rfl (Nat.le_of_ble_eq_true rfl) (Nat.le_of_ble_eq_true rfl) ?_) | refine vo_opN (vi_storeB rfl rfl rfl rfl rfl rfl (Nat.le_of_ble_eq_true rfl) (Nat.le_of_ble_eq_true rfl) hrow ?_)
      refine vo_nil ?_
      refine vc_seq ?_
      refine vc_seq ?_
      refine vc_region ?_
      refine vo_op (vi_mov rfl ?_)
      refine vo_nil ?_
      refine vc_blockV ?_
      refine vc_loop (fun k VE B => ∃ (j : Nat) (o2 : List (List DC)), j ≤ (elS c).length ∧ k = (elS c).length - j ∧ o2 = (((elS c).take j).map Col.kind).map eI ∧ SubL [(0, .d (encSl Sch.enc l)), (1, .d (.i .i64 t)), (2, .d (.b flat)), (7, .ac 7 out.length 2), (8, .d (.i .i64 i)), (9, .d (encSl Col.enc c)), (11, .vp 11 0), (12, .d (.i .i64 j))] VE ∧ SubL [(7, .acc 74 40 2 out), (36, .acc 3 8 1 o2), (11, .one 74 40 [.d (.s x.nl x.nv), .ac 36 o2.length 1])] B) ?_ (k := (elS c).length) ⟨0, [], Nat.zero_le _, rfl, rfl, ⟨rfl, rfl, rfl, rfl, rfl, rfl, rfl, rfl, trivial⟩, ⟨rfl, rfl, rfl, trivial⟩⟩
      clear hV hB
      rintro k VE B ⟨j, o2, hj, rfl, ho2, hV, hB⟩
      have ho2l : o2.length ≤ j := by rw [ho2, List.length_map, List.length_map, List.length_take]; omega
      refine vc_norm _ _ hV hB ?_
      refine vc_seq ?_
      refine vc_seq ?_
      refine vc_region ?_
      refine vo_op (vi_mov rfl ?_)
      refine vo_op (vi_mov rfl ?_)
      first | refine vo_op (vi_lenO rfl ?_) | refine vo_op (vi_lenB rfl ?_) | refine vo_op (vi_lenA rfl ?_) | refine vo_op (vi_len rfl ?_)
      refine vo_op (vi_lt rfl rfl ?_)
      refine vo_nil ?_
      refine vc_cond rfl (fun h40 => ?_) (fun h40 => ?_)
      · skip
        have hlt2 : j < (elS c).length := by simpa using h40
        obtain ⟨y, hx⟩ : ∃ y, (elS c)[j]? = some y := ⟨_, List.getElem?_eq_getElem hlt2⟩
        refine vc_skip ?_
        refine vc_seq ?_
        refine vc_blockV ?_
        refine vc_draw ?_
        first | refine vq_op (vi_offsR rfl ?_) | refine vq_op (vi_offsV rfl ?_) | refine vq_op (vi_offsB rfl ?_)
        first | refine vq_mark rfl (vi_load1V rfl rfl rfl ?_) | refine vq_mark rfl (vi_load1R rfl rfl ?_)
        refine vq_op (vi_mov rfl ?_)
        refine vq_op (vi_mov rfl ?_)
        first | refine vq_op (vi_idxO rfl rfl hx rfl ?_) | refine vq_op (vi_idxB rfl rfl (by omega) ?_) | refine vq_op (vi_idxA rfl rfl (by omega) ?_)
        first | refine vq_op (vi_offsR rfl ?_) | refine vq_op (vi_offsV rfl ?_) | refine vq_op (vi_offsB rfl ?_)
        first | refine vq_mark rfl (vi_load1V rfl rfl rfl ?_) | refine vq_mark rfl (vi_load1R rfl rfl ?_)
        refine vq_mark rfl (vi_buildSl 50 rfl rfl rfl rfl rfl rfl ?_)
        refine vq_mark rfl (vi_app (rows := o2) (ys := [eI y.kind]) rfl rfl rfl (.bs (rows := [eI y.kind]) rfl) (Nat.le_of_ble_eq_true rfl) (by simp only [List.length_append, List.length_cons, List.length_nil]; omega) (fun h => by subst h; rfl) (fun h => by subst h; rfl) ?_)
        first | refine vq_op (vi_offsR rfl ?_) | refine vq_op (vi_offsV rfl ?_) | refine vq_op (vi_offsB rfl ?_)
        first | refine vq_markN rfl (vi_storeV rfl rfl rfl rfl rfl (Nat.le_of_ble_eq_true rfl) (Nat.le_of_ble_eq_true rfl) ?_) | refine vq_markN rfl (vi_storeB rfl rfl rfl rfl rfl rfl (Nat.le_of_ble_eq_true rfl) (Nat.le_of_ble_eq_true rfl) hrow ?_)
        refine vq_nil ?_
        refine vc_region ?_
        refine vo_op (vi_mov rfl ?_)
        first | refine vo_op (vi_inc rfl rfl (by omega) ?_) | refine vo_op (vi_add rfl rfl (by omega) (by omega) ?_)
        refine vo_op (vi_mov rfl ?_)
        refine vo_nil ?_
        refine ⟨(elS c).length - (j + 1), by omega, j + 1, o2 ++ [eI y.kind], by omega, rfl, ?_, ⟨rfl, rfl, rfl, rfl, rfl, rfl, rfl, rfl, trivial⟩, ⟨rfl, rfl, rfl, trivial⟩⟩
        rw [ho2, List.take_add_one, hx]; simp
      · skip
        have hge2 : (elS c).length ≤ j := by simpa using h40
        refine vc_exit ?_
        refine vc_region ?_
        refine vo_op (vi_mov rfl ?_)
        first | refine vo_op (vi_loadAV rfl rfl (Nat.le_of_ble_eq_true rfl) (Nat.le_of_ble_eq_true rfl) ?_) | refine vo_op (vi_loadAR rfl (Nat.le_of_ble_eq_true rfl) (Nat.le_of_ble_eq_true rfl) ?_)
        refine vo_frzA 54 36 rfl rfl ⟨trivial, fun _ => ⟨rfl, rfl⟩, trivial⟩ ?_
        refine vo_op (vi_buildSl 55 rfl rfl rfl rfl rfl rfl ?_)
        refine vo_op (vi_app (rows := out) (ys := [[.s x.nl x.nv, .ofAcc o2]]) rfl rfl rfl (.bs (rows := [[.s x.nl x.nv, .ofAcc o2]]) rfl) (Nat.le_of_ble_eq_true rfl) (by simp only [List.length_append, List.length_cons, List.length_nil]; omega) (fun h => by subst h; rfl) (fun h => by subst h; rfl) ?_)
        refine vo_op (vi_mov rfl ?_)
        refine vo_nil ?_
        refine vc_region ?_
        refine vo_op (vi_mov rfl ?_)
        first | refine vo_op (vi_inc rfl rfl (by omega) ?_) | refine vo_op (vi_add rfl rfl (by omega) (by omega) ?_)
        refine vo_op (vi_mov rfl ?_)
        refine vo_nil ?_
        refine ⟨(elS l).length - (i + 1), by omega, i + 1, out ++ [[.s x.nl x.nv, .ofAcc o2]], by omega, rfl, ?_, ⟨rfl, rfl, rfl, rfl, rfl, trivial⟩, ⟨rfl, trivial⟩⟩
        rw [filterMap_step _ hx, typRef, hv, hout, List.map_append]
        rw [ho2, List.take_of_length_le hge2, ← hc, hec, ofAcc_map]
        rfl
  · skip
    have hge : (elS l).length ≤ i := by simpa using h16
    rw [List.take_of_length_le hge] at hout
    refine vc_exit ?_
    refine vc_seq ?_
    refine vc_region ?_
    refine vo_op (vi_mov rfl ?_)
    refine vo_op (vi_mov rfl ?_)
    refine vo_nil ?_
    first | refine vc_frzA 6 7 rfl rfl (fun _ => ⟨rfl, rfl⟩) ?_ | refine vc_frz 6 7 rfl rfl (fun _ => ⟨rfl, rfl⟩) ?_ | skip
    refine vc_ret ?_
    refine ⟨_, rfl, (by repeat (first | exact trivial | apply And.intro)), ?_⟩
    show VV.d (.ofAcc out) = _
    rw [hout, ofAcc_map]

def cR (b : Nat) (o : Option (List Col)) : VV := match o with
  | none => .d .nil
  | some l => .bs b (l.map Col.enc).length 3
def cB (b : Nat) (o : Option (List Col)) : BEnv := match o with
  | none => []
  | some l => [(b, .arr 62 32 3 (l.map Col.enc).length (l.map Col.enc))]

theorem cloneB {T : Tab} (h174 : T.ft.get 174 = some i174) {o : Option (List Col)} (hl : (elS o).length ≤ 1000) : SoundB T 174 [.d (encSl Col.enc o)] fun r Bn => r = cR 5 o ∧ Bn = cB 5 o := by
  refine sound_fnB h174 rfl ?_
  refine vc_seq ?_
  refine vc_region ?_
  refine vo_op (vi_mov rfl ?_)
  refine vo_nil ?_
  refine vc_seq ?_
  refine vc_seq ?_
  refine vc_region ?_
  refine vo_op (vi_mov rfl ?_)
  refine vo_op (vi_nilO rfl rfl ?_)
  refine vo_nil ?_
  refine vc_cond rfl (fun h4 => ?_) (fun h4 => ?_)
  · skip
    have ho : o = none := by cases o with
      | none => rfl
      | some l => cases h4
    subst ho
    refine vc_seq ?_
    refine vc_region ?_
    refine vo_op (vi_mov rfl ?_)
    refine vo_nil ?_
    refine vc_ret ?_
    first | exact ⟨_, [], rfl, trivial, rfl, rfl⟩ | exact ⟨_, cB 5 (some l), rfl, ⟨rfl, trivial⟩, rfl, rfl⟩
  · skip
    obtain ⟨l, rfl⟩ : ∃ l, o = some l := by cases o with
      | none => cases h4
      | some l => exact ⟨l, rfl⟩
    refine vc_skip ?_
    refine vc_seq ?_
    refine vc_region ?_
    refine vo_op (vi_buildSl 5 rfl rfl rfl rfl rfl rfl ?_)
    refine vo_op (vi_mov rfl ?_)
    refine vo_op (vi_appB (rows := []) rfl rfl rfl (YR.enc fun _ => rfl) (by decide) (by rw [List.nil_append, List.length_map]; omega) ?_)
    refine vo_op (vi_mov rfl ?_)
    refine vo_nil ?_
    refine vc_ret ?_
    first | exact ⟨_, [], rfl, trivial, rfl, rfl⟩ | exact ⟨_, cB 5 (some l), rfl, ⟨rfl, trivial⟩, rfl, rfl⟩
theorem cloneVersionN {T : Tab} (h101 : T.ft.get 101 = some i101) (h174 : T.ft.get 174 = some i174) {a b : Int} (hl : (elS (none : Option (List Col))).length ≤ 1000) : SoundB T 101 [aggOf (Ver.enc ⟨a, b, none⟩)] fun r Bn => r = .agg [.d (.i .i64 a), .d (.i .i64 b), cR 1005 none] ∧ Bn = cB 1005 none := by
  refine sound_fnB h101 rfl ?_
  refine vc_seq ?_
  refine vc_region ?_
  refine vo_op (vi_box 1 rfl rfl rfl rfl rfl ?_)
  refine vo_op (vi_boxz 2 rfl rfl rfl rfl ?_)
  refine vo_nil ?_
  refine vc_seq ?_
  refine vc_region ?_
  first | refine vo_op (vi_offsR rfl ?_) | refine vo_op (vi_offsV rfl ?_) | refine vo_op (vi_offsB rfl ?_)
  first | refine vo_op (vi_load1V rfl rfl rfl ?_) | refine vo_op (vi_load1R rfl rfl ?_)
  refine vo_op (vi_callB (args := [.d (encSl Col.enc none)]) 1000 rfl rfl rfl (by repeat (first | exact trivial | apply And.intro)) (cloneB h174 hl) (fun r Bn hp => ?_))
  obtain ⟨rfl, rfl⟩ := hp
  first | refine vo_op (vi_offsR rfl ?_) | refine vo_op (vi_offsV rfl ?_) | refine vo_op (vi_offsB rfl ?_)
  first | refine vo_opN (vi_storeV rfl rfl rfl rfl rfl (Nat.le_of_ble_eq_true rfl) (Nat.le_of_ble_eq_true rfl) ?_) | refine vo_opN (vi_storeB rfl rfl rfl rfl rfl rfl (Nat.le_of_ble_eq_true rfl) (Nat.le_of_ble_eq_true rfl) hrow ?_)
  refine vo_nil ?_
  refine vc_seq ?_
  refine vc_region ?_
  first | refine vo_op (vi_loadAV rfl rfl (Nat.le_of_ble_eq_true rfl) (Nat.le_of_ble_eq_true rfl) ?_) | refine vo_op (vi_loadAR rfl (Nat.le_of_ble_eq_true rfl) (Nat.le_of_ble_eq_true rfl) ?_)
  first | refine vo_opN (vi_storeV rfl rfl rfl rfl rfl (Nat.le_of_ble_eq_true rfl) (Nat.le_of_ble_eq_true rfl) ?_) | refine vo_opN (vi_storeB rfl rfl rfl rfl rfl rfl (Nat.le_of_ble_eq_true rfl) (Nat.le_of_ble_eq_true rfl) hrow ?_)
  refine vo_nil ?_
  refine vc_ret ?_
  exact ⟨_, cB 1005 none, rfl, trivial, rfl, rfl⟩
theorem cloneVersionS {T : Tab} (h101 : T.ft.get 101 = some i101) (h174 : T.ft.get 174 = some i174) {a b : Int} {l : List Col} (hl : (elS ((some l) : Option (List Col))).length ≤ 1000) : SoundB T 101 [aggOf (Ver.enc ⟨a, b, (some l)⟩)] fun r Bn => r = .agg [.d (.i .i64 a), .d (.i .i64 b), cR 1005 (some l)] ∧ Bn = cB 1005 (some l) := by
  refine sound_fnB h101 rfl ?_
  refine vc_seq ?_
  refine vc_region ?_
  refine vo_op (vi_box 1 rfl rfl rfl rfl rfl ?_)
  refine vo_op (vi_boxz 2 rfl rfl rfl rfl ?_)
  refine vo_nil ?_
  refine vc_seq ?_
  refine vc_region ?_
  first | refine vo_op (vi_offsR rfl ?_) | refine vo_op (vi_offsV rfl ?_) | refine vo_op (vi_offsB rfl ?_)
  first | refine vo_op (vi_load1V rfl rfl rfl ?_) | refine vo_op (vi_load1R rfl rfl ?_)
  refine vo_op (vi_callB (args := [.d (encSl Col.enc (some l))]) 1000 rfl rfl rfl (by repeat (first | exact trivial | apply And.intro)) (cloneB h174 hl) (fun r Bn hp => ?_))
  obtain ⟨rfl, rfl⟩ := hp
  first | refine vo_op (vi_offsR rfl ?_) | refine vo_op (vi_offsV rfl ?_) | refine vo_op (vi_offsB rfl ?_)
  first | refine vo_opN (vi_storeV rfl rfl rfl rfl rfl (Nat.le_of_ble_eq_true rfl) (Nat.le_of_ble_eq_true rfl) ?_) | refine vo_opN (vi_storeB rfl rfl rfl rfl rfl rfl (Nat.le_of_ble_eq_true rfl) (Nat.le_of_ble_eq_true rfl) hrow ?_)
  refine vo_nil ?_
  refine vc_seq ?_
  refine vc_region ?_
  first | refine vo_op (vi_loadAV rfl rfl (Nat.le_of_ble_eq_true rfl) (Nat.le_of_ble_eq_true rfl) ?_) | refine vo_op (vi_loadAR rfl (Nat.le_of_ble_eq_true rfl) (Nat.le_of_ble_eq_true rfl) ?_)
  first | refine vo_opN (vi_storeV rfl rfl rfl rfl rfl (Nat.le_of_ble_eq_true rfl) (Nat.le_of_ble_eq_true rfl) ?_) | refine vo_opN (vi_storeB rfl rfl rfl rfl rfl rfl (Nat.le_of_ble_eq_true rfl) (Nat.le_of_ble_eq_true rfl) hrow ?_)
  refine vo_nil ?_
  refine vc_ret ?_
  exact ⟨_, cB 1005 (some l), rfl, ⟨rfl, trivial⟩, rfl, rfl⟩

def atR (o : Option Ver) : VV := match o with
  | none => .tuple [aggOf zeroVer.enc, .d (.b false)]
  | some x => .tuple [.agg [.d (.i .i64 x.a), .d (.i .i64 x.b), cR 2005 x.cols], .d (.b true)]
def atB (o : Option Ver) : BEnv := match o with
  | none => []
  | some x => cB 2005 x.cols

set_option maxHeartbeats 1000000 in
theorem schemaAtB {T : Tab} (h48 : T.ft.get 48 = some i48) (h101 : T.ft.get 101 = some i101) (h174 : T.ft.get 174 = some i174) {s : Sch} (hs : s.small) (t : Int) : SoundB T 48 [aggOf s.enc, .d (.i .i64 t)] fun r Bn => r = atR (verAt (elS s.vers) t) ∧ Bn = atB (verAt (elS s.vers) t) := by
  refine sound_fnB h48 rfl ?_
  have hs1 := hs.1
  refine vc_seq ?_
  refine vc_region ?_
  refine vo_op (vi_box 2 rfl rfl rfl rfl rfl ?_)
  refine vo_op (vi_boxz 4 rfl rfl rfl rfl ?_)
  refine vo_op (vi_mov rfl ?_)
  refine vo_nil ?_
  refine vc_seq ?_
  refine vc_seq ?_
  refine vc_region ?_
  first | refine vo_op (vi_offsR rfl ?_) | refine vo_op (vi_offsV rfl ?_) | refine vo_op (vi_offsB rfl ?_)
  first | refine vo_op (vi_load1V rfl rfl rfl ?_) | refine vo_op (vi_load1R rfl rfl ?_)
  first | refine vo_op (vi_lenO rfl ?_) | refine vo_op (vi_lenB rfl ?_) | refine vo_op (vi_lenA rfl ?_) | refine vo_op (vi_len rfl ?_)
  refine vo_op (vi_mov rfl ?_)
  refine vo_nil ?_
  refine vc_blockV ?_
  refine vc_loop (fun k VE B => ∃ i : Nat, i ≤ (elS s.vers).length ∧ k = (elS s.vers).length - i ∧ (∀ j v, j < i → (elS s.vers)[j]? = some v → v.sees t = false) ∧ SubL [(1, .d (.i .i64 t)), (9, .d (encSl Ver.enc s.vers)), (10, .d (.i .i64 ((elS s.vers).length : Nat))), (11, .d (.i .i64 i)), (4, .vp 4 0)] VE ∧ SubL [(4, .one 77 40 [.d (.i .i64 0), .d (.i .i64 0), .d .nil])] B) ?_ (k := (elS s.vers).length) ⟨0, Nat.zero_le _, rfl, fun j v h => by omega, ⟨rfl, rfl, rfl, rfl, rfl, trivial⟩, ⟨rfl, trivial⟩⟩
  rintro k VE B ⟨i, hi, rfl, hc, hV, hB⟩
  refine vc_norm _ _ hV hB ?_
  refine vc_seq ?_
  refine vc_region ?_
  refine vo_op (vi_lt rfl rfl ?_)
  refine vo_nil ?_
  refine vc_seq ?_
  refine vc_cond rfl (fun h12 => ?_) (fun h12 => ?_)
  · skip
    have hlt : i < (elS s.vers).length := by simpa using h12
    obtain ⟨x, hx⟩ : ∃ x, (elS s.vers)[i]? = some x := ⟨_, List.getElem?_eq_getElem hlt⟩
    have hxl := hs.2 x (List.mem_of_getElem? hx)
    refine vc_skip ?_
    refine vc_seq ?_
    refine vc_blockV ?_
    refine vc_seq ?_
    refine vc_region ?_
    first | refine vo_op (vi_idxO rfl rfl hx rfl ?_) | refine vo_op (vi_idxB rfl rfl (by omega) ?_) | refine vo_op (vi_idxA rfl rfl (by omega) ?_)
    first | refine vo_op (vi_loadAV rfl rfl (Nat.le_of_ble_eq_true rfl) (Nat.le_of_ble_eq_true rfl) ?_) | refine vo_op (vi_loadAR rfl (Nat.le_of_ble_eq_true rfl) (Nat.le_of_ble_eq_true rfl) ?_)
    refine vo_op (vi_boxz 7 rfl rfl rfl rfl ?_)
    first | refine vo_opN (vi_storeV rfl rfl rfl rfl rfl (Nat.le_of_ble_eq_true rfl) (Nat.le_of_ble_eq_true rfl) ?_) | refine vo_opN (vi_storeB rfl rfl rfl rfl rfl rfl (Nat.le_of_ble_eq_true rfl) (Nat.le_of_ble_eq_true rfl) hrow ?_)
    refine vo_nil ?_
    refine vc_seq ?_
    refine vc_region ?_
    first | refine vo_op (vi_offsR rfl ?_) | refine vo_op (vi_offsV rfl ?_) | refine vo_op (vi_offsB rfl ?_)
    first | refine vo_op (vi_offsR rfl ?_) | refine vo_op (vi_offsV rfl ?_) | refine vo_op (vi_offsB rfl ?_)
    first | refine vo_op (vi_load1V rfl rfl rfl ?_) | refine vo_op (vi_load1R rfl rfl ?_)
    refine vo_op (vi_mov rfl ?_)
    refine vo_op (vi_le rfl rfl ?_)
    refine vo_op (vi_mov rfl ?_)
    refine vo_split (g := kk20) rfl (fun h20 => ?_) (fun h20 => ?_)
    · skip
      refine vo_wantH rfl (h20) (vi_mov rfl ?_)
      first | refine vo_wantH rfl (h20) (vi_offsR rfl ?_) | refine vo_wantH rfl (h20) (vi_offsV rfl ?_) | refine vo_wantH rfl (h20) (vi_offsB rfl ?_)
      first | refine vo_wantH rfl (h20) (vi_offsR rfl ?_) | refine vo_wantH rfl (h20) (vi_offsV rfl ?_) | refine vo_wantH rfl (h20) (vi_offsB rfl ?_)
      first | refine vo_wantH rfl (h20) (vi_load1V rfl rfl rfl ?_) | refine vo_wantH rfl (h20) (vi_load1R rfl rfl ?_)
      refine vo_wantH rfl (h20) (vi_lt rfl rfl ?_)
      refine vo_op (vi_pickTH rfl (h20) rfl ?_)
      refine vo_nil ?_
      refine vc_cond rfl (fun h26 => ?_) (fun h26 => ?_)
      · skip
        have hv : verAt (elS s.vers) t = some x := verAt_some hx (by simp only [Ver.sees, h20, h26, Bool.and_self]) hc
        refine vc_seq ?_
        refine vc_region ?_
        first | refine vo_op (vi_loadAV rfl rfl (Nat.le_of_ble_eq_true rfl) (Nat.le_of_ble_eq_true rfl) ?_) | refine vo_op (vi_loadAR rfl (Nat.le_of_ble_eq_true rfl) (Nat.le_of_ble_eq_true rfl) ?_)
        obtain ⟨xa, xb, _ | xl⟩ := x
        · skip
          refine vo_op (vi_callB (args := [aggOf (Ver.enc ⟨xa, xb, none⟩)]) 1000 rfl rfl rfl (by repeat (first | exact trivial | apply And.intro)) (cloneVersionN h101 h174 (Nat.le_trans hxl (by decide))) (fun r Bn hp => ?_))
          obtain ⟨rfl, rfl⟩ := hp
          first | refine vo_opN (vi_storeV rfl rfl rfl rfl rfl (Nat.le_of_ble_eq_true rfl) (Nat.le_of_ble_eq_true rfl) ?_) | refine vo_opN (vi_storeB rfl rfl rfl rfl rfl rfl (Nat.le_of_ble_eq_true rfl) (Nat.le_of_ble_eq_true rfl) hrow ?_)
          refine vo_op (vi_mov rfl ?_)
          refine vo_nil ?_
          refine vc_ret ?_
          rw [hv]
          first | exact ⟨_, [], rfl, trivial, rfl, rfl⟩ | exact ⟨_, cB 2005 (some xl), rfl, ⟨rfl, trivial⟩, rfl, rfl⟩
        · skip
          refine vo_op (vi_callB (args := [aggOf (Ver.enc ⟨xa, xb, some xl⟩)]) 1000 rfl rfl rfl (by repeat (first | exact trivial | apply And.intro)) (cloneVersionS h101 h174 (Nat.le_trans hxl (by decide))) (fun r Bn hp => ?_))
          obtain ⟨rfl, rfl⟩ := hp
          first | refine vo_opN (vi_storeV rfl rfl rfl rfl rfl (Nat.le_of_ble_eq_true rfl) (Nat.le_of_ble_eq_true rfl) ?_) | refine vo_opN (vi_storeB rfl rfl rfl rfl rfl rfl (Nat.le_of_ble_eq_true rfl) (Nat.le_of_ble_eq_true rfl) hrow ?_)
          refine vo_op (vi_mov rfl ?_)
          refine vo_nil ?_
          refine vc_ret ?_
          rw [hv]
          first | exact ⟨_, [], rfl, trivial, rfl, rfl⟩ | exact ⟨_, cB 2005 (some xl), rfl, ⟨rfl, trivial⟩, rfl, rfl⟩
      · skip
        refine vc_skip ?_
        refine vc_region ?_
        first | refine vo_op (vi_inc rfl rfl (by omega) ?_) | refine vo_op (vi_add rfl rfl (by omega) (by omega) ?_)
        refine vo_op (vi_mov rfl ?_)
        refine vo_nil ?_
        refine ⟨(elS s.vers).length - (i + 1), by omega, i + 1, by omega, rfl, ?_, ⟨rfl, rfl, rfl, rfl, rfl, trivial⟩, ⟨rfl, trivial⟩⟩
        intro j v hj hv
        by_cases e : j = i
        · subst e; rw [hx] at hv; cases hv; first | (simp only [Ver.sees, h20, h26, Bool.and_false]) | (simp only [Ver.sees, h20, Bool.false_and])
        · exact hc j v (by omega) hv
    · skip
      refine vo_skip rfl (h20) ?_
      refine vo_skip rfl (h20) ?_
      refine vo_skip rfl (h20) ?_
      refine vo_skip rfl (h20) ?_
      refine vo_skip rfl (h20) ?_
      refine vo_op (vi_pickFH rfl (h20) rfl ?_)
      refine vo_nil ?_
      refine vc_condFH rfl (rfl) ?_
      refine vc_skip ?_
      refine vc_region ?_
      first | refine vo_op (vi_inc rfl rfl (by omega) ?_) | refine vo_op (vi_add rfl rfl (by omega) (by omega) ?_)
      refine vo_op (vi_mov rfl ?_)
      refine vo_nil ?_
      refine ⟨(elS s.vers).length - (i + 1), by omega, i + 1, by omega, rfl, ?_, ⟨rfl, rfl, rfl, rfl, rfl, trivial⟩, ⟨rfl, trivial⟩⟩
      intro j v hj hv
      by_cases e : j = i
      · subst e; rw [hx] at hv; cases hv; first | (simp only [Ver.sees, h20, h26, Bool.and_false]) | (simp only [Ver.sees, h20, Bool.false_and])
      · exact hc j v (by omega) hv
  · skip
    have hge : (elS s.vers).length ≤ i := by simpa using h12
    have hv : verAt (elS s.vers) t = none := verAt_none fun j v hj => hc j v (by omega)
    refine vc_exit ?_
    refine vc_seq ?_
    refine vc_region ?_
    refine vo_op (vi_build rfl rfl ?_)
    first | refine vo_opN (vi_storeV rfl rfl rfl rfl rfl (Nat.le_of_ble_eq_true rfl) (Nat.le_of_ble_eq_true rfl) ?_) | refine vo_opN (vi_storeB rfl rfl rfl rfl rfl rfl (Nat.le_of_ble_eq_true rfl) (Nat.le_of_ble_eq_true rfl) hrow ?_)
    refine vo_op (vi_mov rfl ?_)
    refine vo_nil ?_
    refine vc_ret ?_
    rw [hv]
    first | exact ⟨_, [], rfl, trivial, rfl, rfl⟩ | exact ⟨_, cB 2005 (some xl), rfl, ⟨rfl, trivial⟩, rfl, rfl⟩

structure Vis where
  nl : Nat
  nv : Nat
  c : Option (List Col)
def Vis.enc (v : Vis) : List DC := [.s v.nl v.nv, encSl Col.enc v.c]
def bcols (x : Ver) (flat : Bool) : Option (List Col) := match flat with
  | true => some (elS x.cols ++ flatCols)
  | false => x.cols
def visB (t : Int) (flat : Bool) (s : Sch) : Option Vis := (verAt (elS s.vers) t).map fun x => ⟨s.nl, s.nv, bcols x flat⟩

set_option maxHeartbeats 2000000 in
theorem visible {T : Tab} (h21 : T.ft.get 21 = some i21) (h48 : T.ft.get 48 = some i48) (h49 : T.ft.get 49 = some i49) (h101 : T.ft.get 101 = some i101) (h174 : T.ft.get 174 = some i174) {l : Option (List Sch)} (hl1 : (elS l).length < 5) (hl2 : ∀ s, s ∈ elS l → s.small) (t : Int) (fl : Bool) : Sound T 21 [.d (encSl Sch.enc l), .d (.i .i64 t), .d (.b fl)] fun r => r = .d (encSl Vis.enc (accO ((elS l).filterMap (visB t fl)))) := by
  refine sound_fn h21 rfl ?_
  refine vc_seq ?_
  refine vc_region ?_
  refine vo_op (vi_mov rfl ?_)
  refine vo_nil ?_
  refine vc_seq ?_
  refine vc_region ?_
  refine vo_op (vi_mov rfl ?_)
  refine vo_nil ?_
  refine vc_seq ?_
  refine vc_seq ?_
  refine vc_region ?_
  refine vo_op (vi_mov rfl ?_)
  first | refine vo_op (vi_lenO rfl ?_) | refine vo_op (vi_lenB rfl ?_) | refine vo_op (vi_lenA rfl ?_) | refine vo_op (vi_len rfl ?_)
  refine vo_op (vi_mov rfl ?_)
  refine vo_nil ?_
  refine vc_blockV ?_
  refine vc_ghost 7 7 115 40 2 rfl rfl ?_
  refine vc_loop (fun k VE B => ∃ (i : Nat) (out : List (List DC)), i ≤ (elS l).length ∧ k = (elS l).length - i ∧ out = (((elS l).take i).filterMap (visB t fl)).map Vis.enc ∧ SubL [(1, .d (.i .i64 t)), (2, .d (.b fl)), (12, .d (encSl Sch.enc l)), (13, .d (.i .i64 ((elS l).length : Nat))), (14, .d (.i .i64 i)), (7, .ac 7 out.length 2)] VE ∧ SubL [(7, .acc 115 40 2 out)] B) ?_ (k := (elS l).length) ⟨0, [], Nat.zero_le _, rfl, rfl, ⟨rfl, rfl, rfl, rfl, rfl, rfl, trivial⟩, ⟨rfl, trivial⟩⟩
  rintro k VE B ⟨i, out, hi, rfl, hout, hV, hB⟩
  have hol : out.length ≤ i := by rw [hout, List.length_map]; exact Nat.le_trans (List.length_filterMap_le _ _) (by rw [List.length_take]; omega)
  refine vc_norm _ _ hV hB ?_
  refine vc_seq ?_
  refine vc_region ?_
  refine vo_op (vi_lt rfl rfl ?_)
  refine vo_nil ?_
  refine vc_seq ?_
  refine vc_cond rfl (fun h15 => ?_) (fun h15 => ?_)
  · skip
    have hlt : i < (elS l).length := by simpa using h15
    obtain ⟨x, hx⟩ : ∃ x, (elS l)[i]? = some x := ⟨_, List.getElem?_eq_getElem hlt⟩
    have hxs := hl2 x (List.mem_of_getElem? hx)
    refine vc_skip ?_
    refine vc_seq ?_
    refine vc_blockV ?_
    refine vc_seq ?_
    refine vc_region ?_
    first | refine vo_op (vi_idxO rfl rfl hx rfl ?_) | refine vo_op (vi_idxB rfl rfl (by omega) ?_) | refine vo_op (vi_idxA rfl rfl (by omega) ?_)
    first | refine vo_op (vi_loadAV rfl rfl (Nat.le_of_ble_eq_true rfl) (Nat.le_of_ble_eq_true rfl) ?_) | refine vo_op (vi_loadAR rfl (Nat.le_of_ble_eq_true rfl) (Nat.le_of_ble_eq_true rfl) ?_)
    refine vo_op (vi_boxz 9 rfl rfl rfl rfl ?_)
    first | refine vo_opN (vi_storeV rfl rfl rfl rfl rfl (Nat.le_of_ble_eq_true rfl) (Nat.le_of_ble_eq_true rfl) ?_) | refine vo_opN (vi_storeB rfl rfl rfl rfl rfl rfl (Nat.le_of_ble_eq_true rfl) (Nat.le_of_ble_eq_true rfl) hrow ?_)
    refine vo_nil ?_
    refine vc_seq ?_
    refine vc_region ?_
    first | refine vo_op (vi_loadAV rfl rfl (Nat.le_of_ble_eq_true rfl) (Nat.le_of_ble_eq_true rfl) ?_) | refine vo_op (vi_loadAR rfl (Nat.le_of_ble_eq_true rfl) (Nat.le_of_ble_eq_true rfl) ?_)
    refine vo_op (vi_mov rfl ?_)
    refine vo_op (vi_callB (args := [aggOf x.enc, .d (.i .i64 t)]) 1000 rfl rfl rfl (by repeat (first | exact trivial | apply And.intro)) (schemaAtB h48 h101 h174 hxs t) (fun r Bn hp => ?_))
    obtain ⟨rfl, rfl⟩ := hp
    rcases hv : verAt (elS x.vers) t with _ | ⟨va, vb, _ | vl⟩
    · skip
      refine vo_op (vi_mov rfl ?_)
      refine vo_op (vi_extr rfl rfl ?_)
      refine vo_op (vi_extr rfl rfl ?_)
      refine vo_op (vi_boxz 10 rfl rfl rfl rfl ?_)
      first | refine vo_opN (vi_storeV rfl rfl rfl rfl rfl (Nat.le_of_ble_eq_true rfl) (Nat.le_of_ble_eq_true rfl) ?_) | refine vo_opN (vi_storeB rfl rfl rfl rfl rfl rfl (Nat.le_of_ble_eq_true rfl) (Nat.le_of_ble_eq_true rfl) hrow ?_)
      refine vo_op (vi_mov rfl ?_)
      refine vo_nil ?_
      refine vc_seq ?_
      refine vc_seq ?_
      refine vc_region ?_
      refine vo_op (vi_mov rfl ?_)
      refine vo_op (vi_not rfl ?_)
      refine vo_nil ?_
      refine vc_cond rfl (fun h25 => ?_) (fun h25 => ?_)
      · skip
        refine vc_exit ?_
        refine vc_region ?_
        first | refine vo_op (vi_inc rfl rfl (by omega) ?_) | refine vo_op (vi_add rfl rfl (by omega) (by omega) ?_)
        refine vo_op (vi_mov rfl ?_)
        refine vo_nil ?_
        first | refine ⟨(elS l).length - (i + 1), by omega, i + 1, out, by omega, rfl, ?_, ⟨rfl, rfl, rfl, rfl, rfl, rfl, trivial⟩, ⟨rfl, trivial⟩⟩ | refine ⟨(elS l).length - (i + 1), by omega, i + 1, out ++ [[.s x.nl x.nv, _]], by omega, rfl, ?_, ⟨rfl, rfl, rfl, rfl, rfl, rfl, trivial⟩, ⟨rfl, trivial⟩⟩
        rw [filterMap_step _ hx, visB, hv, hout, List.map_append]
        first | (subst h26; rfl) | (subst h26; simp [Vis.enc, bcols, encSl, elS]) | simp
      · skip
        exact absurd h25 (by decide)
    · skip
      refine vo_op (vi_mov rfl ?_)
      refine vo_op (vi_extr rfl rfl ?_)
      refine vo_op (vi_extr rfl rfl ?_)
      refine vo_op (vi_boxz 10 rfl rfl rfl rfl ?_)
      first | refine vo_opN (vi_storeV rfl rfl rfl rfl rfl (Nat.le_of_ble_eq_true rfl) (Nat.le_of_ble_eq_true rfl) ?_) | refine vo_opN (vi_storeB rfl rfl rfl rfl rfl rfl (Nat.le_of_ble_eq_true rfl) (Nat.le_of_ble_eq_true rfl) hrow ?_)
      refine vo_op (vi_mov rfl ?_)
      refine vo_nil ?_
      refine vc_seq ?_
      refine vc_seq ?_
      refine vc_region ?_
      refine vo_op (vi_mov rfl ?_)
      refine vo_op (vi_not rfl ?_)
      refine vo_nil ?_
      refine vc_cond rfl (fun h25 => ?_) (fun h25 => ?_)
      · skip
        exact absurd h25 (by decide)
      · skip
        skip
        refine vc_skip ?_
        refine vc_seq ?_
        refine vc_seq ?_
        refine vc_region ?_
        refine vo_op (vi_mov rfl ?_)
        refine vo_nil ?_
        refine vc_cond rfl (fun h26 => ?_) (fun h26 => ?_)
        · skip
          refine vc_draw ?_
          first | refine vq_op (vi_offsR rfl ?_) | refine vq_op (vi_offsV rfl ?_) | refine vq_op (vi_offsB rfl ?_)
          first | refine vq_mark rfl (vi_load1V rfl rfl rfl ?_) | refine vq_mark rfl (vi_load1R rfl rfl ?_)
          refine vq_mark rfl (vi_call (args := []) rfl (by repeat (first | exact trivial | apply And.intro)) (flat h49) (fun r hn hr => ?_))
          subst hr
          refine vq_mark rfl (vi_appN (ys := flatCols.map Col.enc) 30 rfl rfl rfl rfl rfl (YR.enc (o := some flatCols) fun _ => rfl) (Nat.le_of_ble_eq_true rfl) (by decide) ?_)
          first | refine vq_op (vi_offsR rfl ?_) | refine vq_op (vi_offsV rfl ?_) | refine vq_op (vi_offsB rfl ?_)
          first | refine vq_markN rfl (vi_storeV rfl rfl rfl rfl rfl (Nat.le_of_ble_eq_true rfl) (Nat.le_of_ble_eq_true rfl) ?_) | refine vq_markN rfl (vi_storeB rfl rfl rfl rfl rfl rfl (Nat.le_of_ble_eq_true rfl) (Nat.le_of_ble_eq_true rfl) hrow ?_)
          refine vq_nil ?_
          refine vc_region ?_
          refine vo_op (vi_mov rfl ?_)
          first | refine vo_op (vi_offsR rfl ?_) | refine vo_op (vi_offsV rfl ?_) | refine vo_op (vi_offsB rfl ?_)
          first | refine vo_op (vi_load1V rfl rfl rfl ?_) | refine vo_op (vi_load1R rfl rfl ?_)
          first | refine vo_op (vi_offsR rfl ?_) | refine vo_op (vi_offsV rfl ?_) | refine vo_op (vi_offsB rfl ?_)
          first | refine vo_op (vi_load1V rfl rfl rfl ?_) | refine vo_op (vi_load1R rfl rfl ?_)
          refine vo_op (vi_build rfl rfl ?_)
          first | refine vo_frzA 37 30 rfl rfl ⟨trivial, fun _ => ⟨rfl, rfl⟩, trivial⟩ ?_ | refine vo_frz 37 3005 rfl rfl ⟨trivial, fun _ => ⟨rfl, rfl⟩, trivial⟩ ?_ | skip
          refine vo_op (vi_buildSl 38 rfl rfl rfl rfl rfl rfl ?_)
          first | refine vo_op (vi_app (rows := out) (ys := [[.s x.nl x.nv, .nil]]) rfl rfl rfl (.bs (rows := [[.s x.nl x.nv, .nil]]) rfl) (Nat.le_of_ble_eq_true rfl) (by simp only [List.length_append, List.length_cons, List.length_nil]; omega) (fun h => by subst h; rfl) (fun h => by subst h; rfl) ?_) | refine vo_op (vi_app (rows := out) (ys := [[.s x.nl x.nv, .sl (vl.map Col.enc)]]) rfl rfl rfl (.bs (rows := [[.s x.nl x.nv, .sl (vl.map Col.enc)]]) rfl) (Nat.le_of_ble_eq_true rfl) (by simp only [List.length_append, List.length_cons, List.length_nil]; omega) (fun h => by subst h; rfl) (fun h => by subst h; rfl) ?_) | refine vo_op (vi_app (rows := out) (ys := [[.s x.nl x.nv, .ofAcc (flatCols.map Col.enc)]]) rfl rfl rfl (.bs (rows := [[.s x.nl x.nv, .ofAcc (flatCols.map Col.enc)]]) rfl) (Nat.le_of_ble_eq_true rfl) (by simp only [List.length_append, List.length_cons, List.length_nil]; omega) (fun h => by subst h; rfl) (fun h => by subst h; rfl) ?_) | refine vo_op (vi_app (rows := out) (ys := [[.s x.nl x.nv, .sl (vl.map Col.enc ++ flatCols.map Col.enc)]]) rfl rfl rfl (.bs (rows := [[.s x.nl x.nv, .sl (vl.map Col.enc ++ flatCols.map Col.enc)]]) rfl) (Nat.le_of_ble_eq_true rfl) (by simp only [List.length_append, List.length_cons, List.length_nil]; omega) (fun h => by subst h; rfl) (fun h => by subst h; rfl) ?_)
          refine vo_op (vi_mov rfl ?_)
          refine vo_nil ?_
          refine vc_region ?_
          first | refine vo_op (vi_inc rfl rfl (by omega) ?_) | refine vo_op (vi_add rfl rfl (by omega) (by omega) ?_)
          refine vo_op (vi_mov rfl ?_)
          refine vo_nil ?_
          first | refine ⟨(elS l).length - (i + 1), by omega, i + 1, out, by omega, rfl, ?_, ⟨rfl, rfl, rfl, rfl, rfl, rfl, trivial⟩, ⟨rfl, trivial⟩⟩ | refine ⟨(elS l).length - (i + 1), by omega, i + 1, out ++ [[.s x.nl x.nv, _]], by omega, rfl, ?_, ⟨rfl, rfl, rfl, rfl, rfl, rfl, trivial⟩, ⟨rfl, trivial⟩⟩
          rw [filterMap_step _ hx, visB, hv, hout, List.map_append]
          first | (subst h26; rfl) | (subst h26; simp [Vis.enc, bcols, encSl, elS]) | simp
        · skip
          refine vc_skip ?_
          refine vc_region ?_
          refine vo_op (vi_mov rfl ?_)
          first | refine vo_op (vi_offsR rfl ?_) | refine vo_op (vi_offsV rfl ?_) | refine vo_op (vi_offsB rfl ?_)
          first | refine vo_op (vi_load1V rfl rfl rfl ?_) | refine vo_op (vi_load1R rfl rfl ?_)
          first | refine vo_op (vi_offsR rfl ?_) | refine vo_op (vi_offsV rfl ?_) | refine vo_op (vi_offsB rfl ?_)
          first | refine vo_op (vi_load1V rfl rfl rfl ?_) | refine vo_op (vi_load1R rfl rfl ?_)
          refine vo_op (vi_build rfl rfl ?_)
          first | refine vo_frzA 37 30 rfl rfl ⟨trivial, fun _ => ⟨rfl, rfl⟩, trivial⟩ ?_ | refine vo_frz 37 3005 rfl rfl ⟨trivial, fun _ => ⟨rfl, rfl⟩, trivial⟩ ?_ | skip
          refine vo_op (vi_buildSl 38 rfl rfl rfl rfl rfl rfl ?_)
          first | refine vo_op (vi_app (rows := out) (ys := [[.s x.nl x.nv, .nil]]) rfl rfl rfl (.bs (rows := [[.s x.nl x.nv, .nil]]) rfl) (Nat.le_of_ble_eq_true rfl) (by simp only [List.length_append, List.length_cons, List.length_nil]; omega) (fun h => by subst h; rfl) (fun h => by subst h; rfl) ?_) | refine vo_op (vi_app (rows := out) (ys := [[.s x.nl x.nv, .sl (vl.map Col.enc)]]) rfl rfl rfl (.bs (rows := [[.s x.nl x.nv, .sl (vl.map Col.enc)]]) rfl) (Nat.le_of_ble_eq_true rfl) (by simp only [List.length_append, List.length_cons, List.length_nil]; omega) (fun h => by subst h; rfl) (fun h => by subst h; rfl) ?_) | refine vo_op (vi_app (rows := out) (ys := [[.s x.nl x.nv, .ofAcc (flatCols.map Col.enc)]]) rfl rfl rfl (.bs (rows := [[.s x.nl x.nv, .ofAcc (flatCols.map Col.enc)]]) rfl) (Nat.le_of_ble_eq_true rfl) (by simp only [List.length_append, List.length_cons, List.length_nil]; omega) (fun h => by subst h; rfl) (fun h => by subst h; rfl) ?_) | refine vo_op (vi_app (rows := out) (ys := [[.s x.nl x.nv, .sl (vl.map Col.enc ++ flatCols.map Col.enc)]]) rfl rfl rfl (.bs (rows := [[.s x.nl x.nv, .sl (vl.map Col.enc ++ flatCols.map Col.enc)]]) rfl) (Nat.le_of_ble_eq_true rfl) (by simp only [List.length_append, List.length_cons, List.length_nil]; omega) (fun h => by subst h; rfl) (fun h => by subst h; rfl) ?_)
          refine vo_op (vi_mov rfl ?_)
          refine vo_nil ?_
          refine vc_region ?_
          first | refine vo_op (vi_inc rfl rfl (by omega) ?_) | refine vo_op (vi_add rfl rfl (by omega) (by omega) ?_)
          refine vo_op (vi_mov rfl ?_)
          refine vo_nil ?_
          first | refine ⟨(elS l).length - (i + 1), by omega, i + 1, out, by omega, rfl, ?_, ⟨rfl, rfl, rfl, rfl, rfl, rfl, trivial⟩, ⟨rfl, trivial⟩⟩ | refine ⟨(elS l).length - (i + 1), by omega, i + 1, out ++ [[.s x.nl x.nv, _]], by omega, rfl, ?_, ⟨rfl, rfl, rfl, rfl, rfl, rfl, trivial⟩, ⟨rfl, trivial⟩⟩
          rw [filterMap_step _ hx, visB, hv, hout, List.map_append]
          first | (subst h26; rfl) | (subst h26; simp [Vis.enc, bcols, encSl, elS]) | simp
    · skip
      refine vo_op (vi_mov rfl ?_)
      refine vo_op (vi_extr rfl rfl ?_)
      refine vo_op (vi_extr rfl rfl ?_)
      refine vo_op (vi_boxz 10 rfl rfl rfl rfl ?_)
      first | refine vo_opN (vi_storeV rfl rfl rfl rfl rfl (Nat.le_of_ble_eq_true rfl) (Nat.le_of_ble_eq_true rfl) ?_) | refine vo_opN (vi_storeB rfl rfl rfl rfl rfl rfl (Nat.le_of_ble_eq_true rfl) (Nat.le_of_ble_eq_true rfl) hrow ?_)
      refine vo_op (vi_mov rfl ?_)
      refine vo_nil ?_
      refine vc_seq ?_
      refine vc_seq ?_
      refine vc_region ?_
      refine vo_op (vi_mov rfl ?_)
      refine vo_op (vi_not rfl ?_)
      refine vo_nil ?_
      refine vc_cond rfl (fun h25 => ?_) (fun h25 => ?_)
      · skip
        exact absurd h25 (by decide)
      · skip
        have hvl : vl.length ≤ 20 := hxs.2 _ (verAt_mem hv)
        refine vc_skip ?_
        refine vc_seq ?_
        refine vc_seq ?_
        refine vc_region ?_
        refine vo_op (vi_mov rfl ?_)
        refine vo_nil ?_
        refine vc_cond rfl (fun h26 => ?_) (fun h26 => ?_)
        · skip
          refine vc_draw ?_
          first | refine vq_op (vi_offsR rfl ?_) | refine vq_op (vi_offsV rfl ?_) | refine vq_op (vi_offsB rfl ?_)
          first | refine vq_mark rfl (vi_load1V rfl rfl rfl ?_) | refine vq_mark rfl (vi_load1R rfl rfl ?_)
          refine vq_mark rfl (vi_call (args := []) rfl (by repeat (first | exact trivial | apply And.intro)) (flat h49) (fun r hn hr => ?_))
          subst hr
          refine vq_mark rfl (vi_appB (rows := vl.map Col.enc) (ys := flatCols.map Col.enc) rfl rfl rfl (YR.enc (o := some flatCols) fun _ => rfl) (Nat.le_of_ble_eq_true rfl) (by rw [List.length_append, List.length_map]; show (vl.length + 4) * 32 ≤ _; omega) ?_)
          first | refine vq_op (vi_offsR rfl ?_) | refine vq_op (vi_offsV rfl ?_) | refine vq_op (vi_offsB rfl ?_)
          first | refine vq_markN rfl (vi_storeV rfl rfl rfl rfl rfl (Nat.le_of_ble_eq_true rfl) (Nat.le_of_ble_eq_true rfl) ?_) | refine vq_markN rfl (vi_storeB rfl rfl rfl rfl rfl rfl (Nat.le_of_ble_eq_true rfl) (Nat.le_of_ble_eq_true rfl) hrow ?_)
          refine vq_nil ?_
          refine vc_region ?_
          refine vo_op (vi_mov rfl ?_)
          first | refine vo_op (vi_offsR rfl ?_) | refine vo_op (vi_offsV rfl ?_) | refine vo_op (vi_offsB rfl ?_)
          first | refine vo_op (vi_load1V rfl rfl rfl ?_) | refine vo_op (vi_load1R rfl rfl ?_)
          first | refine vo_op (vi_offsR rfl ?_) | refine vo_op (vi_offsV rfl ?_) | refine vo_op (vi_offsB rfl ?_)
          first | refine vo_op (vi_load1V rfl rfl rfl ?_) | refine vo_op (vi_load1R rfl rfl ?_)
          refine vo_op (vi_build rfl rfl ?_)
          first | refine vo_frzA 37 30 rfl rfl ⟨trivial, fun _ => ⟨rfl, rfl⟩, trivial⟩ ?_ | refine vo_frz 37 3005 rfl rfl ⟨trivial, fun _ => ⟨rfl, rfl⟩, trivial⟩ ?_ | skip
          refine vo_op (vi_buildSl 38 rfl rfl rfl rfl rfl rfl ?_)
          first | refine vo_op (vi_app (rows := out) (ys := [[.s x.nl x.nv, .nil]]) rfl rfl rfl (.bs (rows := [[.s x.nl x.nv, .nil]]) rfl) (Nat.le_of_ble_eq_true rfl) (by simp only [List.length_append, List.length_cons, List.length_nil]; omega) (fun h => by subst h; rfl) (fun h => by subst h; rfl) ?_) | refine vo_op (vi_app (rows := out) (ys := [[.s x.nl x.nv, .sl (vl.map Col.enc)]]) rfl rfl rfl (.bs (rows := [[.s x.nl x.nv, .sl (vl.map Col.enc)]]) rfl) (Nat.le_of_ble_eq_true rfl) (by simp only [List.length_append, List.length_cons, List.length_nil]; omega) (fun h => by subst h; rfl) (fun h => by subst h; rfl) ?_) | refine vo_op (vi_app (rows := out) (ys := [[.s x.nl x.nv, .ofAcc (flatCols.map Col.enc)]]) rfl rfl rfl (.bs (rows := [[.s x.nl x.nv, .ofAcc (flatCols.map Col.enc)]]) rfl) (Nat.le_of_ble_eq_true rfl) (by simp only [List.length_append, List.length_cons, List.length_nil]; omega) (fun h => by subst h; rfl) (fun h => by subst h; rfl) ?_) | refine vo_op (vi_app (rows := out) (ys := [[.s x.nl x.nv, .sl (vl.map Col.enc ++ flatCols.map Col.enc)]]) rfl rfl rfl (.bs (rows := [[.s x.nl x.nv, .sl (vl.map Col.enc ++ flatCols.map Col.enc)]]) rfl) (Nat.le_of_ble_eq_true rfl) (by simp only [List.length_append, List.length_cons, List.length_nil]; omega) (fun h => by subst h; rfl) (fun h => by subst h; rfl) ?_)
          refine vo_op (vi_mov rfl ?_)
          refine vo_nil ?_
          refine vc_region ?_
          first | refine vo_op (vi_inc rfl rfl (by omega) ?_) | refine vo_op (vi_add rfl rfl (by omega) (by omega) ?_)
          refine vo_op (vi_mov rfl ?_)
          refine vo_nil ?_
          first | refine ⟨(elS l).length - (i + 1), by omega, i + 1, out, by omega, rfl, ?_, ⟨rfl, rfl, rfl, rfl, rfl, rfl, trivial⟩, ⟨rfl, trivial⟩⟩ | refine ⟨(elS l).length - (i + 1), by omega, i + 1, out ++ [[.s x.nl x.nv, _]], by omega, rfl, ?_, ⟨rfl, rfl, rfl, rfl, rfl, rfl, trivial⟩, ⟨rfl, trivial⟩⟩
          rw [filterMap_step _ hx, visB, hv, hout, List.map_append]
          first | (subst h26; rfl) | (subst h26; simp [Vis.enc, bcols, encSl, elS]) | simp
        · skip
          refine vc_skip ?_
          refine vc_region ?_
          refine vo_op (vi_mov rfl ?_)
          first | refine vo_op (vi_offsR rfl ?_) | refine vo_op (vi_offsV rfl ?_) | refine vo_op (vi_offsB rfl ?_)
          first | refine vo_op (vi_load1V rfl rfl rfl ?_) | refine vo_op (vi_load1R rfl rfl ?_)
          first | refine vo_op (vi_offsR rfl ?_) | refine vo_op (vi_offsV rfl ?_) | refine vo_op (vi_offsB rfl ?_)
          first | refine vo_op (vi_load1V rfl rfl rfl ?_) | refine vo_op (vi_load1R rfl rfl ?_)
          refine vo_op (vi_build rfl rfl ?_)
          first | refine vo_frzA 37 30 rfl rfl ⟨trivial, fun _ => ⟨rfl, rfl⟩, trivial⟩ ?_ | refine vo_frz 37 3005 rfl rfl ⟨trivial, fun _ => ⟨rfl, rfl⟩, trivial⟩ ?_ | skip
          refine vo_op (vi_buildSl 38 rfl rfl rfl rfl rfl rfl ?_)
          first | refine vo_op (vi_app (rows := out) (ys := [[.s x.nl x.nv, .nil]]) rfl rfl rfl (.bs (rows := [[.s x.nl x.nv, .nil]]) rfl) (Nat.le_of_ble_eq_true rfl) (by simp only [List.length_append, List.length_cons, List.length_nil]; omega) (fun h => by subst h; rfl) (fun h => by subst h; rfl) ?_) | refine vo_op (vi_app (rows := out) (ys := [[.s x.nl x.nv, .sl (vl.map Col.enc)]]) rfl rfl rfl (.bs (rows := [[.s x.nl x.nv, .sl (vl.map Col.enc)]]) rfl) (Nat.le_of_ble_eq_true rfl) (by simp only [List.length_append, List.length_cons, List.length_nil]; omega) (fun h => by subst h; rfl) (fun h => by subst h; rfl) ?_) | refine vo_op (vi_app (rows := out) (ys := [[.s x.nl x.nv, .ofAcc (flatCols.map Col.enc)]]) rfl rfl rfl (.bs (rows := [[.s x.nl x.nv, .ofAcc (flatCols.map Col.enc)]]) rfl) (Nat.le_of_ble_eq_true rfl) (by simp only [List.length_append, List.length_cons, List.length_nil]; omega) (fun h => by subst h; rfl) (fun h => by subst h; rfl) ?_) | refine vo_op (vi_app (rows := out) (ys := [[.s x.nl x.nv, .sl (vl.map Col.enc ++ flatCols.map Col.enc)]]) rfl rfl rfl (.bs (rows := [[.s x.nl x.nv, .sl (vl.map Col.enc ++ flatCols.map Col.enc)]]) rfl) (Nat.le_of_ble_eq_true rfl) (by simp only [List.length_append, List.length_cons, List.length_nil]; omega) (fun h => by subst h; rfl) (fun h => by subst h; rfl) ?_)
          refine vo_op (vi_mov rfl ?_)
          refine vo_nil ?_
          refine vc_region ?_
          first | refine vo_op (vi_inc rfl rfl (by omega) ?_) | refine vo_op (vi_add rfl rfl (by omega) (by omega) ?_)
          refine vo_op (vi_mov rfl ?_)
          refine vo_nil ?_
          first | refine ⟨(elS l).length - (i + 1), by omega, i + 1, out, by omega, rfl, ?_, ⟨rfl, rfl, rfl, rfl, rfl, rfl, trivial⟩, ⟨rfl, trivial⟩⟩ | refine ⟨(elS l).length - (i + 1), by omega, i + 1, out ++ [[.s x.nl x.nv, _]], by omega, rfl, ?_, ⟨rfl, rfl, rfl, rfl, rfl, rfl, trivial⟩, ⟨rfl, trivial⟩⟩
          rw [filterMap_step _ hx, visB, hv, hout, List.map_append]
          first | (subst h26; rfl) | (subst h26; simp [Vis.enc, bcols, encSl, elS]) | simp
  · skip
    have hge : (elS l).length ≤ i := by simpa using h15
    rw [List.take_of_length_le hge] at hout
    refine vc_exit ?_
    refine vc_seq ?_
    refine vc_region ?_
    refine vo_op (vi_mov rfl ?_)
    refine vo_op (vi_mov rfl ?_)
    refine vo_nil ?_
    first | refine vc_frzA 6 7 rfl rfl (fun _ => ⟨rfl, rfl⟩) ?_ | refine vc_frz 6 7 rfl rfl (fun _ => ⟨rfl, rfl⟩) ?_ | skip
    refine vc_ret ?_
    refine ⟨_, rfl, (by repeat (first | exact trivial | apply And.intro)), ?_⟩
    show VV.d (.ofAcc out) = _
    rw [hout, ofAcc_map]

def typB (x : Vis) : Typ := ⟨x.nl, x.nv, some ((elS x.c).map Col.kind)⟩
theorem set_step {α γ : Type} (f : α → γ) (z : γ) : ∀ {l : List α} {j : Nat} {y : α}, l[j]? = some y → ((l.take j).map f ++ List.replicate (l.length - j) z).set j (f y) = (l.take (j + 1)).map f ++ List.replicate (l.length - (j + 1)) z
  | [], _, _, h => by simp at h
  | a :: l, 0, y, h => by
    simp at h
    subst h
    simp [List.replicate_succ]
  | a :: l, j + 1, y, h => by
    have := set_step f z (l := l) (j := j) (y := y) (by simpa using h)
    simp only [List.length_cons, List.take_succ_cons, List.map_cons, List.cons_append, Nat.add_sub_add_right, List.set_cons_succ]
    rw [this]
theorem get_step {α γ : Type} (f : α → γ) (z : γ) {l : List α} {j : Nat} (h : j < l.length) : ((l.take j).map f ++ List.replicate (l.length - j) z)[j]? = some z := by
  rw [List.getElem?_append_right (by rw [List.length_map, List.length_take]; omega), List.length_map, List.length_take, List.getElem?_replicate, if_pos (by omega)]

set_option maxHeartbeats 2000000 in
theorem btypes {T : Tab} (h30 : T.ft.get 30 = some i30) {v : Option (List Vis)} (hv1 : (elS v).length < 5) (hv2 : ∀ x, x ∈ elS v → (elS x.c).length ≤ 24) : Sound T 30 [.d (encSl Vis.enc v)] fun r => r = .d (encSl Typ.enc (accO ((elS v).map typB))) := by
  refine sound_fn h30 rfl ?_
  refine vc_seq ?_
  refine vc_region ?_
  refine vo_op (vi_mov rfl ?_)
  refine vo_nil ?_
  refine vc_seq ?_
  refine vc_region ?_
  refine vo_op (vi_mov rfl ?_)
  refine vo_nil ?_
  refine vc_seq ?_
  refine vc_seq ?_
  refine vc_region ?_
  refine vo_op (vi_mov rfl ?_)
  first | refine vo_op (vi_lenO rfl ?_) | refine vo_op (vi_lenB rfl ?_) | refine vo_op (vi_lenA rfl ?_) | refine vo_op (vi_len rfl ?_)
  refine vo_op (vi_mov rfl ?_)
  refine vo_nil ?_
  refine vc_blockV ?_
  refine vc_ghost 3 3 74 40 2 rfl rfl ?_
  refine vc_loop (fun k VE B => ∃ (i : Nat) (out : List (List DC)), i ≤ (elS v).length ∧ k = (elS v).length - i ∧ out = (((elS v).take i).map typB).map Typ.enc ∧ SubL [(9, .d (encSl Vis.enc v)), (10, .d (.i .i64 ((elS v).length : Nat))), (11, .d (.i .i64 i)), (3, .ac 3 out.length 2)] VE ∧ SubL [(3, .acc 74 40 2 out)] B) ?_ (k := (elS v).length) ⟨0, [], Nat.zero_le _, rfl, rfl, ⟨rfl, rfl, rfl, rfl, trivial⟩, ⟨rfl, trivial⟩⟩
  rintro k VE B ⟨i, out, hi, rfl, hout, hV, hB⟩
  have hol : out.length ≤ i := by rw [hout, List.length_map, List.length_map, List.length_take]; omega
  refine vc_norm _ _ hV hB ?_
  refine vc_seq ?_
  refine vc_region ?_
  refine vo_op (vi_lt rfl rfl ?_)
  refine vo_nil ?_
  refine vc_seq ?_
  refine vc_cond rfl (fun h12 => ?_) (fun h12 => ?_)
  · skip
    have hlt : i < (elS v).length := by simpa using h12
    obtain ⟨x, hx⟩ : ∃ x, (elS v)[i]? = some x := ⟨_, List.getElem?_eq_getElem hlt⟩
    have hxs := hv2 x (List.mem_of_getElem? hx)
    refine vc_skip ?_
    refine vc_seq ?_
    refine vc_blockV ?_
    refine vc_seq ?_
    refine vc_region ?_
    first | refine vo_op (vi_idxO rfl rfl hx rfl ?_) | refine vo_op (vi_idxB rfl rfl (by omega) ?_) | refine vo_op (vi_idxA rfl rfl (by omega) ?_)
    first | refine vo_op (vi_loadAV rfl rfl (Nat.le_of_ble_eq_true rfl) (Nat.le_of_ble_eq_true rfl) ?_) | refine vo_op (vi_loadAR rfl (Nat.le_of_ble_eq_true rfl) (Nat.le_of_ble_eq_true rfl) ?_)
    refine vo_op (vi_boxz 5 rfl rfl rfl rfl ?_)
    first | refine vo_opN (vi_storeV rfl rfl rfl rfl rfl (Nat.le_of_ble_eq_true rfl) (Nat.le_of_ble_eq_true rfl) ?_) | refine vo_opN (vi_storeB rfl rfl rfl rfl rfl rfl (Nat.le_of_ble_eq_true rfl) (Nat.le_of_ble_eq_true rfl) hrow ?_)
    refine vo_nil ?_
    refine vc_seq ?_
    refine vc_region ?_
    first | refine vo_op (vi_offsR rfl ?_) | refine vo_op (vi_offsV rfl ?_) | refine vo_op (vi_offsB rfl ?_)
    first | refine vo_op (vi_load1V rfl rfl rfl ?_) | refine vo_op (vi_load1R rfl rfl ?_)
    first | refine vo_op (vi_lenO rfl ?_) | refine vo_op (vi_lenB rfl ?_) | refine vo_op (vi_lenA rfl ?_) | refine vo_op (vi_len rfl ?_)
    refine vo_op (vi_mksl 18 rfl rfl rfl rfl rfl rfl rfl (by omega) (by omega) ?_)
    refine vo_op (vi_mov rfl ?_)
    refine vo_nil ?_
    refine vc_seq ?_
    refine vc_seq ?_
    refine vc_region ?_
    first | refine vo_op (vi_offsR rfl ?_) | refine vo_op (vi_offsV rfl ?_) | refine vo_op (vi_offsB rfl ?_)
    first | refine vo_op (vi_load1V rfl rfl rfl ?_) | refine vo_op (vi_load1R rfl rfl ?_)
    first | refine vo_op (vi_lenO rfl ?_) | refine vo_op (vi_lenB rfl ?_) | refine vo_op (vi_lenA rfl ?_) | refine vo_op (vi_len rfl ?_)
    refine vo_op (vi_mov rfl ?_)
    refine vo_nil ?_
    refine vc_blockV ?_
    obtain ⟨n, hn⟩ : ∃ n, n = (elS x.c).length := ⟨_, rfl⟩
    refine vc_loop (fun k VE B => ∃ (j : Nat) (rows : List (List DC)), j ≤ (elS x.c).length ∧ k = (elS x.c).length - j ∧ rows.length = n ∧ rows = ((elS x.c).take j).map (fun c : Col => eI c.kind) ++ List.replicate ((elS x.c).length - j) [.i .i64 0] ∧ SubL [(9, .d (encSl Vis.enc v)), (10, .d (.i .i64 ((elS v).length : Nat))), (11, .d (.i .i64 i)), (3, .ac 3 out.length 2), (5, .vp 5 0), (6, .bs 18 n 1), (20, .d (encSl Col.enc x.c)), (21, .d (.i .i64 ((elS x.c).length : Nat))), (22, .d (.i .i64 j))] VE ∧ SubL [(3, .acc 74 40 2 out), (5, .one 115 40 (x.enc.map .d)), (18, .arr 3 8 1 n rows)] B) ?_ (k := (elS x.c).length) ⟨0, List.replicate (elS x.c).length [.i .i64 0], Nat.zero_le _, rfl, by rw [List.length_replicate, hn], rfl, by subst hn; exact ⟨rfl, rfl, rfl, rfl, rfl, rfl, rfl, rfl, rfl, trivial⟩, by subst hn; exact ⟨rfl, rfl, rfl, trivial⟩⟩
    clear hV hB
    rintro k VE B ⟨j, rows, hj, rfl, hrl, hrows, hV, hB⟩
    subst hrl
    refine vc_norm _ _ hV hB ?_
    refine vc_seq ?_
    refine vc_region ?_
    refine vo_op (vi_lt rfl rfl ?_)
    refine vo_nil ?_
    refine vc_seq ?_
    refine vc_cond rfl (fun h23 => ?_) (fun h23 => ?_)
    · skip
      have hlt2 : j < (elS x.c).length := by simpa using h23
      have hrow : rows[j]? = some [.i .i64 0] := by rw [hrows]; exact get_step (fun c : Col => eI c.kind) [.i .i64 0] hlt2
      obtain ⟨y, hx⟩ : ∃ y, (elS x.c)[j]? = some y := ⟨_, List.getElem?_eq_getElem hlt2⟩
      refine vc_skip ?_
      refine vc_seq ?_
      refine vc_blockV ?_
      refine vc_seq ?_
      refine vc_region ?_
      refine vo_op (vi_mov rfl ?_)
      first | refine vo_op (vi_idxO rfl rfl hx rfl ?_) | refine vo_op (vi_idxB rfl rfl (by omega) ?_) | refine vo_op (vi_idxA rfl rfl (by omega) ?_)
      first | refine vo_op (vi_loadAV rfl rfl (Nat.le_of_ble_eq_true rfl) (Nat.le_of_ble_eq_true rfl) ?_) | refine vo_op (vi_loadAR rfl (Nat.le_of_ble_eq_true rfl) (Nat.le_of_ble_eq_true rfl) ?_)
      refine vo_op (vi_boxz 8 rfl rfl rfl rfl ?_)
      refine vo_op (vi_mov rfl ?_)
      first | refine vo_opN (vi_storeV rfl rfl rfl rfl rfl (Nat.le_of_ble_eq_true rfl) (Nat.le_of_ble_eq_true rfl) ?_) | refine vo_opN (vi_storeB rfl rfl rfl rfl rfl rfl (Nat.le_of_ble_eq_true rfl) (Nat.le_of_ble_eq_true rfl) hrow ?_)
      refine vo_nil ?_
      refine vc_region ?_
      refine vo_op (vi_mov rfl ?_)
      refine vo_op (vi_mov rfl ?_)
      first | refine vo_op (vi_offsR rfl ?_) | refine vo_op (vi_offsV rfl ?_) | refine vo_op (vi_offsB rfl ?_)
      first | refine vo_op (vi_load1V rfl rfl rfl ?_) | refine vo_op (vi_load1R rfl rfl ?_)
      first | refine vo_op (vi_idxO rfl rfl hx rfl ?_) | refine vo_op (vi_idxB rfl rfl (by omega) ?_) | refine vo_op (vi_idxA rfl rfl (by omega) ?_)
      first | refine vo_opN (vi_storeV rfl rfl rfl rfl rfl (Nat.le_of_ble_eq_true rfl) (Nat.le_of_ble_eq_true rfl) ?_) | refine vo_opN (vi_storeB rfl rfl rfl rfl rfl rfl (Nat.le_of_ble_eq_true rfl) (Nat.le_of_ble_eq_true rfl) hrow ?_)
      refine vo_nil ?_
      refine vc_region ?_
      first | refine vo_op (vi_inc rfl rfl (by omega) ?_) | refine vo_op (vi_add rfl rfl (by omega) (by omega) ?_)
      refine vo_op (vi_mov rfl ?_)
      refine vo_nil ?_
      refine ⟨(elS x.c).length - (j + 1), by omega, j + 1, rows.set j (eI y.kind), by omega, rfl, List.length_set, ?_, ⟨rfl, rfl, rfl, rfl, rfl, rfl, rfl, rfl, rfl, trivial⟩, ⟨rfl, rfl, rfl, trivial⟩⟩
      rw [hrows]
      exact set_step (fun c : Col => eI c.kind) [.i .i64 0] hx
    · skip
      have hge2 : (elS x.c).length ≤ j := by simpa using h23
      refine vc_exit ?_
      refine vc_region ?_
      refine vo_op (vi_mov rfl ?_)
      first | refine vo_op (vi_offsR rfl ?_) | refine vo_op (vi_offsV rfl ?_) | refine vo_op (vi_offsB rfl ?_)
      first | refine vo_op (vi_load1V rfl rfl rfl ?_) | refine vo_op (vi_load1R rfl rfl ?_)
      refine vo_op (vi_mov rfl ?_)
      refine vo_op (vi_build rfl rfl ?_)
      refine vo_frz 37 18 rfl rfl ⟨trivial, fun _ => ⟨rfl, rfl⟩, trivial⟩ ?_
      refine vo_op (vi_buildSl 38 rfl rfl rfl rfl rfl rfl ?_)
      refine vo_op (vi_app (rows := out) (ys := [[.s x.nl x.nv, .sl rows]]) rfl rfl rfl (.bs (rows := [[.s x.nl x.nv, .sl rows]]) rfl) (Nat.le_of_ble_eq_true rfl) (by simp only [List.length_append, List.length_cons, List.length_nil]; omega) (fun h => by subst h; rfl) (fun h => by subst h; rfl) ?_)
      refine vo_op (vi_mov rfl ?_)
      refine vo_nil ?_
      refine vc_region ?_
      first | refine vo_op (vi_inc rfl rfl (by omega) ?_) | refine vo_op (vi_add rfl rfl (by omega) (by omega) ?_)
      refine vo_op (vi_mov rfl ?_)
      refine vo_nil ?_
      refine ⟨(elS v).length - (i + 1), by omega, i + 1, out ++ [[.s x.nl x.nv, .sl rows]], by omega, rfl, ?_, ⟨rfl, rfl, rfl, rfl, trivial⟩, ⟨rfl, trivial⟩⟩
      rw [List.take_add_one, hx, hout, hrows, List.take_of_length_le hge2, Nat.sub_eq_zero_of_le hge2, List.replicate_zero, List.append_nil]
      simp [typB, Typ.enc, encSl]
  · skip
    have hge : (elS v).length ≤ i := by simpa using h12
    rw [List.take_of_length_le hge] at hout
    refine vc_exit ?_
    refine vc_seq ?_
    refine vc_region ?_
    refine vo_op (vi_mov rfl ?_)
    refine vo_op (vi_mov rfl ?_)
    refine vo_nil ?_
    first | refine vc_frzA 2 3 rfl rfl (fun _ => ⟨rfl, rfl⟩) ?_ | refine vc_frz 2 3 rfl rfl (fun _ => ⟨rfl, rfl⟩) ?_ | skip
    refine vc_ret ?_
    refine ⟨_, rfl, (by repeat (first | exact trivial | apply And.intro)), ?_⟩
    show VV.d (.ofAcc out) = _
    rw [hout, ofAcc_map]

def typesR (l : Option (List Sch)) (t : Int) (fl : Bool) : Option (List Typ) := accO ((elS l).filterMap (typRef t fl))
def typesB (l : Option (List Sch)) (t : Int) (fl : Bool) : Option (List Typ) := accO ((elS (accO ((elS l).filterMap (visB t fl)))).map typB)
def Typ.key (x : Typ) : Nat × Nat × List Int := (x.nl, x.nv, elS x.k)
theorem bcols_el (x : Ver) (fl : Bool) : elS (bcols x fl) = colsOf x fl := by cases fl <;> simp [bcols, colsOf, elS]
theorem types_same (l : Option (List Sch)) (t : Int) (fl : Bool) : (elS (typesB l t fl)).map Typ.key = (elS (typesR l t fl)).map Typ.key := by
  unfold typesB typesR
  rw [elS_accO, elS_accO, elS_accO]
  induction elS l with
  | nil => rfl
  | cons s r ih =>
    rw [List.filterMap_cons, List.filterMap_cons]
    cases hv : verAt (elS s.vers) t with
    | none => simp only [visB, typRef, hv, Option.map_none]; exact ih
    | some x =>
      simp only [visB, typRef, hv, Option.map_some, List.map_cons]
      rw [ih]
      congr 1
      simp only [Typ.key, typB, elS_accO, bcols_el]
      rfl
theorem vis_small {l : Option (List Sch)} (hl1 : (elS l).length < 5) (hl2 : ∀ s, s ∈ elS l → s.small) (t : Int) (fl : Bool) : (elS (accO ((elS l).filterMap (visB t fl)))).length < 5 ∧ ∀ x, x ∈ elS (accO ((elS l).filterMap (visB t fl))) → (elS x.c).length ≤ 24 := by
  rw [elS_accO]
  refine ⟨Nat.lt_of_le_of_lt (List.length_filterMap_le _ _) hl1, fun x hx => ?_⟩
  obtain ⟨s, hs, h⟩ := List.mem_filterMap.1 hx
  simp only [visB, Option.map_eq_some_iff] at h
  obtain ⟨v, hv, rfl⟩ := h
  show (elS (bcols v fl)).length ≤ 24
  rw [bcols_el]
  exact colsOf_len ((hl2 s hs).2 v (verAt_mem hv)) fl
theorem kinds_small {l : Option (List Sch)} (hl1 : (elS l).length < 5) (hl2 : ∀ s, s ∈ elS l → s.small) (t : Int) (fl : Bool) : (elS (typesB l t fl)).length < 5 ∧ ∀ x, x ∈ elS (typesB l t fl) → (elS x.k).length ≤ 1000000 := by
  obtain ⟨h1, h2⟩ := vis_small hl1 hl2 t fl
  unfold typesB
  rw [elS_accO]
  refine ⟨by rw [List.length_map]; exact h1, fun x hx => ?_⟩
  obtain ⟨y, hy, rfl⟩ := List.mem_map.1 hx
  have := h2 y hy
  simp only [typB, elS, List.length_map]
  show (elS y.c).length ≤ 1000000
  omega

theorem typesFn {T : Tab} (h12 : T.ft.get 12 = some i12) (h21 : T.ft.get 21 = some i21) (h30 : T.ft.get 30 = some i30) (h48 : T.ft.get 48 = some i48) (h49 : T.ft.get 49 = some i49) (h101 : T.ft.get 101 = some i101) (h174 : T.ft.get 174 = some i174) {l : Option (List Sch)} (hl1 : (elS l).length < 5) (hl2 : ∀ s, s ∈ elS l → s.small) (t : Int) (fl : Bool) : Sound T 12 [.d (encSl Sch.enc l), .d (.i .i64 t), .d (.b fl)] fun r => r = .d (encSl Typ.enc (typesB l t fl)) := by
  refine sound_fn h12 rfl ?_
  refine vc_seq ?_
  refine vc_region ?_
  refine vo_op (vi_mov rfl ?_)
  refine vo_nil ?_
  refine vc_seq ?_
  refine vc_region ?_
  refine vo_op (vi_mov rfl ?_)
  refine vo_op (vi_mov rfl ?_)
  refine vo_op (vi_mov rfl ?_)
  refine vo_op (vi_call (args := [.d (encSl Sch.enc l), .d (.i .i64 t), .d (.b fl)]) rfl (by repeat (first | exact trivial | apply And.intro)) (visible h21 h48 h49 h101 h174 hl1 hl2 t fl) (fun r hn hr => ?_))
  subst hr
  refine vo_op (vi_call (args := [.d (encSl Vis.enc (accO ((elS l).filterMap (visB t fl))))]) rfl (by repeat (first | exact trivial | apply And.intro)) (btypes h30 (vis_small hl1 hl2 t fl).1 (vis_small hl1 hl2 t fl).2) (fun r hn hr => ?_))
  subst hr
  refine vo_op (vi_mov rfl ?_)
  refine vo_nil ?_
  refine vc_ret ?_
  exact ⟨_, rfl, (by repeat (first | exact trivial | apply And.intro)), rfl⟩
theorem sameInts {T : Tab} (h15 : T.ft.get 15 = some i15) {a b : Option (List Int)} (hl : (elS a).length ≤ 1000000) : Sound T 15 [.d (encSl eI a), .d (encSl eI b)] fun r => r = .d (.b (decide (elS a = elS b))) := by
  refine sound_fn h15 rfl ?_
  show VC T i15.body [(1, .d (encSl eI b)), (0, .d (encSl eI a))] [] _
  refine vc_seq (vc_region ?_)
  refine vo_op (vi_mov rfl ?_)
  refine vo_nil ?_
  refine vc_seq (vc_seq (vc_region ?_))
  refine vo_op (vi_mov rfl ?_)
  refine vo_op (vi_lenO rfl ?_)
  refine vo_op (vi_mov rfl ?_)
  refine vo_op (vi_lenO rfl ?_)
  refine vo_op (vi_neI rfl rfl ?_)
  refine vo_nil ?_
  refine vc_cond rfl (fun h10 => ?_) (fun h10 => ?_)
  · refine vc_seq (vc_region ?_)
    refine vo_op (vi_mov rfl ?_)
    refine vo_nil ?_
    refine vc_ret ?_
    refine ⟨_, rfl, ⟨trivial, trivial⟩, ?_⟩
    show VV.d (.b false) = _
    have : elS a ≠ elS b := fun e => by rw [e] at h10; simp at h10
    simp [this]
  · have hab : (elS a).length = (elS b).length := by
      have := h10
      simp at this
      omega
    refine vc_skip ?_
    refine vc_seq (vc_seq (vc_region ?_))
    refine vo_op (vi_mov rfl ?_)
    refine vo_nil ?_
    refine vc_blockV ?_
    refine vc_loop (fun k VE B => ∃ i : Nat, i ≤ (elS a).length ∧ k = (elS a).length - i ∧ (elS a).take i = (elS b).take i ∧ SubL [(0, .d (encSl eI a)), (1, .d (encSl eI b)), (5, .d (.i .i64 i))] VE ∧ SubL [] B) ?_ (k := (elS a).length) ⟨0, Nat.zero_le _, rfl, rfl, ⟨rfl, rfl, rfl, trivial⟩, trivial⟩
    rintro k VE B ⟨i, hi, rfl, ht, hV, hB⟩
    refine vc_norm _ _ hV hB ?_
    refine vc_seq (vc_seq (vc_region ?_))
    refine vo_op (vi_mov rfl ?_)
    refine vo_op (vi_mov rfl ?_)
    refine vo_op (vi_lenO rfl ?_)
    refine vo_op (vi_lt rfl rfl ?_)
    refine vo_nil ?_
    refine vc_cond rfl (fun h14 => ?_) (fun h14 => ?_)
    · have hlt : i < (elS a).length := by simpa using h14
      obtain ⟨x, hx⟩ : ∃ x, (elS a)[i]? = some x := ⟨_, List.getElem?_eq_getElem hlt⟩
      obtain ⟨y, hy⟩ : ∃ y, (elS b)[i]? = some y := ⟨_, List.getElem?_eq_getElem (hab ▸ hlt)⟩
      refine vc_skip ?_
      refine vc_seq (vc_blockV (vc_seq (vc_draw ?_)))
      refine vq_op (vi_mov rfl ?_)
      refine vq_op (vi_mov rfl ?_)
      refine vq_op (vi_idxO rfl rfl hx rfl ?_)
      refine vq_mark rfl (vi_load1R rfl rfl ?_)
      refine vq_op (vi_mov rfl ?_)
      refine vq_op (vi_mov rfl ?_)
      refine vq_op (vi_idxO rfl rfl hy rfl ?_)
      refine vq_mark rfl (vi_load1R rfl rfl ?_)
      refine vq_op (vi_neI rfl rfl ?_)
      refine vq_nil ?_
      refine vc_cond rfl (fun h25 => ?_) (fun h25 => ?_)
      · refine vc_seq (vc_region ?_)
        refine vo_op (vi_mov rfl ?_)
        refine vo_nil ?_
        refine vc_ret ?_
        refine ⟨_, rfl, ⟨trivial, trivial⟩, ?_⟩
        show VV.d (.b false) = _
        have : elS a ≠ elS b := fun e => by rw [e, hy] at hx; cases hx; simp at h25
        simp [this]
      · have hxy : x = y := by simpa using h25
        refine vc_skip ?_
        refine vc_region ?_
        refine vo_op (vi_mov rfl ?_)
        refine vo_op (vi_inc rfl rfl (by omega) ?_)
        refine vo_op (vi_mov rfl ?_)
        refine vo_nil ?_
        refine ⟨(elS a).length - (i + 1), by omega, i + 1, by omega, rfl, ?_, ⟨rfl, rfl, rfl, trivial⟩, trivial⟩
        rw [List.take_add_one, List.take_add_one, ht, hx, hy, hxy]
    · refine vc_exit ?_
      refine vc_seq (vc_region ?_)
      refine vo_op (vi_mov rfl ?_)
      refine vo_nil ?_
      refine vc_ret ?_
      refine ⟨_, rfl, ⟨trivial, trivial⟩, ?_⟩
      show VV.d (.b true) = _
      have hge : (elS a).length ≤ i := by simpa using h14
      rw [List.take_of_length_le hge, List.take_of_length_le (hab ▸ hge)] at ht
      simp [ht]

set_option maxHeartbeats 2000000 in
theorem typesLaw {T : Tab} (h6 : T.ft.get 6 = some i6) (h12 : T.ft.get 12 = some i12) (h14 : T.ft.get 14 = some i14) (h15 : T.ft.get 15 = some i15) (h21 : T.ft.get 21 = some i21) (h30 : T.ft.get 30 = some i30) (h36 : T.ft.get 36 = some i36) (h75 : T.ft.get 75 = some i75) (h76 : T.ft.get 76 = some i76) (h48 : T.ft.get 48 = some i48) (h49 : T.ft.get 49 = some i49) (h101 : T.ft.get 101 = some i101) (h174 : T.ft.get 174 = some i174) {l : Option (List Sch)} (hl1 : (elS l).length < 5) (hl2 : ∀ s, s ∈ elS l → s.small) (t : Int) (fl : Bool) : Sound T 6 [.d (encSl Sch.enc l), .d (.i .i64 t), .d (.b fl)] fun r => r = .d (.b true) := by
  refine sound_fn h6 rfl ?_
  refine vc_seq ?_
  refine vc_region ?_
  refine vo_op (vi_mov rfl ?_)
  refine vo_nil ?_
  refine vc_seq ?_
  refine vc_region ?_
  refine vo_op (vi_mov rfl ?_)
  refine vo_op (vi_mov rfl ?_)
  refine vo_op (vi_mov rfl ?_)
  refine vo_op (vi_call (args := [.d (encSl Sch.enc l), .d (.i .i64 t), .d (.b fl)]) rfl (by repeat (first | exact trivial | apply And.intro)) (typesFn h12 h21 h30 h48 h49 h101 h174 hl1 hl2 t fl) (fun r hn hr => ?_))
  subst hr
  refine vo_op (vi_mov rfl ?_)
  refine vo_op (vi_mov rfl ?_)
  refine vo_op (vi_mov rfl ?_)
  refine vo_op (vi_call (args := [.d (encSl Sch.enc l), .d (.i .i64 t), .d (.b fl)]) rfl (by repeat (first | exact trivial | apply And.intro)) (refTypes h14 h36 h75 h76 hl1 hl2 t fl) (fun r hn hr => ?_))
  subst hr
  have hks := kinds_small hl1 hl2 t fl
  have hab := types_same l t fl
  unfold typesR at hab
  generalize accO ((elS l).filterMap (typRef t fl)) = b at hab ⊢
  generalize typesB l t fl = a at hab hks ⊢
  have hlen : (elS a).length = (elS b).length := by simpa using congrArg List.length hab
  refine vo_op (vi_mov rfl ?_)
  refine vo_op (vi_mov rfl ?_)
  refine vo_nil ?_
  refine vc_seq ?_
  refine vc_seq ?_
  refine vc_region ?_
  refine vo_op (vi_mov rfl ?_)
  first | refine vo_op (vi_lenO rfl ?_) | refine vo_op (vi_lenB rfl ?_) | refine vo_op (vi_lenA rfl ?_) | refine vo_op (vi_len rfl ?_)
  refine vo_op (vi_mov rfl ?_)
  first | refine vo_op (vi_lenO rfl ?_) | refine vo_op (vi_lenB rfl ?_) | refine vo_op (vi_lenA rfl ?_) | refine vo_op (vi_len rfl ?_)
  first | refine vo_op (vi_neI rfl rfl ?_) | refine vo_op (vi_neS rfl rfl ?_)
  refine vo_nil ?_
  refine vc_cond rfl (fun h22 => ?_) (fun h22 => ?_)
  · skip
    exact absurd hlen (by have h := h22; simp at h; omega)
  · skip
    refine vc_skip ?_
    refine vc_seq ?_
    refine vc_seq ?_
    refine vc_region ?_
    refine vo_op (vi_mov rfl ?_)
    refine vo_nil ?_
    refine vc_blockV ?_
    refine vc_loop (fun k VE B => ∃ i : Nat, i ≤ (elS a).length ∧ k = (elS a).length - i ∧ SubL [(7, .d (encSl Typ.enc a)), (8, .d (encSl Typ.enc b)), (9, .d (.i .i64 i))] VE ∧ SubL [] B) ?_ (k := (elS a).length) ⟨0, Nat.zero_le _, rfl, ⟨rfl, rfl, rfl, trivial⟩, trivial⟩
    rintro k VE B ⟨i, hi, rfl, hV, hB⟩
    refine vc_norm _ _ hV hB ?_
    refine vc_seq ?_
    refine vc_seq ?_
    refine vc_region ?_
    refine vo_op (vi_mov rfl ?_)
    refine vo_op (vi_mov rfl ?_)
    first | refine vo_op (vi_lenO rfl ?_) | refine vo_op (vi_lenB rfl ?_) | refine vo_op (vi_lenA rfl ?_) | refine vo_op (vi_len rfl ?_)
    refine vo_op (vi_lt rfl rfl ?_)
    refine vo_nil ?_
    refine vc_cond rfl (fun h26 => ?_) (fun h26 => ?_)
    · skip
      have hlt : i < (elS a).length := by simpa using h26
      obtain ⟨x, hx1⟩ : ∃ x, (elS a)[i]? = some x := ⟨_, List.getElem?_eq_getElem hlt⟩
      obtain ⟨y, hy1⟩ : ∃ y, (elS b)[i]? = some y := ⟨_, List.getElem?_eq_getElem (hlen ▸ hlt)⟩
      have hxk := hks.2 x (List.mem_of_getElem? hx1)
      have hk := congrArg (fun l => l[i]?) hab
      simp only [List.getElem?_map, hx1, hy1, Option.map_some, Option.some.injEq, Typ.key, Prod.mk.injEq] at hk
      obtain ⟨hk1, hk2, hk3⟩ := hk
      refine vc_skip ?_
      refine vc_seq ?_
      refine vc_blockV ?_
      refine vc_seq ?_
      refine vc_draw ?_
      refine vq_op (vi_mov rfl ?_)
      refine vq_op (vi_mov rfl ?_)
      refine vq_op (vi_idxO rfl rfl hx1 rfl ?_)
      first | refine vq_op (vi_offsR rfl ?_) | refine vq_op (vi_offsV rfl ?_) | refine vq_op (vi_offsB rfl ?_)
      first | refine vq_mark rfl (vi_load1V rfl rfl rfl ?_) | refine vq_mark rfl (vi_load1R rfl rfl ?_)
      refine vq_op (vi_mov rfl ?_)
      refine vq_op (vi_mov rfl ?_)
      refine vq_op (vi_idxO rfl rfl hy1 rfl ?_)
      first | refine vq_op (vi_offsR rfl ?_) | refine vq_op (vi_offsV rfl ?_) | refine vq_op (vi_offsB rfl ?_)
      first | refine vq_mark rfl (vi_load1V rfl rfl rfl ?_) | refine vq_mark rfl (vi_load1R rfl rfl ?_)
      first | refine vq_op (vi_neI rfl rfl ?_) | refine vq_op (vi_neS rfl rfl ?_)
      refine vq_op (vi_mov rfl ?_)
      refine vq_split (g := kk40) rfl (fun h40 => ?_) (fun h40 => ?_)
      · skip
        exact absurd (⟨hk1, hk2⟩ : x.nl = y.nl ∧ x.nv = y.nv) (fun hh => by have h := h40; simp at h; rcases h with h | h <;> first | exact h hh.1 | exact h hh.2)
      · skip
        refine vq_wantH rfl (h40) (vi_mov rfl ?_)
        refine vq_wantH rfl (h40) (vi_mov rfl ?_)
        refine vq_wantH rfl (h40) (vi_idxO rfl rfl hx1 rfl ?_)
        first | refine vq_wantH rfl (h40) (vi_offsR rfl ?_) | refine vq_wantH rfl (h40) (vi_offsV rfl ?_) | refine vq_wantH rfl (h40) (vi_offsB rfl ?_)
        first | refine vq_wantMH rfl (h40) rfl (vi_load1V rfl rfl rfl ?_) | refine vq_wantMH rfl (h40) rfl (vi_load1R rfl rfl ?_)
        refine vq_wantH rfl (h40) (vi_mov rfl ?_)
        refine vq_wantH rfl (h40) (vi_mov rfl ?_)
        refine vq_wantH rfl (h40) (vi_idxO rfl rfl hy1 rfl ?_)
        first | refine vq_wantH rfl (h40) (vi_offsR rfl ?_) | refine vq_wantH rfl (h40) (vi_offsV rfl ?_) | refine vq_wantH rfl (h40) (vi_offsB rfl ?_)
        first | refine vq_wantMH rfl (h40) rfl (vi_load1V rfl rfl rfl ?_) | refine vq_wantMH rfl (h40) rfl (vi_load1R rfl rfl ?_)
        refine vq_wantMH rfl (h40) rfl (vi_call (args := [.d (encSl eI x.k), .d (encSl eI y.k)]) rfl (by repeat (first | exact trivial | apply And.intro)) (sameInts h15 hxk) (fun r hn hr => ?_))
        subst hr
        refine vq_wantH rfl (h40) (vi_not rfl ?_)
        refine vq_op (vi_pickFH rfl (h40) rfl ?_)
        refine vq_nil ?_
        refine vc_cond rfl (fun h53 => ?_) (fun h53 => ?_)
        · skip
          exact absurd hk3 (by simpa using h53)
        · skip
          refine vc_skip ?_
          refine vc_region ?_
          refine vo_op (vi_mov rfl ?_)
          first | refine vo_op (vi_inc rfl rfl (by omega) ?_) | refine vo_op (vi_add rfl rfl (by omega) (by omega) ?_)
          refine vo_op (vi_mov rfl ?_)
          refine vo_nil ?_
          exact ⟨(elS a).length - (i + 1), by omega, i + 1, by omega, rfl, ⟨rfl, rfl, rfl, trivial⟩, trivial⟩
    · skip
      refine vc_exit ?_
      refine vc_seq ?_
      refine vc_region ?_
      refine vo_op (vi_mov rfl ?_)
      refine vo_nil ?_
      refine vc_ret ?_
      exact ⟨_, rfl, (by repeat (first | exact trivial | apply And.intro)), rfl⟩
theorem law {T : Tab} (h3 : T.ft.get 3 = some i3) (h4 : T.ft.get 4 = none) (x4 : T.xt.get 4 = some 2) (h5 : T.ft.get 5 = some i5) (h6 : T.ft.get 6 = some i6) (f12 : T.ft.get 12 = some i12) (h13 : T.ft.get 13 = some i13) (h14 : T.ft.get 14 = some i14) (h15 : T.ft.get 15 = some i15) (h21 : T.ft.get 21 = some i21) (h30 : T.ft.get 30 = some i30) (h36 : T.ft.get 36 = some i36) (h75 : T.ft.get 75 = some i75) (h76 : T.ft.get 76 = some i76) (h48 : T.ft.get 48 = some i48) (h49 : T.ft.get 49 = some i49) (h101 : T.ft.get 101 = some i101) (h174 : T.ft.get 174 = some i174) (l : Option (List Sch)) (t : Int) (fl : Bool) : Sound T 3 [.d (encSl Sch.enc l), .d (.i .i64 t), .d (.b fl)] fun r => r = .d (.b true) := by
  refine sound_fn h3 rfl ?_
  refine vc_seq ?_
  refine vc_region ?_
  refine vo_op (vi_mov rfl ?_)
  refine vo_nil ?_
  refine vc_seq ?_
  refine vc_region ?_
  refine vo_op (vi_call (args := []) rfl (by repeat (first | exact trivial | apply And.intro)) (sound_true h4 x4) (fun r hn hr => ?_))
  subst hr
  refine vo_op (vi_mov rfl ?_)
  refine vo_wantH rfl (rfl) (vi_mov rfl ?_)
  refine vo_wantH rfl (rfl) (vi_call (args := [.d (encSl Sch.enc l)]) rfl (by repeat (first | exact trivial | apply And.intro)) (few h5 h13 l) (fun r hn hr => ?_))
  obtain ⟨b, rfl, hb⟩ := hr
  refine vo_wantH rfl (rfl) (vi_not rfl ?_)
  refine vo_wantH rfl (rfl) (vi_mov rfl ?_)
  refine vo_split (g := kk12) rfl (fun h12 => ?_) (fun h12 => ?_)
  · skip
    refine vo_skip rfl (h12) ?_
    refine vo_skip rfl (h12) ?_
    refine vo_skip rfl (h12) ?_
    refine vo_skip rfl (h12) ?_
    refine vo_wantH rfl (rfl) (vi_pickTH rfl (h12) rfl ?_)
    refine vo_op (vi_pickTH rfl (rfl) rfl ?_)
    refine vo_op (vi_mov rfl ?_)
    refine vo_nil ?_
    refine vc_ret ?_
    exact ⟨_, rfl, (by repeat (first | exact trivial | apply And.intro)), rfl⟩
  · skip
    have hbt : b = true := by simpa using h12
    have hc := hb hbt
    subst hbt
    refine vo_wantH rfl (h12) (vi_mov rfl ?_)
    refine vo_wantH rfl (h12) (vi_mov rfl ?_)
    refine vo_wantH rfl (h12) (vi_mov rfl ?_)
    refine vo_wantH rfl (h12) (vi_call (args := [.d (encSl Sch.enc l), .d (.i .i64 t), .d (.b fl)]) rfl (by repeat (first | exact trivial | apply And.intro)) (typesLaw h6 f12 h14 h15 h21 h30 h36 h75 h76 h48 h49 h101 h174 hc.1 hc.2 t fl) (fun r hn hr => ?_))
    subst hr
    refine vo_wantH rfl (rfl) (vi_pickFH rfl (h12) rfl ?_)
    refine vo_op (vi_pickTH rfl (rfl) rfl ?_)
    refine vo_op (vi_mov rfl ?_)
    refine vo_nil ?_
    refine vc_ret ?_
    exact ⟨_, rfl, (by repeat (first | exact trivial | apply And.intro)), rfl⟩

theorem fits_Col {r : List DC} (h : fitsRow [.i .i64, .s, .i .i64] r) : ∃ a : Col, r = a.enc := by
  simp only [fitsRow, Shp.fits] at h
  obtain ⟨_, _, rfl, ⟨a, rfl, _⟩, _, _, rfl, ⟨b, rfl, _⟩, _, _, rfl, ⟨c, rfl, _⟩, rfl⟩ := h
  exact ⟨⟨_, _, _, _⟩, rfl⟩
theorem fits_Ver {r : List DC} (h : fitsRow [.i .i64, .i .i64, .sl [.i .i64, .s, .i .i64]] r) : ∃ a : Ver, r = a.enc := by
  rw [fitsRow] at h
  obtain ⟨_, _, rfl, h1, h⟩ := h
  rw [fitsRow] at h
  obtain ⟨_, _, rfl, h2, h⟩ := h
  rw [fitsRow] at h
  obtain ⟨_, _, rfl, h3, h⟩ := h
  simp only [fitsRow] at h
  subst h
  simp only [Shp.fits] at h1 h2
  obtain ⟨a, rfl, _⟩ := h1
  obtain ⟨b, rfl, _⟩ := h2
  obtain ⟨o, rfl⟩ := fits_sl (fun r hr => fits_Col hr) h3
  exact ⟨⟨_, _, _⟩, rfl⟩
theorem fits_Ref3 {r : List DC} {a b : List Shp} {x : Shp} (h : fitsRow [.sl a, x, .sl b] r) : ∃ a : Ref3, r = a.enc := by
  rw [fitsRow] at h
  obtain ⟨_, _, rfl, h1, h⟩ := h
  rw [fitsRow] at h
  obtain ⟨_, _, rfl, h2, h⟩ := h
  rw [fitsRow] at h
  obtain ⟨_, _, rfl, h3, h⟩ := h
  simp only [fitsRow] at h
  subst h
  obtain ⟨o, rfl⟩ := fits_raw h1
  obtain ⟨u, rfl⟩ := fits_raw h3
  exact ⟨⟨_, _, _⟩, rfl⟩
theorem fits_Ref2 {r : List DC} {b : List Shp} {x : Shp} (h : fitsRow [x, .sl b] r) : ∃ a : Ref2, r = a.enc := by
  rw [fitsRow] at h
  obtain ⟨_, _, rfl, h2, h⟩ := h
  rw [fitsRow] at h
  obtain ⟨_, _, rfl, h3, h⟩ := h
  simp only [fitsRow] at h
  subst h
  obtain ⟨u, rfl⟩ := fits_raw h3
  exact ⟨⟨_, _⟩, rfl⟩
def shpSch : List Shp := [.s, .sl [.i .i64, .i .i64, .sl [.i .i64, .s, .i .i64]], .sl [.i .i64], .sl [.sl [.i .i64], .s, .sl [.i .i64]], .sl [.i .i64, .sl [.i .i64]]]
theorem fits_Sch {r : List DC} (h : fitsRow shpSch r) : ∃ a : Sch, r = a.enc := by
  unfold shpSch at h
  rw [fitsRow] at h
  obtain ⟨_, _, rfl, h1, h⟩ := h
  rw [fitsRow] at h
  obtain ⟨_, _, rfl, h2, h⟩ := h
  rw [fitsRow] at h
  obtain ⟨_, _, rfl, h3, h⟩ := h
  rw [fitsRow] at h
  obtain ⟨_, _, rfl, h4, h⟩ := h
  rw [fitsRow] at h
  obtain ⟨_, _, rfl, h5, h⟩ := h
  simp only [fitsRow] at h
  subst h
  simp only [Shp.fits] at h1
  obtain ⟨s, rfl, _⟩ := h1
  obtain ⟨vs, rfl⟩ := fits_sl (fun r hr => fits_Ver hr) h2
  obtain ⟨k, rfl⟩ := fits_raw h3
  obtain ⟨r3, rfl⟩ := fits_sl (fun r hr => fits_Ref3 hr) h4
  obtain ⟨r2, rfl⟩ := fits_sl (fun r hr => fits_Ref2 hr) h5
  exact ⟨⟨_, _, _, _, _, _⟩, rfl⟩
theorem fits_arg {r : List DC} (h : fitsRow [.sl shpSch] r) : ∃ l : Option (List Sch), r = [encSl Sch.enc l] := by
  rw [fitsRow] at h
  obtain ⟨_, _, rfl, h1, h⟩ := h
  simp only [fitsRow] at h
  subst h
  obtain ⟨l, rfl⟩ := fits_sl (fun r hr => fits_Sch hr) h1
  exact ⟨l, rfl⟩
theorem fits_int {r : List DC} {k : IntKind} (h : fitsRow [.i k] r) : ∃ n, r = [.i k n] ∧ (Lit.int k n).wf = true := by
  simp only [fitsRow, Shp.fits] at h
  obtain ⟨_, _, rfl, ⟨n, rfl, hw⟩, rfl⟩ := h
  exact ⟨n, rfl, hw⟩
theorem fits_bool {r : List DC} (h : fitsRow [.b] r) : ∃ n, r = [.b n] := by
  simp only [fitsRow, Shp.fits] at h
  obtain ⟨_, _, rfl, ⟨n, rfl⟩, rfl⟩ := h
  exact ⟨n, rfl⟩

end Go.Ev.Bt
