/- The tables of the program's functions are the program's; strconv.ParseUint and strconv.ParseInt answer as the tables say; the sanity check of these laws returns true. It holds without any condition. -/
import Derived.Test.YtijnechfhdlgiaaGreatDoorT0
import Derived.Test.YtijnechfhdlgiaaGreatDoorT1
import Derived.Test.YtijnechfhdlgiaaGreatDoorT2
import Derived.Test.YtijnechfhdlgiaaGreatDoorT3
import Derived.Test.YtijnechfhdlgiaaGreatDoorT4
import Derived.Test.YtijnechfhdlgiaaGreatDoorSh
import Derived.Test.YtijnechfhdlgiaaGreatDoorRows
import Derived.Test.YtijnechfhdlgiaaGreatDoorS25
import Derived.Below
import Derived.LaidSub
import Derived.Deep.DeepHandedRow
import Derived.Shelf.Abstract
namespace Go.Proofs.YtijnechfhdlgiaaGreatDoor
open Go Go.Ev Go.Ev.Pp
set_option maxRecDepth 100000
noncomputable def ft0 : Tr bA := D8 (rows0 ++ (rows1 ++ (rows2 ++ (rows3 ++ (rows4)))))
theorem ft0_ok : Gu Tryz.prog ft0 := tabOf_ok (rows_append rows0_ok (rows_append rows1_ok (rows_append rows2_ok (rows_append rows3_ok (rows4_ok)))))
noncomputable def xt0 : Tr Nat := D8 [(207, 0), (190, 1), (182, 3), (239, 265)]
theorem mix : Tryz.prog.follows .mixedOrders = true := by kernel_rfl
theorem low : Tryz.prog.globals.size = 8 := by kernel_rfl
theorem kept_below {w w' : World} (h : Go.RowKit.Below w.heap.size w w') : Go.Ev.Kept w w' := ⟨h.os, h.tape, h.output, h.size, h.block⟩
theorem uint_ok : U6 Tryz.prog 182 := fun s u w hs h =>
  ⟨Go.Proofs.enters_of Tryz.func182 (by kernel_rfl) rfl _ _, (show Calls Tryz.prog 182 #[.string s, .int .i64 10, .int .i64 64] w _ from Go.Proofs.Any.strconv_ParseUint_10_at64_ok shU s (by omega) u h w).mono fun e w' ⟨he, hk⟩ =>
    ⟨_, he, rfl, by rcases hk with rfl | rfl <;> first | exact kept_below (Go.RowKit.Below.refl _ _) | exact kept_below (Go.Lib.bytesWorld_below _ _ _)⟩⟩
theorem int_ok : Wb Tryz.prog 239 5 261 := fun s w hs =>
  ⟨fun v h => ⟨Go.Proofs.enters_of Tryz.func239 (by kernel_rfl) rfl _ _, (show Calls Tryz.prog 239 #[.string s, .int .i64 10, .int .i64 64] w _ from Go.Proofs.Any.strconv_ParseInt_10_at64_ok shI s (by omega) v h w).mono fun e w' ⟨he, hk⟩ =>
    ⟨_, he, rfl, by rcases hk with rfl | ⟨t, rfl⟩ <;> first | exact kept_below (Go.RowKit.Below.refl _ _) | exact kept_below (Go.Lib.bytesWorld_below _ _ _)⟩⟩,
   fun h ⟨te, pe, hc⟩ => ⟨Go.Proofs.enters_of Tryz.func239 (by kernel_rfl) rfl _ _, (show Calls Tryz.prog 239 #[.string s, .int .i64 10, .int .i64 64] w _ from Go.Proofs.Any.strconv_ParseInt_10_at64_range shI s (by omega) h _ w hc (.inr ⟨te, pe, rfl⟩)).mono fun e w' ⟨n, he, _, _, hb⟩ =>
    ⟨_, he, ⟨_, rfl⟩, kept_below hb⟩⟩⟩
theorem xt0_ok : N7 Tryz.prog xt0 := fun f c h => by
  have h := Kj h
  simp only [List.mem_cons, Prod.mk.injEq, List.not_mem_nil, or_false] at h
  rcases h with ⟨rfl, rfl⟩ | ⟨rfl, rfl⟩ | ⟨rfl, rfl⟩ | ⟨rfl, rfl⟩
  · exact .inl ⟨Tryz.f207, Tryz.func207, by kernel_rfl, by kernel_rfl, by kernel_rfl, _, rfl, by kernel_rfl⟩
  · exact .inl ⟨Tryz.f190, Tryz.func190, by kernel_rfl, by kernel_rfl, by kernel_rfl, _, rfl, by kernel_rfl⟩
  · exact .inr (.inr (.inl ⟨rfl, uint_ok⟩))
  · exact .inr (.inr (.inr ⟨5, 261, rfl, by rw [low]; decide, by kernel_rfl, int_ok⟩))
noncomputable def call0 : eF := A3 ft0 xt0 1000000000 1000
theorem call0_ok : kt Tryz.prog call0 := MI mix ft0_ok xt0_ok 1000
theorem awake_true : okT (call0 6 [] (H0 1000)) = true := by kernel_rfl
theorem awake_ok : MH Tryz.prog 6 := by
  obtain ⟨H, h⟩ := okT_ok awake_true
  exact trueOk_of call0_ok (by rw [low]; decide) h
noncomputable def ft1 : Tr bA := D8 (rows0 ++ (rows1 ++ (rows2)))
theorem ft1_ok : Gu Tryz.prog ft1 := tabOf_ok (rows_append rows0_ok (rows_append rows1_ok (rows2_ok)))
noncomputable def xt1 : Tr Nat := D8 [(6, 2), (207, 0), (190, 1), (182, 3), (239, 265)]
theorem xt1_ok : N7 Tryz.prog xt1 := fun f c h => by
  have h := Kj h
  simp only [List.mem_cons, Prod.mk.injEq, List.not_mem_nil, or_false] at h
  rcases h with ⟨rfl, rfl⟩ | ⟨rfl, rfl⟩ | ⟨rfl, rfl⟩ | ⟨rfl, rfl⟩ | ⟨rfl, rfl⟩
  · exact .inr (.inl ⟨rfl, awake_ok⟩)
  · exact .inl ⟨Tryz.f207, Tryz.func207, by kernel_rfl, by kernel_rfl, by kernel_rfl, _, rfl, by kernel_rfl⟩
  · exact .inl ⟨Tryz.f190, Tryz.func190, by kernel_rfl, by kernel_rfl, by kernel_rfl, _, rfl, by kernel_rfl⟩
  · exact .inr (.inr (.inl ⟨rfl, uint_ok⟩))
  · exact .inr (.inr (.inr ⟨5, 261, rfl, by rw [low]; decide, by kernel_rfl, int_ok⟩))
noncomputable def TT : bf := ⟨ft1, xt1⟩
theorem ftT : FT TT := by constructor <;> kernel_rfl
theorem fxT : FX TT := ⟨by kernel_rfl, by kernel_rfl, by kernel_rfl, ⟨261, by kernel_rfl⟩, by kernel_rfl, by kernel_rfl, by kernel_rfl, by kernel_rfl⟩
theorem fits_str {r : List DC} (h : jL [.s] r) : ∃ s : List UInt8, r = [cJ s] := by
  simp only [jL, ny.fits] at h
  obtain ⟨_, _, rfl, ⟨s, rfl, _⟩, rfl⟩ := h
  exact ⟨s, rfl⟩
theorem pin5 : ((List.range 8).all fun g => !(yn Tryz.prog g) || g == 5) = true := by kernel_rfl
theorem laid5 : (Rows.parserWordsRow.laid.filter fun x => x.1 == "strconv.ErrRange") = [("strconv.ErrRange", Rows.laid_strconv_ErrRange)] := by kernel_rfl
theorem laid6 : ([("strconv.ErrRange", Rows.laid_strconv_ErrRange (H := Unit))].filter fun x => x.2.handleName?.isNone) = [("strconv.ErrRange", Rows.laid_strconv_ErrRange)] := by kernel_rfl
theorem iface_of {W : World} {f : Nat} {l : List Value} {n : String} {d : DataW Unit} {p : List MemPlace} (h : DataW.trod (fun _ => ()) Tryz.prog W 0 (fun _ => true) false f 154 l = some (.iface n d, p)) : ∃ te pe, l = [.iface te pe] := by
  cases f with
  | zero => simp [DataW.trod] at h
  | succ f =>
    unfold DataW.trod at h
    rw [Tryz.underlying154] at h
    split at h <;> first | exact ⟨_, _, rfl⟩ | (simp_all; done)
theorem low_ok {W : World} (hl : laidMetH Tryz.prog Rows.parserWordsRow.laid W) (hsh : W.ShapedOpen Tryz.prog) : xT Tryz.prog W := fun g hg => by
  refine ⟨low_of_shaped hsh (by kernel_rfl) g hg, fun hp => ?_⟩
  have h5 := List.all_eq_true.1 pin5 g (List.mem_range.2 (by rw [low] at hg; exact hg))
  have e5 : g = 5 := by rw [hp] at h5; simpa using h5
  subst e5
  have h1 := hl.filter fun x => x.1 == "strconv.ErrRange"
  rw [laid5] at h1
  have h2 := (laidMetH_iff.1 h1).1
  rw [laid6] at h2
  obtain ⟨ps, hv, _, _⟩ := h2
  obtain ⟨g', t, cs, fuel, p, q, k1, k2, k3, k4, _, _⟩ := hv
  have kg : Tryz.prog.globalNamed "strconv.ErrRange" = some 5 := by kernel_rfl
  rw [kg] at k1
  cases k1
  rw [show (Tryz.prog.globals[5]?).map (·.type) = some 154 by kernel_rfl] at k2
  cases k2
  obtain ⟨te, pe, e⟩ := iface_of k4
  unfold World.var? at k3
  rw [kg] at k3
  simp only [Option.bind_some] at k3
  refine ⟨te, pe, ?_⟩
  unfold World.cell?
  split at k3
  · rename_i hh
    cases k3
    rw [show W.heap[(⟨5, 0, none⟩ : Addr).block]? = W.heap[5]? from rfl, hh]
    show cs[0]? = _
    rw [← Array.getElem?_toList, e]; rfl
  · cases k3
end Go.Proofs.YtijnechfhdlgiaaGreatDoor
