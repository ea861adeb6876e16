/- The tables of the program's functions are the program's; strconv.ParseUint and strconv.ParseInt answer as the tables say; the sanity check of these laws returns true. It holds without any condition. -/
import Derived.Test.YtijnechfhdlgiaaGreatDoorChecked
import Derived.KernelRfl
import Derived.Test.YtijnechfhdlgiaaGreatDoorSh
import Derived.Test.YtijnechfhdlgiaaGreatDoorRows
import Derived.Test.YtijnechfhdlgiaaGreatDoorS26
import Derived.Below
import Derived.LaidSub
import Derived.Deep.DeepHandedRow
import Derived.Shelf.Abstract
namespace Go.Proofs.YtijnechfhdlgiaaGreatDoor
open Go Go.Ev Go.Ev.Pp
set_option maxRecDepth 100000
noncomputable def jfP (P : Program) (k : Nat) : bH := match P.funcs[k]? with
  | some g => (xz P g).getD ⟨0, [], [], .skip⟩
  | none => ⟨0, [], [], .skip⟩
noncomputable def okP (P : Program) (k : Nat) : Bool := match P.funcs[k]? with
  | some g => (xz P g).isSome
  | none => false
theorem okP_row {P : Program} {k : Nat} (h : okP P k = true) : Yd P (k, jfP P k) := by
  unfold okP at h
  unfold jfP
  cases e : P.funcs[k]? with
  | none => rw [e] at h; cases h
  | some g =>
    rw [e] at h
    simp only at h ⊢
    cases e2 : xz P g with
    | none => rw [e2] at h; cases h
    | some x => exact ⟨g, e, e2⟩
noncomputable def tabP (P : Program) (l : List Nat) : Tr bH := Fy (l.map fun k => (k, jfP P k))
theorem tabP_ok {P : Program} {l : List Nat} (h : ∀ k, k ∈ l → okP P k = true) : HU P (tabP P l) := tabOf_ok fun p hp => by
  obtain ⟨k, hk, rfl⟩ := List.mem_map.1 hp
  exact okP_row (h k hk)
theorem all2 {P : Program} {l m : List Nat} (h : ∀ k, k ∈ l → okP P k = true) (h2 : ∀ k, k ∈ m → okP P k = true) : ∀ k, k ∈ l ++ m → okP P k = true := fun k hk => (List.mem_append.1 hk).elim (h k) (h2 k)
def kw0 : List Nat := [4,7,8,9,10,11,12,13,14,17,18,19,20,21,22,23,24,25,26,27,28,29,30,41,42,43,44,45,46,47,48,49,50,51,52,53,54,55,56,57,58,59,60,61,62]
theorem kw0_ok : ∀ k, k ∈ kw0 → okP Tryz.prog k = true := List.all_eq_true.1 (by kernel_rfl)
def kw1 : List Nat := [63,64,91,94,99,100,101,102,103,104,105,106,107,108,109,110,111,112,113,114,115,116,117,118,119,120,121,122,123,124,125,126,127,128,129,130,131,132,140,146,147,148,149,150,151]
theorem kw1_ok : ∀ k, k ∈ kw1 → okP Tryz.prog k = true := List.all_eq_true.1 (by kernel_rfl)
def kw2 : List Nat := [152,153,154,155,156,157,158,159,160,161,162,163,164,165,166,167,168,169,170,171,172,173,174,175,176,177,178,179,180,181,183,184,185,196,197,198,199,200,201,202,203,204,205,206,208]
theorem kw2_ok : ∀ k, k ∈ kw2 → okP Tryz.prog k = true := List.all_eq_true.1 (by kernel_rfl)
def kw3 : List Nat := [209,210,211,212,213,214,215,216,219,220,221,227,228,232,234,235,236,237,238,240,241,242,243,244,245,246,258,263,265,266,267,268,274,275,276,277,278,279,280,281,282,283]
theorem kw3_ok : ∀ k, k ∈ kw3 → okP Tryz.prog k = true := List.all_eq_true.1 (by kernel_rfl)
def ko0 : List Nat := [6,15,16,31,32,33,34,35,36,37,38,39,40,65,66,67,68,69,70,71,72,73,74,75,76,77,78,79,80,81,82,83,84,85,86,87,88,89,90,92,93,95,96,97,98,133,134,135,136]
theorem ko0_ok : ∀ k, k ∈ ko0 → okP Tryz.prog k = true := List.all_eq_true.1 (by kernel_rfl)
def ko1 : List Nat := [137,138,139,141,142,143,144,145,182,186,187,188,189,191,192,193,194,195,217,218,222,223,224,225,226,229,231,233,239,247,248,249,250,251,252,253,254,255,256,257,261,262,264,269,270,271,272,273]
theorem ko1_ok : ∀ k, k ∈ ko1 → okP Tryz.prog k = true := List.all_eq_true.1 (by kernel_rfl)
noncomputable def ft0 : Tr bH := tabP Tryz.prog (kw0 ++ (kw1 ++ (kw2 ++ (kw3 ++ (ko0 ++ (ko1))))))
theorem ft0_ok : HU Tryz.prog ft0 := tabP_ok (all2 kw0_ok (all2 kw1_ok (all2 kw2_ok (all2 kw3_ok (all2 ko0_ok (ko1_ok))))))
noncomputable def xt0 : Tr Nat := Fy [(207, 0), (190, 1), (182, 3), (239, 265)]
theorem mix : Tryz.prog.follows .mixedOrders = true := by kernel_rfl
theorem low : Tryz.prog.globals.size = 8 := by kernel_rfl
theorem kept_below {w w' : World} (h : Go.RowKit.Below w.heap.size w w') : Go.Ev.Kept w w' := ⟨h.os, h.tape, h.output, h.size, h.block⟩
theorem uint_ok : W8 Tryz.prog 182 := fun s u w hs h =>
  ⟨Go.Proofs.enters_of Tryz.func182 (by kernel_rfl) rfl _ _, (show Calls Tryz.prog 182 #[.string s, .int .i64 10, .int .i64 64] w _ from Go.Proofs.Any.strconv_ParseUint_10_at64_ok shU s (by omega) u h w).mono fun e w' ⟨he, hk⟩ =>
    ⟨_, he, rfl, by rcases hk with rfl | rfl <;> first | exact kept_below (Go.RowKit.Below.refl _ _) | exact kept_below (Go.Lib.bytesWorld_below _ _ _)⟩⟩
theorem int_ok : X9 Tryz.prog 239 5 261 := fun s w hs =>
  ⟨fun v h => ⟨Go.Proofs.enters_of Tryz.func239 (by kernel_rfl) rfl _ _, (show Calls Tryz.prog 239 #[.string s, .int .i64 10, .int .i64 64] w _ from Go.Proofs.Any.strconv_ParseInt_10_at64_ok shI s (by omega) v h w).mono fun e w' ⟨he, hk⟩ =>
    ⟨_, he, rfl, by rcases hk with rfl | ⟨t, rfl⟩ <;> first | exact kept_below (Go.RowKit.Below.refl _ _) | exact kept_below (Go.Lib.bytesWorld_below _ _ _)⟩⟩,
   fun h ⟨te, pe, hc⟩ => ⟨Go.Proofs.enters_of Tryz.func239 (by kernel_rfl) rfl _ _, (show Calls Tryz.prog 239 #[.string s, .int .i64 10, .int .i64 64] w _ from Go.Proofs.Any.strconv_ParseInt_10_at64_range shI s (by omega) h _ w hc (.inr ⟨te, pe, rfl⟩)).mono fun e w' ⟨n, he, _, _, hb⟩ =>
    ⟨_, he, ⟨_, rfl⟩, kept_below hb⟩⟩⟩
theorem xt0_ok : PJ Tryz.prog xt0 := fun f c h => by
  have h := LQ h
  simp only [List.mem_cons, Prod.mk.injEq, List.not_mem_nil, or_false] at h
  rcases h with ⟨rfl, rfl⟩ | ⟨rfl, rfl⟩ | ⟨rfl, rfl⟩ | ⟨rfl, rfl⟩
  · exact .inl ⟨Tryz.f207, Tryz.func207, by kernel_rfl, by kernel_rfl, by kernel_rfl, _, rfl, by kernel_rfl⟩
  · exact .inl ⟨Tryz.f190, Tryz.func190, by kernel_rfl, by kernel_rfl, by kernel_rfl, _, rfl, by kernel_rfl⟩
  · exact .inr (.inr (.inl ⟨rfl, uint_ok⟩))
  · exact .inr (.inr (.inr ⟨5, 261, rfl, by rw [low]; decide, by kernel_rfl, int_ok⟩))
noncomputable def call0 : fc := CW ft0 xt0 1000000000 1000
theorem call0_ok : kZ Tryz.prog call0 := Oh mix ft0_ok xt0_ok 1000
theorem awake_true : okT (call0 6 [] (H0 1000)) = true := by kernel_rfl
theorem awake_ok : Og Tryz.prog 6 := by
  obtain ⟨H, h⟩ := okT_ok awake_true
  exact trueOk_of call0_ok (by rw [low]; decide) h
noncomputable def ft1 : Tr bH := tabP Tryz.prog (kw0 ++ (kw1 ++ (kw2 ++ (kw3))))
theorem ft1_ok : HU Tryz.prog ft1 := tabP_ok (all2 kw0_ok (all2 kw1_ok (all2 kw2_ok (kw3_ok))))
noncomputable def xt1 : Tr Nat := Fy [(6, 2), (207, 0), (190, 1), (182, 3), (239, 265)]
theorem xt1_ok : PJ Tryz.prog xt1 := fun f c h => by
  have h := LQ h
  simp only [List.mem_cons, Prod.mk.injEq, List.not_mem_nil, or_false] at h
  rcases h with ⟨rfl, rfl⟩ | ⟨rfl, rfl⟩ | ⟨rfl, rfl⟩ | ⟨rfl, rfl⟩ | ⟨rfl, rfl⟩
  · exact .inr (.inl ⟨rfl, awake_ok⟩)
  · exact .inl ⟨Tryz.f207, Tryz.func207, by kernel_rfl, by kernel_rfl, by kernel_rfl, _, rfl, by kernel_rfl⟩
  · exact .inl ⟨Tryz.f190, Tryz.func190, by kernel_rfl, by kernel_rfl, by kernel_rfl, _, rfl, by kernel_rfl⟩
  · exact .inr (.inr (.inl ⟨rfl, uint_ok⟩))
  · exact .inr (.inr (.inr ⟨5, 261, rfl, by rw [low]; decide, by kernel_rfl, int_ok⟩))
noncomputable def TT : bd := ⟨ft1, xt1⟩
theorem ftT : FT TT := by constructor <;> kernel_rfl
theorem fxT : FX TT := ⟨by kernel_rfl, by kernel_rfl, by kernel_rfl, ⟨261, by kernel_rfl⟩, by kernel_rfl, by kernel_rfl, by kernel_rfl, by kernel_rfl⟩
theorem fits_str {r : List DC} (h : jF [.s] r) : ∃ s : List UInt8, r = [cl s] := by
  simp only [jF, oh.fits] at h
  obtain ⟨_, _, rfl, ⟨s, rfl, _⟩, rfl⟩ := h
  exact ⟨s, rfl⟩
theorem pin5 : ((List.range 8).all fun g => !(Af Tryz.prog g) || g == 5) = true := by kernel_rfl
theorem laid5 : (Rows.parserStatementsRow.laid.filter fun x => x.1 == "strconv.ErrRange") = [("strconv.ErrRange", Rows.laid_strconv_ErrRange)] := by kernel_rfl
theorem laid6 : ([("strconv.ErrRange", Rows.laid_strconv_ErrRange (H := Unit))].filter fun x => x.2.handleName?.isNone) = [("strconv.ErrRange", Rows.laid_strconv_ErrRange)] := by kernel_rfl
theorem iface_of {W : World} {f : Nat} {l : List Value} {n : String} {d : DataW Unit} {p : List MemPlace} (h : DataW.trod (fun _ => ()) Tryz.prog W 0 (fun _ => true) false f 154 l = some (.iface n d, p)) : ∃ te pe, l = [.iface te pe] := by
  cases f with
  | zero => simp [DataW.trod] at h
  | succ f =>
    unfold DataW.trod at h
    rw [Tryz.underlying154] at h
    split at h <;> first | exact ⟨_, _, rfl⟩ | (simp_all; done)
theorem low_ok {W : World} (hl : laidMetH Tryz.prog Rows.parserStatementsRow.laid W) (hsh : W.ShapedOpen Tryz.prog) : zO Tryz.prog W := fun g hg => by
  refine ⟨low_of_shaped hsh (by kernel_rfl) g hg, fun hp => ?_⟩
  have h5 := List.all_eq_true.1 pin5 g (List.mem_range.2 (by rw [low] at hg; exact hg))
  have e5 : g = 5 := by rw [hp] at h5; simpa using h5
  subst e5
  have h1 := hl.filter fun x => x.1 == "strconv.ErrRange"
  rw [laid5] at h1
  have h2 := (laidMetH_iff.1 h1).1
  rw [laid6] at h2
  obtain ⟨ps, hv, _, _⟩ := h2
  obtain ⟨g', t, cs, fuel, p, q, k1, k2, k3, k4, _, _⟩ := hv
  have kg : Tryz.prog.globalNamed "strconv.ErrRange" = some 5 := by kernel_rfl
  rw [kg] at k1
  cases k1
  rw [show (Tryz.prog.globals[5]?).map (·.type) = some 154 by kernel_rfl] at k2
  cases k2
  obtain ⟨te, pe, e⟩ := iface_of k4
  unfold World.var? at k3
  rw [kg] at k3
  simp only [Option.bind_some] at k3
  refine ⟨te, pe, ?_⟩
  unfold World.cell?
  split at k3
  · rename_i hh
    cases k3
    rw [show W.heap[(⟨5, 0, none⟩ : Addr).block]? = W.heap[5]? from rfl, hh]
    show cs[0]? = _
    rw [← Array.getElem?_toList, e]; rfl
  · cases k3
end Go.Proofs.YtijnechfhdlgiaaGreatDoor
