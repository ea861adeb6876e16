/- The table of the program's functions is the program's; the sanity check of the parser's laws returns true; what is left of ParserDepth behind its first computation. It holds for every input. -/
import Derived.Test.YtgjadkcogmpkdaaGreatDoorI1
import Derived.Test.YtgjadkcogmpkdaaGreatDoorEvSa
namespace Go.Proofs.YtgjadkcogmpkdaaGreatDoor
open Go Go.Ev
set_option maxRecDepth 100000

noncomputable def ft : Tr IFn := tabOf (rows0 ++ rows1)
theorem ft_ok : TableOk Tryz.prog ft := tabOf_ok (rows_append rows0_ok rows1_ok)
noncomputable def xt : Tr Nat := tabOf [(105, 0), (127, 1)]
theorem xt_ok : ExtOk Tryz.prog xt := fun f c h => by
  have h := tabOf_get h
  simp only [List.mem_cons, Prod.mk.injEq, List.not_mem_nil, or_false] at h
  rcases h with ⟨rfl, rfl⟩ | ⟨rfl, rfl⟩
  · exact ⟨Tryz.f105, Tryz.func105, by kernel_rfl, by kernel_rfl, by kernel_rfl, _, rfl, by kernel_rfl⟩
  · exact ⟨Tryz.f127, Tryz.func127, by kernel_rfl, by kernel_rfl, by kernel_rfl, _, rfl, by kernel_rfl⟩
theorem mix : Tryz.prog.follows .mixedOrders = true := by kernel_rfl
theorem low : Tryz.prog.globals.size = 8 := by kernel_rfl
noncomputable def call0 : CallF := evF ft xt 1000000000 1000
theorem call0_ok : CallOk Tryz.prog call0 := evF_ok mix ft_ok xt_ok 1000
theorem awake_true : okT (call0 5 [] (H0 1000)) = true := by kernel_rfl
noncomputable def call1 : CallF := evTop 5 call0
theorem call1_ok : CallOk Tryz.prog call1 := by
  obtain ⟨H, h⟩ := okT_ok awake_true
  exact evTop_ok call0_ok (by rw [low]; decide) h

noncomputable def icR (c : IC) : IC := IC.rec (motive := fun _ => IC) .skip (fun _ _ => .skip) (fun _ b _ _ => b) (fun _ _ _ _ _ => .skip) (fun _ _ _ => .skip) (fun _ _ => .skip) (fun _ => .skip) .skip c
/-- ParserDepth behind n % 70 -/
noncomputable def rest : IC := icR (icR i3.body)
theorem body3 : i3.body = .seq (.region false [⟨some kk4, none, none, .mov (.c (.bool false))⟩])
    (.seq (.region false [⟨some kk16, none, none, .mov (.t kk0)⟩, ⟨some kk17, none, none, .bin .rem (.t kk16) (.c (.int .u16 (.ofNat 70)))⟩, ⟨some kk18, none, none, .conv .i64 (.t kk17)⟩, ⟨some kk5, none, none, .mov (.t kk18)⟩]) rest) := by kernel_rfl
noncomputable def Ek (a : Int) (b : Bool) (r k : Int) : Go.Ev.Env :=
  ((((((Env.emp.set kk0 (.int .u16 a)).set kk1 (.bool b)).set kk4 (.bool false)).set kk16 (.int .u16 a)).set kk17 (.int .u16 r)).set kk18 (.int .i64 k)).set kk5 (.int .i64 k)
noncomputable def after (a : Int) (b : Bool) (r k : Int) : Res := fnEnd i3 (rest.ev call1 1000000000 (Ek a b r k) (H0 1000))
theorem open3 (a : Int) (b : Bool) : evFn call1 1000000000 i3 [.int .u16 a, .bool b] (H0 1000) = after a b (a.tmod 70) (wrapF .i64 (a.tmod 70)) := by
  rw [evFn_seq2 body3, show i3.ps = [kk0, kk1] from rfl, params_cons, params_cons, params_nil]
  have e1 : ∀ E : Go.Ev.Env, (IC.region false [⟨some kk4, none, none, .mov (.c (.bool false))⟩]).ev call1 1000000000 E (H0 1000) = .ok .normal (E.set kk4 (.bool false)) (H0 1000) := fun E => by
    rw [region_ev, evOps_plain, mov_ev, c_ev, ob_mk, fin_some, evOps_nil, ofO_mk]
  have e2 : ∀ E : Go.Ev.Env, E.get kk0 = some (.int .u16 a) → (IC.region false [⟨some kk16, none, none, .mov (.t kk0)⟩, ⟨some kk17, none, none, .bin .rem (.t kk16) (.c (.int .u16 (.ofNat 70)))⟩, ⟨some kk18, none, none, .conv .i64 (.t kk17)⟩, ⟨some kk5, none, none, .mov (.t kk18)⟩]).ev call1 1000000000 E (H0 1000) =
      .ok .normal ((((E.set kk16 (.int .u16 a)).set kk17 (.int .u16 (a.tmod 70))).set kk18 (.int .i64 (wrapF .i64 (a.tmod 70)))).set kk5 (.int .i64 (wrapF .i64 (a.tmod 70)))) (H0 1000) := fun E h0 => by
    rw [region_ev, evOps_plain, mov_ev, t_ev, h0, ob_mk, fin_some, evOps_plain, bin_ev, t_ev, c_ev, Env.get_same, ob_mk, ob_mk,
      show binA .rem (.int .u16 a) (.int .u16 (.ofNat 70)) = some (.int .u16 (a.tmod 70)) from rfl, ob_mk, fin_some, evOps_plain, conv_ev, t_ev, Env.get_same, ob_mk, onInt_mk, fin_some,
      evOps_plain, mov_ev, t_ev, Env.get_same, ob_mk, fin_some, evOps_nil, ofO_mk]
  rw [e1, onNormal_mk, e2 _ (by rw [Env.get_ne _ _ (by decide), Env.get_ne _ _ (by decide), Env.get_same]), onNormal_mk]
  rfl
end Go.Proofs.YtgjadkcogmpkdaaGreatDoor
