/-
  No cell of these rows narrows 'for every input' (looked for: loops, veiled, ifaces, maps, wideKeys, modest, calm, conditions, laid).
  DERIVED. THE GIVEN ROWS OF THIS SEAT. 2 by the template 'for every input the law returns true; each argument reads behind the call as it read before'; 0 by the template 'total and deterministic' (their statements: YtmpoloiempjdpaaGreatTotals.lean).
  GIVEN WITH THE SEED: the statements are not yours to turn. If you find one false, say at which input.
  Laid BY PROGRAM, IN A SANDBOX (cutbox-rows.mjs): the forced cells as the released guide's own fill.sh prints them over the translation c969564923dea412… (all of the seat's roots in one cut). By AI agents, Wed Nov 11 2026. No macro, syntax, notation, axiom, sorry.
-/
import Derived.Test.YtmpoloiempjdpaaGreatChecked
import GoSem.Claim
import GoSem.ClaimJoined
import GoSem.ClaimMapViews
import Derived.JoinedTies
import Derived.KernelRfl
namespace Go.Proofs.YtmpoloiempjdpaaGreat
/- THE CELL 'sum', in the pinned program and in every row, IS THE sha256 OF THE DUMP (.gsa) THAT YtmpoloiempjdpaaGreatProg.lean LOADS. Nothing in Lean hashes anything: it is a label: what it is worth is what the hold of that sum in a sandbox is worth. -/
noncomputable def Tryz.pinned : Pinned := { name := "ytmpoloiempjdpaagreat", sum := "c969564923dea4125f91a7b4d37141a946c0acb3a0baa59399a73d1349773dee", checked := Tryz.checked }
namespace Rows
def none {H : Type} : Left H := { results := [], args := [] }

/-- 'annalistlaw33.RetentionRemoves': WHATEVER THE INPUT: true; the input reads as it did. -/
def retentionRemovesSpec : ChangeSpec := { name := "retentionRemoves", fn := fun _ => fun
  | [d1, d2, d3] => { results := [.lit (.bool true)], args := [d1, d2, d3] }
  | _ => none }
def retentionRemovesRow : OpenClaim := { program := "ytmpoloiempjdpaagreat", sum := "c969564923dea4125f91a7b4d37141a946c0acb3a0baa59399a73d1349773dee", func := "annalist/annalistlaw33.RetentionRemoves", spec := "retentionRemoves", inPlace := ["slices.overlaps[annalist/api.Hold]"], unfollowed := true, recurses := true, apart := false }
def RetentionRemovesSaid : Prop := retentionRemovesRow.holds Tryz.pinned (OpenSpec.ofChange retentionRemovesSpec)

/-- ITS FALSE NEIGHBOUR: 'it returns false'. Refute it at one input. -/
def retentionRemovesWrong : ChangeSpec := { name := "retentionRemoves", fn := fun _ => fun
  | [d1, d2, d3] => { results := [.lit (.bool false)], args := [d1, d2, d3] }
  | _ => none }
def RetentionRemovesWrongFalsely : Prop := retentionRemovesRow.holds Tryz.pinned (OpenSpec.ofChange retentionRemovesWrong)

/-- 'annalistlaw33.RetentionHeld': WHATEVER THE INPUT: true; the input reads as it did. -/
def retentionHeldSpec : ChangeSpec := { name := "retentionHeld", fn := fun _ => fun
  | [d1, d2, d3, d4, d5] => { results := [.lit (.bool true)], args := [d1, d2, d3, d4, d5] }
  | _ => none }
def retentionHeldRow : OpenClaim := { program := "ytmpoloiempjdpaagreat", sum := "c969564923dea4125f91a7b4d37141a946c0acb3a0baa59399a73d1349773dee", func := "annalist/annalistlaw33.RetentionHeld", spec := "retentionHeld", inPlace := ["slices.overlaps[annalist/api.Hold]"], unfollowed := true, recurses := true, apart := false }
def RetentionHeldSaid : Prop := retentionHeldRow.holds Tryz.pinned (OpenSpec.ofChange retentionHeldSpec)

/-- ITS FALSE NEIGHBOUR: 'it returns false'. Refute it at one input. -/
def retentionHeldWrong : ChangeSpec := { name := "retentionHeld", fn := fun _ => fun
  | [d1, d2, d3, d4, d5] => { results := [.lit (.bool false)], args := [d1, d2, d3, d4, d5] }
  | _ => none }
def RetentionHeldWrongFalsely : Prop := retentionHeldRow.holds Tryz.pinned (OpenSpec.ofChange retentionHeldWrong)

/- THE SECOND FORM. 'bulk': how many values and letters a reading holds, each counted each time it is reached (what is shared counts as often as it is met; a slice's spare places count too). A statement '..UptoSaid' is the law's where the arguments, and the package variables that the reading takes, are together of bulk at most 1048576: NARROWER than '..Said'. Prove '..Said' where nothing that the law and all that it calls make is longer than what came in: it says more and counts as full. Else prove '..UptoSaid'. A law counts once. -/
mutual
def uptoBulk {H : Type} : DataW H → Nat
  | .lit (.string bytes) => bytes.length + 1
  | .lit _ => 1
  | .nil => 1
  | .ptr d => uptoBulk d + 1
  | .slice elems spare => uptoBulkAll elems + uptoBulkAll spare + 1
  | .agg parts => uptoBulkAll parts + 1
  | .iface _ d => uptoBulk d + 1
  | .map entries => uptoBulkEntries entries + 1
  | .held _ => 1
def uptoBulkAll {H : Type} : List (DataW H) → Nat
  | [] => 0
  | d :: r => uptoBulk d + uptoBulkAll r
def uptoBulkEntries {H : Type} : List (Lit × DataW H) → Nat
  | [] => 0
  | x :: r => uptoBulkEntry x + uptoBulkEntries r
def uptoBulkEntry {H : Type} : Lit × DataW H → Nat
  | (.string bytes, d) => bytes.length + uptoBulk d + 1
  | (_, d) => uptoBulk d + 1
 end
def uptoSmall : (H : Type) → List (DataW H) → Bool := fun _ ds => decide (uptoBulkAll ds ≤ 1048576)
def OpenSpec.upto (s : _root_.Go.ChangeSpec) : _root_.Go.OpenSpec := { _root_.Go.OpenSpec.ofChange s with cond := some uptoSmall }

/-- 'annalistlaw33.RetentionRemoves', WHERE WHAT IT READS IS OF BULK AT MOST 1048576: true; the input reads as it did. -/
def retentionRemovesUptoRow : OpenClaim := { program := "ytmpoloiempjdpaagreat", sum := "c969564923dea4125f91a7b4d37141a946c0acb3a0baa59399a73d1349773dee", func := "annalist/annalistlaw33.RetentionRemoves", spec := "retentionRemoves", inPlace := ["slices.overlaps[annalist/api.Hold]"], unfollowed := true, recurses := true, apart := false, narrowed := true }
def RetentionRemovesUptoSaid : Prop := retentionRemovesUptoRow.holds Tryz.pinned (OpenSpec.upto retentionRemovesSpec)

/-- 'annalistlaw33.RetentionHeld', WHERE WHAT IT READS IS OF BULK AT MOST 1048576: true; the input reads as it did. -/
def retentionHeldUptoRow : OpenClaim := { program := "ytmpoloiempjdpaagreat", sum := "c969564923dea4125f91a7b4d37141a946c0acb3a0baa59399a73d1349773dee", func := "annalist/annalistlaw33.RetentionHeld", spec := "retentionHeld", inPlace := ["slices.overlaps[annalist/api.Hold]"], unfollowed := true, recurses := true, apart := false, narrowed := true }
def RetentionHeldUptoSaid : Prop := retentionHeldUptoRow.holds Tryz.pinned (OpenSpec.upto retentionHeldSpec)

end Rows
end Go.Proofs.YtmpoloiempjdpaaGreat
