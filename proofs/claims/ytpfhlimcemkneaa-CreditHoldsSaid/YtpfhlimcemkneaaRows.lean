/-
  No cell of these rows narrows 'for every input' (looked for: loops, veiled, ifaces, maps, wideKeys, modest, calm, conditions, laid).
  DERIVED. THE GIVEN ROWS OF THIS SEAT. 11 by the template 'for every input the law returns true; each argument reads behind the call as it read before'; 0 by the template 'total and deterministic' (their statements: YtpfhlimcemkneaaTotals.lean).
  GIVEN WITH THE SEED: the statements are not yours to turn. If you find one false, say at which input.
  Laid BY PROGRAM, IN A SANDBOX (cutbox-rows.mjs): the forced cells as the released guide's own fill.sh prints them over the translation e7dd79f67e61e9ed… (all of the seat's roots in one cut). By AI agents, Wed Nov 11 2026. No macro, syntax, notation, axiom, sorry.
-/
import Derived.Test.YtpfhlimcemkneaaChecked
import GoSem.Claim
import GoSem.ClaimJoined
import GoSem.ClaimMapViews
import Derived.JoinedTies
import Derived.KernelRfl
namespace Go.Proofs.Ytpfhlimcemkneaa
/- THE CELL 'sum', in the pinned program and in every row, IS THE sha256 OF THE DUMP (.gsa) THAT YtpfhlimcemkneaaProg.lean LOADS. Nothing in Lean hashes anything: it is a label: what it is worth is what the hold of that sum in a sandbox is worth. -/
noncomputable def Try.pinned : Pinned := { name := "ytpfhlimcemkneaa", sum := "e7dd79f67e61e9eddb5685297732a2db194abf3488b5f7ca6ce6c4dd8291d7d5", checked := Try.checked }
namespace Rows
def none {H : Type} : Left H := { results := [], args := [] }

/-- 'pacemakerlaw04.ExpoDoes': WHATEVER THE INPUT: true; the input reads as it did. -/
def expoDoesSpec : ChangeSpec := { name := "expoDoes", fn := fun _ => fun
  | [d1, d2] => { results := [.lit (.bool true)], args := [d1, d2] }
  | _ => none }
def expoDoesRow : OpenClaim := { program := "ytpfhlimcemkneaa", sum := "e7dd79f67e61e9eddb5685297732a2db194abf3488b5f7ca6ce6c4dd8291d7d5", func := "pacemaker/pacemakerlaw04.ExpoDoes", spec := "expoDoes", unfollowed := true, recurses := true, apart := false }
def ExpoDoesSaid : Prop := expoDoesRow.holds Try.pinned (OpenSpec.ofChange expoDoesSpec)

/-- ITS FALSE NEIGHBOUR: 'it returns false'. Refute it at one input. -/
def expoDoesWrong : ChangeSpec := { name := "expoDoes", fn := fun _ => fun
  | [d1, d2] => { results := [.lit (.bool false)], args := [d1, d2] }
  | _ => none }
def ExpoDoesWrongFalsely : Prop := expoDoesRow.holds Try.pinned (OpenSpec.ofChange expoDoesWrong)

/-- 'pacemakerlaw04.ExpoGrows': WHATEVER THE INPUT: true; the input reads as it did. -/
def expoGrowsSpec : ChangeSpec := { name := "expoGrows", fn := fun _ => fun
  | [d1, d2] => { results := [.lit (.bool true)], args := [d1, d2] }
  | _ => none }
def expoGrowsRow : OpenClaim := { program := "ytpfhlimcemkneaa", sum := "e7dd79f67e61e9eddb5685297732a2db194abf3488b5f7ca6ce6c4dd8291d7d5", func := "pacemaker/pacemakerlaw04.ExpoGrows", spec := "expoGrows", unfollowed := true, recurses := true, apart := false }
def ExpoGrowsSaid : Prop := expoGrowsRow.holds Try.pinned (OpenSpec.ofChange expoGrowsSpec)

/-- ITS FALSE NEIGHBOUR: 'it returns false'. Refute it at one input. -/
def expoGrowsWrong : ChangeSpec := { name := "expoGrows", fn := fun _ => fun
  | [d1, d2] => { results := [.lit (.bool false)], args := [d1, d2] }
  | _ => none }
def ExpoGrowsWrongFalsely : Prop := expoGrowsRow.holds Try.pinned (OpenSpec.ofChange expoGrowsWrong)

/-- 'pacemakerlaw04.ExpoBack': WHATEVER THE INPUT: true; the input reads as it did. -/
def expoBackSpec : ChangeSpec := { name := "expoBack", fn := fun _ => fun
  | [d] => { results := [.lit (.bool true)], args := [d] }
  | _ => none }
def expoBackRow : OpenClaim := { program := "ytpfhlimcemkneaa", sum := "e7dd79f67e61e9eddb5685297732a2db194abf3488b5f7ca6ce6c4dd8291d7d5", func := "pacemaker/pacemakerlaw04.ExpoBack", spec := "expoBack", unfollowed := true, recurses := true, apart := false }
def ExpoBackSaid : Prop := expoBackRow.holds Try.pinned (OpenSpec.ofChange expoBackSpec)

/-- ITS FALSE NEIGHBOUR: 'it returns false'. Refute it at one input. -/
def expoBackWrong : ChangeSpec := { name := "expoBack", fn := fun _ => fun
  | [d] => { results := [.lit (.bool false)], args := [d] }
  | _ => none }
def ExpoBackWrongFalsely : Prop := expoBackRow.holds Try.pinned (OpenSpec.ofChange expoBackWrong)

/-- 'pacemakerlaw04.ExpoLog': WHATEVER THE INPUT: true; the input reads as it did. -/
def expoLogSpec : ChangeSpec := { name := "expoLog", fn := fun _ => fun
  | [d] => { results := [.lit (.bool true)], args := [d] }
  | _ => none }
def expoLogRow : OpenClaim := { program := "ytpfhlimcemkneaa", sum := "e7dd79f67e61e9eddb5685297732a2db194abf3488b5f7ca6ce6c4dd8291d7d5", func := "pacemaker/pacemakerlaw04.ExpoLog", spec := "expoLog", unfollowed := true, recurses := true, apart := false }
def ExpoLogSaid : Prop := expoLogRow.holds Try.pinned (OpenSpec.ofChange expoLogSpec)

/-- ITS FALSE NEIGHBOUR: 'it returns false'. Refute it at one input. -/
def expoLogWrong : ChangeSpec := { name := "expoLog", fn := fun _ => fun
  | [d] => { results := [.lit (.bool false)], args := [d] }
  | _ => none }
def ExpoLogWrongFalsely : Prop := expoLogRow.holds Try.pinned (OpenSpec.ofChange expoLogWrong)

/-- 'pacemakerlaw04.ExpoDoubles': WHATEVER THE INPUT: true; the input reads as it did. -/
def expoDoublesSpec : ChangeSpec := { name := "expoDoubles", fn := fun _ => fun
  | [d] => { results := [.lit (.bool true)], args := [d] }
  | _ => none }
def expoDoublesRow : OpenClaim := { program := "ytpfhlimcemkneaa", sum := "e7dd79f67e61e9eddb5685297732a2db194abf3488b5f7ca6ce6c4dd8291d7d5", func := "pacemaker/pacemakerlaw04.ExpoDoubles", spec := "expoDoubles", unfollowed := true, recurses := true, apart := false }
def ExpoDoublesSaid : Prop := expoDoublesRow.holds Try.pinned (OpenSpec.ofChange expoDoublesSpec)

/-- ITS FALSE NEIGHBOUR: 'it returns false'. Refute it at one input. -/
def expoDoublesWrong : ChangeSpec := { name := "expoDoubles", fn := fun _ => fun
  | [d] => { results := [.lit (.bool false)], args := [d] }
  | _ => none }
def ExpoDoublesWrongFalsely : Prop := expoDoublesRow.holds Try.pinned (OpenSpec.ofChange expoDoublesWrong)

/-- 'pacemakerlaw04.ExpoWhole': WHATEVER THE INPUT: true; the input reads as it did. -/
def expoWholeSpec : ChangeSpec := { name := "expoWhole", fn := fun _ => fun
  | [d] => { results := [.lit (.bool true)], args := [d] }
  | _ => none }
def expoWholeRow : OpenClaim := { program := "ytpfhlimcemkneaa", sum := "e7dd79f67e61e9eddb5685297732a2db194abf3488b5f7ca6ce6c4dd8291d7d5", func := "pacemaker/pacemakerlaw04.ExpoWhole", spec := "expoWhole", unfollowed := true, recurses := true, apart := false }
def ExpoWholeSaid : Prop := expoWholeRow.holds Try.pinned (OpenSpec.ofChange expoWholeSpec)

/-- ITS FALSE NEIGHBOUR: 'it returns false'. Refute it at one input. -/
def expoWholeWrong : ChangeSpec := { name := "expoWhole", fn := fun _ => fun
  | [d] => { results := [.lit (.bool false)], args := [d] }
  | _ => none }
def ExpoWholeWrongFalsely : Prop := expoWholeRow.holds Try.pinned (OpenSpec.ofChange expoWholeWrong)

/-- 'pacemakerlaw25.CreditDoes': WHATEVER THE INPUT: true; the input reads as it did. -/
def creditDoesSpec : ChangeSpec := { name := "creditDoes", fn := fun _ => fun
  | [d1, d2, d3, d4, d5] => { results := [.lit (.bool true)], args := [d1, d2, d3, d4, d5] }
  | _ => none }
def creditDoesRow : OpenClaim := { program := "ytpfhlimcemkneaa", sum := "e7dd79f67e61e9eddb5685297732a2db194abf3488b5f7ca6ce6c4dd8291d7d5", func := "pacemaker/pacemakerlaw25.CreditDoes", spec := "creditDoes", inPlace := ["math/bits.Add64", "math/bits.Sub64"], unfollowed := true, recurses := true, named := ["math/bits.divideError", "math/bits.overflowError"], apart := false }
def CreditDoesSaid : Prop := creditDoesRow.holds Try.pinned (OpenSpec.ofChange creditDoesSpec)

/-- ITS FALSE NEIGHBOUR: 'it returns false'. Refute it at one input. -/
def creditDoesWrong : ChangeSpec := { name := "creditDoes", fn := fun _ => fun
  | [d1, d2, d3, d4, d5] => { results := [.lit (.bool false)], args := [d1, d2, d3, d4, d5] }
  | _ => none }
def CreditDoesWrongFalsely : Prop := creditDoesRow.holds Try.pinned (OpenSpec.ofChange creditDoesWrong)

/-- 'pacemakerlaw25.CreditHolds': WHATEVER THE INPUT: true; the input reads as it did. -/
def creditHoldsSpec : ChangeSpec := { name := "creditHolds", fn := fun _ => fun
  | [d1, d2, d3] => { results := [.lit (.bool true)], args := [d1, d2, d3] }
  | _ => none }
def creditHoldsRow : OpenClaim := { program := "ytpfhlimcemkneaa", sum := "e7dd79f67e61e9eddb5685297732a2db194abf3488b5f7ca6ce6c4dd8291d7d5", func := "pacemaker/pacemakerlaw25.CreditHolds", spec := "creditHolds", inPlace := ["math/bits.Add64", "math/bits.Sub64"], unfollowed := true, recurses := true, named := ["math/bits.divideError", "math/bits.overflowError"], apart := false }
def CreditHoldsSaid : Prop := creditHoldsRow.holds Try.pinned (OpenSpec.ofChange creditHoldsSpec)

/-- ITS FALSE NEIGHBOUR: 'it returns false'. Refute it at one input. -/
def creditHoldsWrong : ChangeSpec := { name := "creditHolds", fn := fun _ => fun
  | [d1, d2, d3] => { results := [.lit (.bool false)], args := [d1, d2, d3] }
  | _ => none }
def CreditHoldsWrongFalsely : Prop := creditHoldsRow.holds Try.pinned (OpenSpec.ofChange creditHoldsWrong)

/-- 'pacemakerlaw25.CreditFlows': WHATEVER THE INPUT: true; the input reads as it did. -/
def creditFlowsSpec : ChangeSpec := { name := "creditFlows", fn := fun _ => fun
  | [d1, d2, d3, d4] => { results := [.lit (.bool true)], args := [d1, d2, d3, d4] }
  | _ => none }
def creditFlowsRow : OpenClaim := { program := "ytpfhlimcemkneaa", sum := "e7dd79f67e61e9eddb5685297732a2db194abf3488b5f7ca6ce6c4dd8291d7d5", func := "pacemaker/pacemakerlaw25.CreditFlows", spec := "creditFlows", inPlace := ["math/bits.Add64", "math/bits.Sub64"], unfollowed := true, recurses := true, named := ["math/bits.divideError", "math/bits.overflowError"], apart := false }
def CreditFlowsSaid : Prop := creditFlowsRow.holds Try.pinned (OpenSpec.ofChange creditFlowsSpec)

/-- ITS FALSE NEIGHBOUR: 'it returns false'. Refute it at one input. -/
def creditFlowsWrong : ChangeSpec := { name := "creditFlows", fn := fun _ => fun
  | [d1, d2, d3, d4] => { results := [.lit (.bool false)], args := [d1, d2, d3, d4] }
  | _ => none }
def CreditFlowsWrongFalsely : Prop := creditFlowsRow.holds Try.pinned (OpenSpec.ofChange creditFlowsWrong)

/-- 'pacemakerlaw25.CreditWaits': WHATEVER THE INPUT: true; the input reads as it did. -/
def creditWaitsSpec : ChangeSpec := { name := "creditWaits", fn := fun _ => fun
  | [d1, d2, d3, d4] => { results := [.lit (.bool true)], args := [d1, d2, d3, d4] }
  | _ => none }
def creditWaitsRow : OpenClaim := { program := "ytpfhlimcemkneaa", sum := "e7dd79f67e61e9eddb5685297732a2db194abf3488b5f7ca6ce6c4dd8291d7d5", func := "pacemaker/pacemakerlaw25.CreditWaits", spec := "creditWaits", inPlace := ["math/bits.Add64", "math/bits.Sub64"], unfollowed := true, recurses := true, named := ["math/bits.divideError", "math/bits.overflowError"], apart := false }
def CreditWaitsSaid : Prop := creditWaitsRow.holds Try.pinned (OpenSpec.ofChange creditWaitsSpec)

/-- ITS FALSE NEIGHBOUR: 'it returns false'. Refute it at one input. -/
def creditWaitsWrong : ChangeSpec := { name := "creditWaits", fn := fun _ => fun
  | [d1, d2, d3, d4] => { results := [.lit (.bool false)], args := [d1, d2, d3, d4] }
  | _ => none }
def CreditWaitsWrongFalsely : Prop := creditWaitsRow.holds Try.pinned (OpenSpec.ofChange creditWaitsWrong)

/-- 'pacemakerlaw25.CreditSplits': WHATEVER THE INPUT: true; the input reads as it did. -/
def creditSplitsSpec : ChangeSpec := { name := "creditSplits", fn := fun _ => fun
  | [d1, d2, d3, d4, d5, d6] => { results := [.lit (.bool true)], args := [d1, d2, d3, d4, d5, d6] }
  | _ => none }
def creditSplitsRow : OpenClaim := { program := "ytpfhlimcemkneaa", sum := "e7dd79f67e61e9eddb5685297732a2db194abf3488b5f7ca6ce6c4dd8291d7d5", func := "pacemaker/pacemakerlaw25.CreditSplits", spec := "creditSplits", inPlace := ["math/bits.Add64", "math/bits.Sub64"], unfollowed := true, recurses := true, named := ["math/bits.divideError", "math/bits.overflowError"], apart := false }
def CreditSplitsSaid : Prop := creditSplitsRow.holds Try.pinned (OpenSpec.ofChange creditSplitsSpec)

/-- ITS FALSE NEIGHBOUR: 'it returns false'. Refute it at one input. -/
def creditSplitsWrong : ChangeSpec := { name := "creditSplits", fn := fun _ => fun
  | [d1, d2, d3, d4, d5, d6] => { results := [.lit (.bool false)], args := [d1, d2, d3, d4, d5, d6] }
  | _ => none }
def CreditSplitsWrongFalsely : Prop := creditSplitsRow.holds Try.pinned (OpenSpec.ofChange creditSplitsWrong)

/- THE SECOND FORM. 'bulk': how many values and letters a reading holds, each counted each time it is reached (what is shared counts as often as it is met; a slice's spare places count too). A statement '..UptoSaid' is the law's where the arguments, and the package variables that the reading takes, are together of bulk at most 1048576: NARROWER than '..Said'. Prove '..Said' where nothing that the law and all that it calls make is longer than what came in: it says more and counts as full. Else prove '..UptoSaid'. A law counts once. -/
mutual
def uptoBulk {H : Type} : DataW H → Nat
  | .lit (.string bytes) => bytes.length + 1
  | .lit _ => 1
  | .nil => 1
  | .ptr d => uptoBulk d + 1
  | .slice elems spare => uptoBulkAll elems + uptoBulkAll spare + 1
  | .agg parts => uptoBulkAll parts + 1
  | .iface _ d => uptoBulk d + 1
  | .map entries => uptoBulkEntries entries + 1
  | .held _ => 1
def uptoBulkAll {H : Type} : List (DataW H) → Nat
  | [] => 0
  | d :: r => uptoBulk d + uptoBulkAll r
def uptoBulkEntries {H : Type} : List (Lit × DataW H) → Nat
  | [] => 0
  | x :: r => uptoBulkEntry x + uptoBulkEntries r
def uptoBulkEntry {H : Type} : Lit × DataW H → Nat
  | (.string bytes, d) => bytes.length + uptoBulk d + 1
  | (_, d) => uptoBulk d + 1
 end
def uptoSmall : (H : Type) → List (DataW H) → Bool := fun _ ds => decide (uptoBulkAll ds ≤ 1048576)
def OpenSpec.upto (s : _root_.Go.ChangeSpec) : _root_.Go.OpenSpec := { _root_.Go.OpenSpec.ofChange s with cond := some uptoSmall }

/-- 'pacemakerlaw04.ExpoDoes', WHERE WHAT IT READS IS OF BULK AT MOST 1048576: true; the input reads as it did. -/
def expoDoesUptoRow : OpenClaim := { program := "ytpfhlimcemkneaa", sum := "e7dd79f67e61e9eddb5685297732a2db194abf3488b5f7ca6ce6c4dd8291d7d5", func := "pacemaker/pacemakerlaw04.ExpoDoes", spec := "expoDoes", unfollowed := true, recurses := true, apart := false, narrowed := true }
def ExpoDoesUptoSaid : Prop := expoDoesUptoRow.holds Try.pinned (OpenSpec.upto expoDoesSpec)

/-- 'pacemakerlaw04.ExpoGrows', WHERE WHAT IT READS IS OF BULK AT MOST 1048576: true; the input reads as it did. -/
def expoGrowsUptoRow : OpenClaim := { program := "ytpfhlimcemkneaa", sum := "e7dd79f67e61e9eddb5685297732a2db194abf3488b5f7ca6ce6c4dd8291d7d5", func := "pacemaker/pacemakerlaw04.ExpoGrows", spec := "expoGrows", unfollowed := true, recurses := true, apart := false, narrowed := true }
def ExpoGrowsUptoSaid : Prop := expoGrowsUptoRow.holds Try.pinned (OpenSpec.upto expoGrowsSpec)

/-- 'pacemakerlaw04.ExpoBack', WHERE WHAT IT READS IS OF BULK AT MOST 1048576: true; the input reads as it did. -/
def expoBackUptoRow : OpenClaim := { program := "ytpfhlimcemkneaa", sum := "e7dd79f67e61e9eddb5685297732a2db194abf3488b5f7ca6ce6c4dd8291d7d5", func := "pacemaker/pacemakerlaw04.ExpoBack", spec := "expoBack", unfollowed := true, recurses := true, apart := false, narrowed := true }
def ExpoBackUptoSaid : Prop := expoBackUptoRow.holds Try.pinned (OpenSpec.upto expoBackSpec)

/-- 'pacemakerlaw04.ExpoLog', WHERE WHAT IT READS IS OF BULK AT MOST 1048576: true; the input reads as it did. -/
def expoLogUptoRow : OpenClaim := { program := "ytpfhlimcemkneaa", sum := "e7dd79f67e61e9eddb5685297732a2db194abf3488b5f7ca6ce6c4dd8291d7d5", func := "pacemaker/pacemakerlaw04.ExpoLog", spec := "expoLog", unfollowed := true, recurses := true, apart := false, narrowed := true }
def ExpoLogUptoSaid : Prop := expoLogUptoRow.holds Try.pinned (OpenSpec.upto expoLogSpec)

/-- 'pacemakerlaw04.ExpoDoubles', WHERE WHAT IT READS IS OF BULK AT MOST 1048576: true; the input reads as it did. -/
def expoDoublesUptoRow : OpenClaim := { program := "ytpfhlimcemkneaa", sum := "e7dd79f67e61e9eddb5685297732a2db194abf3488b5f7ca6ce6c4dd8291d7d5", func := "pacemaker/pacemakerlaw04.ExpoDoubles", spec := "expoDoubles", unfollowed := true, recurses := true, apart := false, narrowed := true }
def ExpoDoublesUptoSaid : Prop := expoDoublesUptoRow.holds Try.pinned (OpenSpec.upto expoDoublesSpec)

/-- 'pacemakerlaw04.ExpoWhole', WHERE WHAT IT READS IS OF BULK AT MOST 1048576: true; the input reads as it did. -/
def expoWholeUptoRow : OpenClaim := { program := "ytpfhlimcemkneaa", sum := "e7dd79f67e61e9eddb5685297732a2db194abf3488b5f7ca6ce6c4dd8291d7d5", func := "pacemaker/pacemakerlaw04.ExpoWhole", spec := "expoWhole", unfollowed := true, recurses := true, apart := false, narrowed := true }
def ExpoWholeUptoSaid : Prop := expoWholeUptoRow.holds Try.pinned (OpenSpec.upto expoWholeSpec)

/-- 'pacemakerlaw25.CreditDoes', WHERE WHAT IT READS IS OF BULK AT MOST 1048576: true; the input reads as it did. -/
def creditDoesUptoRow : OpenClaim := { program := "ytpfhlimcemkneaa", sum := "e7dd79f67e61e9eddb5685297732a2db194abf3488b5f7ca6ce6c4dd8291d7d5", func := "pacemaker/pacemakerlaw25.CreditDoes", spec := "creditDoes", inPlace := ["math/bits.Add64", "math/bits.Sub64"], unfollowed := true, recurses := true, named := ["math/bits.divideError", "math/bits.overflowError"], apart := false, narrowed := true }
def CreditDoesUptoSaid : Prop := creditDoesUptoRow.holds Try.pinned (OpenSpec.upto creditDoesSpec)

/-- 'pacemakerlaw25.CreditHolds', WHERE WHAT IT READS IS OF BULK AT MOST 1048576: true; the input reads as it did. -/
def creditHoldsUptoRow : OpenClaim := { program := "ytpfhlimcemkneaa", sum := "e7dd79f67e61e9eddb5685297732a2db194abf3488b5f7ca6ce6c4dd8291d7d5", func := "pacemaker/pacemakerlaw25.CreditHolds", spec := "creditHolds", inPlace := ["math/bits.Add64", "math/bits.Sub64"], unfollowed := true, recurses := true, named := ["math/bits.divideError", "math/bits.overflowError"], apart := false, narrowed := true }
def CreditHoldsUptoSaid : Prop := creditHoldsUptoRow.holds Try.pinned (OpenSpec.upto creditHoldsSpec)

/-- 'pacemakerlaw25.CreditFlows', WHERE WHAT IT READS IS OF BULK AT MOST 1048576: true; the input reads as it did. -/
def creditFlowsUptoRow : OpenClaim := { program := "ytpfhlimcemkneaa", sum := "e7dd79f67e61e9eddb5685297732a2db194abf3488b5f7ca6ce6c4dd8291d7d5", func := "pacemaker/pacemakerlaw25.CreditFlows", spec := "creditFlows", inPlace := ["math/bits.Add64", "math/bits.Sub64"], unfollowed := true, recurses := true, named := ["math/bits.divideError", "math/bits.overflowError"], apart := false, narrowed := true }
def CreditFlowsUptoSaid : Prop := creditFlowsUptoRow.holds Try.pinned (OpenSpec.upto creditFlowsSpec)

/-- 'pacemakerlaw25.CreditWaits', WHERE WHAT IT READS IS OF BULK AT MOST 1048576: true; the input reads as it did. -/
def creditWaitsUptoRow : OpenClaim := { program := "ytpfhlimcemkneaa", sum := "e7dd79f67e61e9eddb5685297732a2db194abf3488b5f7ca6ce6c4dd8291d7d5", func := "pacemaker/pacemakerlaw25.CreditWaits", spec := "creditWaits", inPlace := ["math/bits.Add64", "math/bits.Sub64"], unfollowed := true, recurses := true, named := ["math/bits.divideError", "math/bits.overflowError"], apart := false, narrowed := true }
def CreditWaitsUptoSaid : Prop := creditWaitsUptoRow.holds Try.pinned (OpenSpec.upto creditWaitsSpec)

/-- 'pacemakerlaw25.CreditSplits', WHERE WHAT IT READS IS OF BULK AT MOST 1048576: true; the input reads as it did. -/
def creditSplitsUptoRow : OpenClaim := { program := "ytpfhlimcemkneaa", sum := "e7dd79f67e61e9eddb5685297732a2db194abf3488b5f7ca6ce6c4dd8291d7d5", func := "pacemaker/pacemakerlaw25.CreditSplits", spec := "creditSplits", inPlace := ["math/bits.Add64", "math/bits.Sub64"], unfollowed := true, recurses := true, named := ["math/bits.divideError", "math/bits.overflowError"], apart := false, narrowed := true }
def CreditSplitsUptoSaid : Prop := creditSplitsUptoRow.holds Try.pinned (OpenSpec.upto creditSplitsSpec)

end Rows
end Go.Proofs.Ytpfhlimcemkneaa
