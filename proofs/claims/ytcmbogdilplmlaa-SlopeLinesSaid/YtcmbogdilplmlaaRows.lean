/-
  No cell of these rows narrows 'for every input' (looked for: loops, veiled, ifaces, maps, wideKeys, modest, calm, conditions, laid).
  DERIVED. THE GIVEN ROWS OF THIS SEAT. 6 by the template 'for every input the law returns true; each argument reads behind the call as it read before'; 0 by the template 'total and deterministic' (their statements: YtcmbogdilplmlaaTotals.lean).
  GIVEN WITH THE SEED: the statements are not yours to turn. If you find one false, say at which input.
  Laid BY PROGRAM, IN A SANDBOX (cutbox-rows.mjs): the forced cells as the released guide's own fill.sh prints them over the translation 7fe6685cb93e8589… (all of the seat's roots in one cut). By AI agents, Wed Nov 11 2026. No macro, syntax, notation, axiom, sorry.
-/
import Derived.Test.YtcmbogdilplmlaaChecked
import GoSem.Claim
import GoSem.ClaimJoined
import GoSem.ClaimMapViews
import Derived.JoinedTies
import Derived.KernelRfl
namespace Go.Proofs.Ytcmbogdilplmlaa
/- THE CELL 'sum', in the pinned program and in every row, IS THE sha256 OF THE DUMP (.gsa) THAT YtcmbogdilplmlaaProg.lean LOADS. Nothing in Lean hashes anything: it is a label: what it is worth is what the hold of that sum in a sandbox is worth. -/
noncomputable def Try.pinned : Pinned := { name := "ytcmbogdilplmlaa", sum := "7fe6685cb93e85898e085961359529bff0ab2200852f33cf8746e3eef6d773db", checked := Try.checked }
namespace Rows
def none {H : Type} : Left H := { results := [], args := [] }

/-- 'pacemakerlaw10.SlopeRatios': WHATEVER THE INPUT: true; the input reads as it did. -/
def slopeRatiosSpec : ChangeSpec := { name := "slopeRatios", fn := fun _ => fun
  | [d1, d2] => { results := [.lit (.bool true)], args := [d1, d2] }
  | _ => none }
def slopeRatiosRow : OpenClaim := { program := "ytcmbogdilplmlaa", sum := "7fe6685cb93e85898e085961359529bff0ab2200852f33cf8746e3eef6d773db", func := "pacemaker/pacemakerlaw10.SlopeRatios", spec := "slopeRatios", inPlace := ["math/bits.Add64", "math/bits.Sub64"], unfollowed := true, recurses := true, apart := false }
def SlopeRatiosSaid : Prop := slopeRatiosRow.holds Try.pinned (OpenSpec.ofChange slopeRatiosSpec)

/-- ITS FALSE NEIGHBOUR: 'it returns false'. Refute it at one input. -/
def slopeRatiosWrong : ChangeSpec := { name := "slopeRatios", fn := fun _ => fun
  | [d1, d2] => { results := [.lit (.bool false)], args := [d1, d2] }
  | _ => none }
def SlopeRatiosWrongFalsely : Prop := slopeRatiosRow.holds Try.pinned (OpenSpec.ofChange slopeRatiosWrong)

/-- 'pacemakerlaw10.SlopeDoes': WHATEVER THE INPUT: true; the input reads as it did. -/
def slopeDoesSpec : ChangeSpec := { name := "slopeDoes", fn := fun _ => fun
  | [d] => { results := [.lit (.bool true)], args := [d] }
  | _ => none }
def slopeDoesRow : OpenClaim := { program := "ytcmbogdilplmlaa", sum := "7fe6685cb93e85898e085961359529bff0ab2200852f33cf8746e3eef6d773db", func := "pacemaker/pacemakerlaw10.SlopeDoes", spec := "slopeDoes", inPlace := ["math/bits.Add64", "math/bits.Sub64"], unfollowed := true, recurses := true, apart := false }
def SlopeDoesSaid : Prop := slopeDoesRow.holds Try.pinned (OpenSpec.ofChange slopeDoesSpec)

/-- ITS FALSE NEIGHBOUR: 'it returns false'. Refute it at one input. -/
def slopeDoesWrong : ChangeSpec := { name := "slopeDoes", fn := fun _ => fun
  | [d] => { results := [.lit (.bool false)], args := [d] }
  | _ => none }
def SlopeDoesWrongFalsely : Prop := slopeDoesRow.holds Try.pinned (OpenSpec.ofChange slopeDoesWrong)

/-- 'pacemakerlaw10.SlopeMoves': WHATEVER THE INPUT: true; the input reads as it did. -/
def slopeMovesSpec : ChangeSpec := { name := "slopeMoves", fn := fun _ => fun
  | [d1, d2] => { results := [.lit (.bool true)], args := [d1, d2] }
  | _ => none }
def slopeMovesRow : OpenClaim := { program := "ytcmbogdilplmlaa", sum := "7fe6685cb93e85898e085961359529bff0ab2200852f33cf8746e3eef6d773db", func := "pacemaker/pacemakerlaw10.SlopeMoves", spec := "slopeMoves", inPlace := ["math/bits.Add64", "math/bits.Sub64"], unfollowed := true, recurses := true, apart := false }
def SlopeMovesSaid : Prop := slopeMovesRow.holds Try.pinned (OpenSpec.ofChange slopeMovesSpec)

/-- ITS FALSE NEIGHBOUR: 'it returns false'. Refute it at one input. -/
def slopeMovesWrong : ChangeSpec := { name := "slopeMoves", fn := fun _ => fun
  | [d1, d2] => { results := [.lit (.bool false)], args := [d1, d2] }
  | _ => none }
def SlopeMovesWrongFalsely : Prop := slopeMovesRow.holds Try.pinned (OpenSpec.ofChange slopeMovesWrong)

/-- 'pacemakerlaw10.SlopeLines': WHATEVER THE INPUT: true; the input reads as it did. -/
def slopeLinesSpec : ChangeSpec := { name := "slopeLines", fn := fun _ => fun
  | [d1, d2, d3] => { results := [.lit (.bool true)], args := [d1, d2, d3] }
  | _ => none }
def slopeLinesRow : OpenClaim := { program := "ytcmbogdilplmlaa", sum := "7fe6685cb93e85898e085961359529bff0ab2200852f33cf8746e3eef6d773db", func := "pacemaker/pacemakerlaw10.SlopeLines", spec := "slopeLines", inPlace := ["math/bits.Add64", "math/bits.Sub64"], unfollowed := true, recurses := true, apart := false }
def SlopeLinesSaid : Prop := slopeLinesRow.holds Try.pinned (OpenSpec.ofChange slopeLinesSpec)

/-- ITS FALSE NEIGHBOUR: 'it returns false'. Refute it at one input. -/
def slopeLinesWrong : ChangeSpec := { name := "slopeLines", fn := fun _ => fun
  | [d1, d2, d3] => { results := [.lit (.bool false)], args := [d1, d2, d3] }
  | _ => none }
def SlopeLinesWrongFalsely : Prop := slopeLinesRow.holds Try.pinned (OpenSpec.ofChange slopeLinesWrong)

/-- 'pacemakerlaw10.SlopeTurns': WHATEVER THE INPUT: true; the input reads as it did. -/
def slopeTurnsSpec : ChangeSpec := { name := "slopeTurns", fn := fun _ => fun
  | [d] => { results := [.lit (.bool true)], args := [d] }
  | _ => none }
def slopeTurnsRow : OpenClaim := { program := "ytcmbogdilplmlaa", sum := "7fe6685cb93e85898e085961359529bff0ab2200852f33cf8746e3eef6d773db", func := "pacemaker/pacemakerlaw10.SlopeTurns", spec := "slopeTurns", inPlace := ["math/bits.Add64", "math/bits.Sub64"], unfollowed := true, recurses := true, apart := false }
def SlopeTurnsSaid : Prop := slopeTurnsRow.holds Try.pinned (OpenSpec.ofChange slopeTurnsSpec)

/-- ITS FALSE NEIGHBOUR: 'it returns false'. Refute it at one input. -/
def slopeTurnsWrong : ChangeSpec := { name := "slopeTurns", fn := fun _ => fun
  | [d] => { results := [.lit (.bool false)], args := [d] }
  | _ => none }
def SlopeTurnsWrongFalsely : Prop := slopeTurnsRow.holds Try.pinned (OpenSpec.ofChange slopeTurnsWrong)

/-- 'pacemakerlaw10.SlopeWithin': WHATEVER THE INPUT: true; the input reads as it did. -/
def slopeWithinSpec : ChangeSpec := { name := "slopeWithin", fn := fun _ => fun
  | [d] => { results := [.lit (.bool true)], args := [d] }
  | _ => none }
def slopeWithinRow : OpenClaim := { program := "ytcmbogdilplmlaa", sum := "7fe6685cb93e85898e085961359529bff0ab2200852f33cf8746e3eef6d773db", func := "pacemaker/pacemakerlaw10.SlopeWithin", spec := "slopeWithin", inPlace := ["math/bits.Add64", "math/bits.Sub64"], unfollowed := true, recurses := true, apart := false }
def SlopeWithinSaid : Prop := slopeWithinRow.holds Try.pinned (OpenSpec.ofChange slopeWithinSpec)

/-- ITS FALSE NEIGHBOUR: 'it returns false'. Refute it at one input. -/
def slopeWithinWrong : ChangeSpec := { name := "slopeWithin", fn := fun _ => fun
  | [d] => { results := [.lit (.bool false)], args := [d] }
  | _ => none }
def SlopeWithinWrongFalsely : Prop := slopeWithinRow.holds Try.pinned (OpenSpec.ofChange slopeWithinWrong)

/- THE SECOND FORM. 'bulk': how many values and letters a reading holds, each counted each time it is reached (what is shared counts as often as it is met; a slice's spare places count too). A statement '..UptoSaid' is the law's where the arguments, and the package variables that the reading takes, are together of bulk at most 1048576: NARROWER than '..Said'. Prove '..Said' where nothing that the law and all that it calls make is longer than what came in: it says more and counts as full. Else prove '..UptoSaid'. A law counts once. -/
mutual
def uptoBulk {H : Type} : DataW H → Nat
  | .lit (.string bytes) => bytes.length + 1
  | .lit _ => 1
  | .nil => 1
  | .ptr d => uptoBulk d + 1
  | .slice elems spare => uptoBulkAll elems + uptoBulkAll spare + 1
  | .agg parts => uptoBulkAll parts + 1
  | .iface _ d => uptoBulk d + 1
  | .map entries => uptoBulkEntries entries + 1
  | .held _ => 1
def uptoBulkAll {H : Type} : List (DataW H) → Nat
  | [] => 0
  | d :: r => uptoBulk d + uptoBulkAll r
def uptoBulkEntries {H : Type} : List (Lit × DataW H) → Nat
  | [] => 0
  | x :: r => uptoBulkEntry x + uptoBulkEntries r
def uptoBulkEntry {H : Type} : Lit × DataW H → Nat
  | (.string bytes, d) => bytes.length + uptoBulk d + 1
  | (_, d) => uptoBulk d + 1
 end
def uptoSmall : (H : Type) → List (DataW H) → Bool := fun _ ds => decide (uptoBulkAll ds ≤ 1048576)
def OpenSpec.upto (s : _root_.Go.ChangeSpec) : _root_.Go.OpenSpec := { _root_.Go.OpenSpec.ofChange s with cond := some uptoSmall }

/-- 'pacemakerlaw10.SlopeRatios', WHERE WHAT IT READS IS OF BULK AT MOST 1048576: true; the input reads as it did. -/
def slopeRatiosUptoRow : OpenClaim := { program := "ytcmbogdilplmlaa", sum := "7fe6685cb93e85898e085961359529bff0ab2200852f33cf8746e3eef6d773db", func := "pacemaker/pacemakerlaw10.SlopeRatios", spec := "slopeRatios", inPlace := ["math/bits.Add64", "math/bits.Sub64"], unfollowed := true, recurses := true, apart := false, narrowed := true }
def SlopeRatiosUptoSaid : Prop := slopeRatiosUptoRow.holds Try.pinned (OpenSpec.upto slopeRatiosSpec)

/-- 'pacemakerlaw10.SlopeDoes', WHERE WHAT IT READS IS OF BULK AT MOST 1048576: true; the input reads as it did. -/
def slopeDoesUptoRow : OpenClaim := { program := "ytcmbogdilplmlaa", sum := "7fe6685cb93e85898e085961359529bff0ab2200852f33cf8746e3eef6d773db", func := "pacemaker/pacemakerlaw10.SlopeDoes", spec := "slopeDoes", inPlace := ["math/bits.Add64", "math/bits.Sub64"], unfollowed := true, recurses := true, apart := false, narrowed := true }
def SlopeDoesUptoSaid : Prop := slopeDoesUptoRow.holds Try.pinned (OpenSpec.upto slopeDoesSpec)

/-- 'pacemakerlaw10.SlopeMoves', WHERE WHAT IT READS IS OF BULK AT MOST 1048576: true; the input reads as it did. -/
def slopeMovesUptoRow : OpenClaim := { program := "ytcmbogdilplmlaa", sum := "7fe6685cb93e85898e085961359529bff0ab2200852f33cf8746e3eef6d773db", func := "pacemaker/pacemakerlaw10.SlopeMoves", spec := "slopeMoves", inPlace := ["math/bits.Add64", "math/bits.Sub64"], unfollowed := true, recurses := true, apart := false, narrowed := true }
def SlopeMovesUptoSaid : Prop := slopeMovesUptoRow.holds Try.pinned (OpenSpec.upto slopeMovesSpec)

/-- 'pacemakerlaw10.SlopeLines', WHERE WHAT IT READS IS OF BULK AT MOST 1048576: true; the input reads as it did. -/
def slopeLinesUptoRow : OpenClaim := { program := "ytcmbogdilplmlaa", sum := "7fe6685cb93e85898e085961359529bff0ab2200852f33cf8746e3eef6d773db", func := "pacemaker/pacemakerlaw10.SlopeLines", spec := "slopeLines", inPlace := ["math/bits.Add64", "math/bits.Sub64"], unfollowed := true, recurses := true, apart := false, narrowed := true }
def SlopeLinesUptoSaid : Prop := slopeLinesUptoRow.holds Try.pinned (OpenSpec.upto slopeLinesSpec)

/-- 'pacemakerlaw10.SlopeTurns', WHERE WHAT IT READS IS OF BULK AT MOST 1048576: true; the input reads as it did. -/
def slopeTurnsUptoRow : OpenClaim := { program := "ytcmbogdilplmlaa", sum := "7fe6685cb93e85898e085961359529bff0ab2200852f33cf8746e3eef6d773db", func := "pacemaker/pacemakerlaw10.SlopeTurns", spec := "slopeTurns", inPlace := ["math/bits.Add64", "math/bits.Sub64"], unfollowed := true, recurses := true, apart := false, narrowed := true }
def SlopeTurnsUptoSaid : Prop := slopeTurnsUptoRow.holds Try.pinned (OpenSpec.upto slopeTurnsSpec)

/-- 'pacemakerlaw10.SlopeWithin', WHERE WHAT IT READS IS OF BULK AT MOST 1048576: true; the input reads as it did. -/
def slopeWithinUptoRow : OpenClaim := { program := "ytcmbogdilplmlaa", sum := "7fe6685cb93e85898e085961359529bff0ab2200852f33cf8746e3eef6d773db", func := "pacemaker/pacemakerlaw10.SlopeWithin", spec := "slopeWithin", inPlace := ["math/bits.Add64", "math/bits.Sub64"], unfollowed := true, recurses := true, apart := false, narrowed := true }
def SlopeWithinUptoSaid : Prop := slopeWithinUptoRow.holds Try.pinned (OpenSpec.upto slopeWithinSpec)

end Rows
end Go.Proofs.Ytcmbogdilplmlaa
