/-
  No cell of these rows narrows 'for every input' (looked for: loops, veiled, ifaces, maps, wideKeys, modest, calm, conditions, laid).
  DERIVED. THE GIVEN ROWS OF THIS SEAT. 11 by the template 'for every input the law returns true; each argument reads behind the call as it read before'; 0 by the template 'total and deterministic' (their statements: YtlmjghmofgmofaaTotals.lean).
  GIVEN WITH THE SEED: the statements are not yours to turn. If you find one false, say at which input.
  Laid BY PROGRAM, IN A SANDBOX (cutbox-rows.mjs): the forced cells as the released guide's own fill.sh prints them over the translation a2bb022e8003fcc1… (all of the seat's roots in one cut). By AI agents, Wed Nov 11 2026. No macro, syntax, notation, axiom, sorry.
-/
import Derived.Test.YtlmjghmofgmofaaChecked
import GoSem.Claim
import GoSem.ClaimJoined
import GoSem.ClaimMapViews
import Derived.JoinedTies
import Derived.KernelRfl
namespace Go.Proofs.Ytlmjghmofgmofaa
/- THE CELL 'sum', in the pinned program and in every row, IS THE sha256 OF THE DUMP (.gsa) THAT YtlmjghmofgmofaaProg.lean LOADS. Nothing in Lean hashes anything: it is a label: what it is worth is what the hold of that sum in a sandbox is worth. -/
noncomputable def Try.pinned : Pinned := { name := "ytlmjghmofgmofaa", sum := "a2bb022e8003fcc1828da96a4535b737b0e3dc2da6ff91809e5539538d2741d5", checked := Try.checked }
namespace Rows
def none {H : Type} : Left H := { results := [], args := [] }

/-- 'pacemakerlaw03.RootDoes': WHATEVER THE INPUT: true; the input reads as it did. -/
def rootDoesSpec : ChangeSpec := { name := "rootDoes", fn := fun _ => fun
  | [d1, d2, d3, d4] => { results := [.lit (.bool true)], args := [d1, d2, d3, d4] }
  | _ => none }
def rootDoesRow : OpenClaim := { program := "ytlmjghmofgmofaa", sum := "a2bb022e8003fcc1828da96a4535b737b0e3dc2da6ff91809e5539538d2741d5", func := "pacemaker/pacemakerlaw03.RootDoes", spec := "rootDoes", apart := false }
def RootDoesSaid : Prop := rootDoesRow.holds Try.pinned (OpenSpec.ofChange rootDoesSpec)

/-- ITS FALSE NEIGHBOUR: 'it returns false'. Refute it at one input. -/
def rootDoesWrong : ChangeSpec := { name := "rootDoes", fn := fun _ => fun
  | [d1, d2, d3, d4] => { results := [.lit (.bool false)], args := [d1, d2, d3, d4] }
  | _ => none }
def RootDoesWrongFalsely : Prop := rootDoesRow.holds Try.pinned (OpenSpec.ofChange rootDoesWrong)

/-- 'pacemakerlaw03.RootSquares': WHATEVER THE INPUT: true; the input reads as it did. -/
def rootSquaresSpec : ChangeSpec := { name := "rootSquares", fn := fun _ => fun
  | [d] => { results := [.lit (.bool true)], args := [d] }
  | _ => none }
def rootSquaresRow : OpenClaim := { program := "ytlmjghmofgmofaa", sum := "a2bb022e8003fcc1828da96a4535b737b0e3dc2da6ff91809e5539538d2741d5", func := "pacemaker/pacemakerlaw03.RootSquares", spec := "rootSquares", apart := false }
def RootSquaresSaid : Prop := rootSquaresRow.holds Try.pinned (OpenSpec.ofChange rootSquaresSpec)

/-- ITS FALSE NEIGHBOUR: 'it returns false'. Refute it at one input. -/
def rootSquaresWrong : ChangeSpec := { name := "rootSquares", fn := fun _ => fun
  | [d] => { results := [.lit (.bool false)], args := [d] }
  | _ => none }
def RootSquaresWrongFalsely : Prop := rootSquaresRow.holds Try.pinned (OpenSpec.ofChange rootSquaresWrong)

/-- 'pacemakerlaw03.RootMean': WHATEVER THE INPUT: true; the input reads as it did. -/
def rootMeanSpec : ChangeSpec := { name := "rootMean", fn := fun _ => fun
  | [d1, d2] => { results := [.lit (.bool true)], args := [d1, d2] }
  | _ => none }
def rootMeanRow : OpenClaim := { program := "ytlmjghmofgmofaa", sum := "a2bb022e8003fcc1828da96a4535b737b0e3dc2da6ff91809e5539538d2741d5", func := "pacemaker/pacemakerlaw03.RootMean", spec := "rootMean", apart := false }
def RootMeanSaid : Prop := rootMeanRow.holds Try.pinned (OpenSpec.ofChange rootMeanSpec)

/-- ITS FALSE NEIGHBOUR: 'it returns false'. Refute it at one input. -/
def rootMeanWrong : ChangeSpec := { name := "rootMean", fn := fun _ => fun
  | [d1, d2] => { results := [.lit (.bool false)], args := [d1, d2] }
  | _ => none }
def RootMeanWrongFalsely : Prop := rootMeanRow.holds Try.pinned (OpenSpec.ofChange rootMeanWrong)

/-- 'pacemakerlaw03.RootFixed': WHATEVER THE INPUT: true; the input reads as it did. -/
def rootFixedSpec : ChangeSpec := { name := "rootFixed", fn := fun _ => fun
  | [d] => { results := [.lit (.bool true)], args := [d] }
  | _ => none }
def rootFixedRow : OpenClaim := { program := "ytlmjghmofgmofaa", sum := "a2bb022e8003fcc1828da96a4535b737b0e3dc2da6ff91809e5539538d2741d5", func := "pacemaker/pacemakerlaw03.RootFixed", spec := "rootFixed", apart := false }
def RootFixedSaid : Prop := rootFixedRow.holds Try.pinned (OpenSpec.ofChange rootFixedSpec)

/-- ITS FALSE NEIGHBOUR: 'it returns false'. Refute it at one input. -/
def rootFixedWrong : ChangeSpec := { name := "rootFixed", fn := fun _ => fun
  | [d] => { results := [.lit (.bool false)], args := [d] }
  | _ => none }
def RootFixedWrongFalsely : Prop := rootFixedRow.holds Try.pinned (OpenSpec.ofChange rootFixedWrong)

/-- 'pacemakerlaw03.RootBack': WHATEVER THE INPUT: true; the input reads as it did. -/
def rootBackSpec : ChangeSpec := { name := "rootBack", fn := fun _ => fun
  | [d1, d2, d3] => { results := [.lit (.bool true)], args := [d1, d2, d3] }
  | _ => none }
def rootBackRow : OpenClaim := { program := "ytlmjghmofgmofaa", sum := "a2bb022e8003fcc1828da96a4535b737b0e3dc2da6ff91809e5539538d2741d5", func := "pacemaker/pacemakerlaw03.RootBack", spec := "rootBack", inPlace := ["math/bits.Add64"], apart := false }
def RootBackSaid : Prop := rootBackRow.holds Try.pinned (OpenSpec.ofChange rootBackSpec)

/-- ITS FALSE NEIGHBOUR: 'it returns false'. Refute it at one input. -/
def rootBackWrong : ChangeSpec := { name := "rootBack", fn := fun _ => fun
  | [d1, d2, d3] => { results := [.lit (.bool false)], args := [d1, d2, d3] }
  | _ => none }
def RootBackWrongFalsely : Prop := rootBackRow.holds Try.pinned (OpenSpec.ofChange rootBackWrong)

/-- 'pacemakerlaw01.WideMuls': WHATEVER THE INPUT: true; the input reads as it did. -/
def wideMulsSpec : ChangeSpec := { name := "wideMuls", fn := fun _ => fun
  | [d1, d2, d3] => { results := [.lit (.bool true)], args := [d1, d2, d3] }
  | _ => none }
def wideMulsRow : OpenClaim := { program := "ytlmjghmofgmofaa", sum := "a2bb022e8003fcc1828da96a4535b737b0e3dc2da6ff91809e5539538d2741d5", func := "pacemaker/pacemakerlaw01.WideMuls", spec := "wideMuls", inPlace := ["math/bits.Sub64"], named := ["math/bits.divideError", "math/bits.overflowError"], apart := false }
def WideMulsSaid : Prop := wideMulsRow.holds Try.pinned (OpenSpec.ofChange wideMulsSpec)

/-- ITS FALSE NEIGHBOUR: 'it returns false'. Refute it at one input. -/
def wideMulsWrong : ChangeSpec := { name := "wideMuls", fn := fun _ => fun
  | [d1, d2, d3] => { results := [.lit (.bool false)], args := [d1, d2, d3] }
  | _ => none }
def WideMulsWrongFalsely : Prop := wideMulsRow.holds Try.pinned (OpenSpec.ofChange wideMulsWrong)

/-- 'pacemakerlaw01.WideWhole': WHATEVER THE INPUT: true; the input reads as it did. -/
def wideWholeSpec : ChangeSpec := { name := "wideWhole", fn := fun _ => fun
  | [d1, d2, d3, d4] => { results := [.lit (.bool true)], args := [d1, d2, d3, d4] }
  | _ => none }
def wideWholeRow : OpenClaim := { program := "ytlmjghmofgmofaa", sum := "a2bb022e8003fcc1828da96a4535b737b0e3dc2da6ff91809e5539538d2741d5", func := "pacemaker/pacemakerlaw01.WideWhole", spec := "wideWhole", inPlace := ["math/bits.Sub64", "math/bits.Add64"], named := ["math/bits.divideError", "math/bits.overflowError"], apart := false }
def WideWholeSaid : Prop := wideWholeRow.holds Try.pinned (OpenSpec.ofChange wideWholeSpec)

/-- ITS FALSE NEIGHBOUR: 'it returns false'. Refute it at one input. -/
def wideWholeWrong : ChangeSpec := { name := "wideWhole", fn := fun _ => fun
  | [d1, d2, d3, d4] => { results := [.lit (.bool false)], args := [d1, d2, d3, d4] }
  | _ => none }
def WideWholeWrongFalsely : Prop := wideWholeRow.holds Try.pinned (OpenSpec.ofChange wideWholeWrong)

/-- 'pacemakerlaw01.WideShifts': WHATEVER THE INPUT: true; the input reads as it did. -/
def wideShiftsSpec : ChangeSpec := { name := "wideShifts", fn := fun _ => fun
  | [d1, d2] => { results := [.lit (.bool true)], args := [d1, d2] }
  | _ => none }
def wideShiftsRow : OpenClaim := { program := "ytlmjghmofgmofaa", sum := "a2bb022e8003fcc1828da96a4535b737b0e3dc2da6ff91809e5539538d2741d5", func := "pacemaker/pacemakerlaw01.WideShifts", spec := "wideShifts", inPlace := ["math/bits.Sub64"], named := ["math/bits.divideError", "math/bits.overflowError"], apart := false }
def WideShiftsSaid : Prop := wideShiftsRow.holds Try.pinned (OpenSpec.ofChange wideShiftsSpec)

/-- ITS FALSE NEIGHBOUR: 'it returns false'. Refute it at one input. -/
def wideShiftsWrong : ChangeSpec := { name := "wideShifts", fn := fun _ => fun
  | [d1, d2] => { results := [.lit (.bool false)], args := [d1, d2] }
  | _ => none }
def WideShiftsWrongFalsely : Prop := wideShiftsRow.holds Try.pinned (OpenSpec.ofChange wideShiftsWrong)

/-- 'pacemakerlaw01.WideSums': WHATEVER THE INPUT: true; the input reads as it did. -/
def wideSumsSpec : ChangeSpec := { name := "wideSums", fn := fun _ => fun
  | [d1, d2] => { results := [.lit (.bool true)], args := [d1, d2] }
  | _ => none }
def wideSumsRow : OpenClaim := { program := "ytlmjghmofgmofaa", sum := "a2bb022e8003fcc1828da96a4535b737b0e3dc2da6ff91809e5539538d2741d5", func := "pacemaker/pacemakerlaw01.WideSums", spec := "wideSums", inPlace := ["math/bits.Add64", "math/bits.Sub64"], named := ["math/bits.divideError", "math/bits.overflowError"], apart := false }
def WideSumsSaid : Prop := wideSumsRow.holds Try.pinned (OpenSpec.ofChange wideSumsSpec)

/-- ITS FALSE NEIGHBOUR: 'it returns false'. Refute it at one input. -/
def wideSumsWrong : ChangeSpec := { name := "wideSums", fn := fun _ => fun
  | [d1, d2] => { results := [.lit (.bool false)], args := [d1, d2] }
  | _ => none }
def WideSumsWrongFalsely : Prop := wideSumsRow.holds Try.pinned (OpenSpec.ofChange wideSumsWrong)

/-- 'pacemakerlaw01.WideBack': WHATEVER THE INPUT: true; the input reads as it did. -/
def wideBackSpec : ChangeSpec := { name := "wideBack", fn := fun _ => fun
  | [d1, d2, d3] => { results := [.lit (.bool true)], args := [d1, d2, d3] }
  | _ => none }
def wideBackRow : OpenClaim := { program := "ytlmjghmofgmofaa", sum := "a2bb022e8003fcc1828da96a4535b737b0e3dc2da6ff91809e5539538d2741d5", func := "pacemaker/pacemakerlaw01.WideBack", spec := "wideBack", inPlace := ["math/bits.Add64", "math/bits.Sub64"], named := ["math/bits.divideError", "math/bits.overflowError"], apart := false }
def WideBackSaid : Prop := wideBackRow.holds Try.pinned (OpenSpec.ofChange wideBackSpec)

/-- ITS FALSE NEIGHBOUR: 'it returns false'. Refute it at one input. -/
def wideBackWrong : ChangeSpec := { name := "wideBack", fn := fun _ => fun
  | [d1, d2, d3] => { results := [.lit (.bool false)], args := [d1, d2, d3] }
  | _ => none }
def WideBackWrongFalsely : Prop := wideBackRow.holds Try.pinned (OpenSpec.ofChange wideBackWrong)

/-- 'pacemakerlaw01.WideBits': WHATEVER THE INPUT: true; the input reads as it did. -/
def wideBitsSpec : ChangeSpec := { name := "wideBits", fn := fun _ => fun
  | [d1, d2] => { results := [.lit (.bool true)], args := [d1, d2] }
  | _ => none }
def wideBitsRow : OpenClaim := { program := "ytlmjghmofgmofaa", sum := "a2bb022e8003fcc1828da96a4535b737b0e3dc2da6ff91809e5539538d2741d5", func := "pacemaker/pacemakerlaw01.WideBits", spec := "wideBits", inPlace := ["math/bits.Add64", "math/bits.Sub64"], named := ["math/bits.divideError", "math/bits.overflowError"], apart := false }
def WideBitsSaid : Prop := wideBitsRow.holds Try.pinned (OpenSpec.ofChange wideBitsSpec)

/-- ITS FALSE NEIGHBOUR: 'it returns false'. Refute it at one input. -/
def wideBitsWrong : ChangeSpec := { name := "wideBits", fn := fun _ => fun
  | [d1, d2] => { results := [.lit (.bool false)], args := [d1, d2] }
  | _ => none }
def WideBitsWrongFalsely : Prop := wideBitsRow.holds Try.pinned (OpenSpec.ofChange wideBitsWrong)

/- THE SECOND FORM. 'bulk': how many values and letters a reading holds, each counted each time it is reached (what is shared counts as often as it is met; a slice's spare places count too). A statement '..UptoSaid' is the law's where the arguments, and the package variables that the reading takes, are together of bulk at most 1048576: NARROWER than '..Said'. Prove '..Said' where nothing that the law and all that it calls make is longer than what came in: it says more and counts as full. Else prove '..UptoSaid'. A law counts once. -/
mutual
def uptoBulk {H : Type} : DataW H → Nat
  | .lit (.string bytes) => bytes.length + 1
  | .lit _ => 1
  | .nil => 1
  | .ptr d => uptoBulk d + 1
  | .slice elems spare => uptoBulkAll elems + uptoBulkAll spare + 1
  | .agg parts => uptoBulkAll parts + 1
  | .iface _ d => uptoBulk d + 1
  | .map entries => uptoBulkEntries entries + 1
  | .held _ => 1
def uptoBulkAll {H : Type} : List (DataW H) → Nat
  | [] => 0
  | d :: r => uptoBulk d + uptoBulkAll r
def uptoBulkEntries {H : Type} : List (Lit × DataW H) → Nat
  | [] => 0
  | x :: r => uptoBulkEntry x + uptoBulkEntries r
def uptoBulkEntry {H : Type} : Lit × DataW H → Nat
  | (.string bytes, d) => bytes.length + uptoBulk d + 1
  | (_, d) => uptoBulk d + 1
 end
def uptoSmall : (H : Type) → List (DataW H) → Bool := fun _ ds => decide (uptoBulkAll ds ≤ 1048576)
def OpenSpec.upto (s : _root_.Go.ChangeSpec) : _root_.Go.OpenSpec := { _root_.Go.OpenSpec.ofChange s with cond := some uptoSmall }

/-- 'pacemakerlaw03.RootDoes', WHERE WHAT IT READS IS OF BULK AT MOST 1048576: true; the input reads as it did. -/
def rootDoesUptoRow : OpenClaim := { program := "ytlmjghmofgmofaa", sum := "a2bb022e8003fcc1828da96a4535b737b0e3dc2da6ff91809e5539538d2741d5", func := "pacemaker/pacemakerlaw03.RootDoes", spec := "rootDoes", apart := false, narrowed := true }
def RootDoesUptoSaid : Prop := rootDoesUptoRow.holds Try.pinned (OpenSpec.upto rootDoesSpec)

/-- 'pacemakerlaw03.RootSquares', WHERE WHAT IT READS IS OF BULK AT MOST 1048576: true; the input reads as it did. -/
def rootSquaresUptoRow : OpenClaim := { program := "ytlmjghmofgmofaa", sum := "a2bb022e8003fcc1828da96a4535b737b0e3dc2da6ff91809e5539538d2741d5", func := "pacemaker/pacemakerlaw03.RootSquares", spec := "rootSquares", apart := false, narrowed := true }
def RootSquaresUptoSaid : Prop := rootSquaresUptoRow.holds Try.pinned (OpenSpec.upto rootSquaresSpec)

/-- 'pacemakerlaw03.RootMean', WHERE WHAT IT READS IS OF BULK AT MOST 1048576: true; the input reads as it did. -/
def rootMeanUptoRow : OpenClaim := { program := "ytlmjghmofgmofaa", sum := "a2bb022e8003fcc1828da96a4535b737b0e3dc2da6ff91809e5539538d2741d5", func := "pacemaker/pacemakerlaw03.RootMean", spec := "rootMean", apart := false, narrowed := true }
def RootMeanUptoSaid : Prop := rootMeanUptoRow.holds Try.pinned (OpenSpec.upto rootMeanSpec)

/-- 'pacemakerlaw03.RootFixed', WHERE WHAT IT READS IS OF BULK AT MOST 1048576: true; the input reads as it did. -/
def rootFixedUptoRow : OpenClaim := { program := "ytlmjghmofgmofaa", sum := "a2bb022e8003fcc1828da96a4535b737b0e3dc2da6ff91809e5539538d2741d5", func := "pacemaker/pacemakerlaw03.RootFixed", spec := "rootFixed", apart := false, narrowed := true }
def RootFixedUptoSaid : Prop := rootFixedUptoRow.holds Try.pinned (OpenSpec.upto rootFixedSpec)

/-- 'pacemakerlaw03.RootBack', WHERE WHAT IT READS IS OF BULK AT MOST 1048576: true; the input reads as it did. -/
def rootBackUptoRow : OpenClaim := { program := "ytlmjghmofgmofaa", sum := "a2bb022e8003fcc1828da96a4535b737b0e3dc2da6ff91809e5539538d2741d5", func := "pacemaker/pacemakerlaw03.RootBack", spec := "rootBack", inPlace := ["math/bits.Add64"], apart := false, narrowed := true }
def RootBackUptoSaid : Prop := rootBackUptoRow.holds Try.pinned (OpenSpec.upto rootBackSpec)

/-- 'pacemakerlaw01.WideMuls', WHERE WHAT IT READS IS OF BULK AT MOST 1048576: true; the input reads as it did. -/
def wideMulsUptoRow : OpenClaim := { program := "ytlmjghmofgmofaa", sum := "a2bb022e8003fcc1828da96a4535b737b0e3dc2da6ff91809e5539538d2741d5", func := "pacemaker/pacemakerlaw01.WideMuls", spec := "wideMuls", inPlace := ["math/bits.Sub64"], named := ["math/bits.divideError", "math/bits.overflowError"], apart := false, narrowed := true }
def WideMulsUptoSaid : Prop := wideMulsUptoRow.holds Try.pinned (OpenSpec.upto wideMulsSpec)

/-- 'pacemakerlaw01.WideWhole', WHERE WHAT IT READS IS OF BULK AT MOST 1048576: true; the input reads as it did. -/
def wideWholeUptoRow : OpenClaim := { program := "ytlmjghmofgmofaa", sum := "a2bb022e8003fcc1828da96a4535b737b0e3dc2da6ff91809e5539538d2741d5", func := "pacemaker/pacemakerlaw01.WideWhole", spec := "wideWhole", inPlace := ["math/bits.Sub64", "math/bits.Add64"], named := ["math/bits.divideError", "math/bits.overflowError"], apart := false, narrowed := true }
def WideWholeUptoSaid : Prop := wideWholeUptoRow.holds Try.pinned (OpenSpec.upto wideWholeSpec)

/-- 'pacemakerlaw01.WideShifts', WHERE WHAT IT READS IS OF BULK AT MOST 1048576: true; the input reads as it did. -/
def wideShiftsUptoRow : OpenClaim := { program := "ytlmjghmofgmofaa", sum := "a2bb022e8003fcc1828da96a4535b737b0e3dc2da6ff91809e5539538d2741d5", func := "pacemaker/pacemakerlaw01.WideShifts", spec := "wideShifts", inPlace := ["math/bits.Sub64"], named := ["math/bits.divideError", "math/bits.overflowError"], apart := false, narrowed := true }
def WideShiftsUptoSaid : Prop := wideShiftsUptoRow.holds Try.pinned (OpenSpec.upto wideShiftsSpec)

/-- 'pacemakerlaw01.WideSums', WHERE WHAT IT READS IS OF BULK AT MOST 1048576: true; the input reads as it did. -/
def wideSumsUptoRow : OpenClaim := { program := "ytlmjghmofgmofaa", sum := "a2bb022e8003fcc1828da96a4535b737b0e3dc2da6ff91809e5539538d2741d5", func := "pacemaker/pacemakerlaw01.WideSums", spec := "wideSums", inPlace := ["math/bits.Add64", "math/bits.Sub64"], named := ["math/bits.divideError", "math/bits.overflowError"], apart := false, narrowed := true }
def WideSumsUptoSaid : Prop := wideSumsUptoRow.holds Try.pinned (OpenSpec.upto wideSumsSpec)

/-- 'pacemakerlaw01.WideBack', WHERE WHAT IT READS IS OF BULK AT MOST 1048576: true; the input reads as it did. -/
def wideBackUptoRow : OpenClaim := { program := "ytlmjghmofgmofaa", sum := "a2bb022e8003fcc1828da96a4535b737b0e3dc2da6ff91809e5539538d2741d5", func := "pacemaker/pacemakerlaw01.WideBack", spec := "wideBack", inPlace := ["math/bits.Add64", "math/bits.Sub64"], named := ["math/bits.divideError", "math/bits.overflowError"], apart := false, narrowed := true }
def WideBackUptoSaid : Prop := wideBackUptoRow.holds Try.pinned (OpenSpec.upto wideBackSpec)

/-- 'pacemakerlaw01.WideBits', WHERE WHAT IT READS IS OF BULK AT MOST 1048576: true; the input reads as it did. -/
def wideBitsUptoRow : OpenClaim := { program := "ytlmjghmofgmofaa", sum := "a2bb022e8003fcc1828da96a4535b737b0e3dc2da6ff91809e5539538d2741d5", func := "pacemaker/pacemakerlaw01.WideBits", spec := "wideBits", inPlace := ["math/bits.Add64", "math/bits.Sub64"], named := ["math/bits.divideError", "math/bits.overflowError"], apart := false, narrowed := true }
def WideBitsUptoSaid : Prop := wideBitsUptoRow.holds Try.pinned (OpenSpec.upto wideBitsSpec)

end Rows
end Go.Proofs.Ytlmjghmofgmofaa
