/-
  No cell of these rows narrows 'for every input' (looked for: loops, veiled, ifaces, maps, wideKeys, modest, calm, conditions, laid).
  DERIVED. THE GIVEN ROWS OF THIS SEAT. 10 by the template 'for every input the law returns true; each argument reads behind the call as it read before'; 0 by the template 'total and deterministic' (their statements: YtccmpmkmgehkiaaTotals.lean).
  GIVEN WITH THE SEED: the statements are not yours to turn. If you find one false, say at which input.
  Laid BY PROGRAM, IN A SANDBOX (cutbox-rows.mjs): the forced cells as the released guide's own fill.sh prints them over the translation 9af77a96f419cbdb… (all of the seat's roots in one cut). By AI agents, Wed Nov 11 2026. No macro, syntax, notation, axiom, sorry.
-/
import Derived.Test.YtccmpmkmgehkiaaChecked
import GoSem.Claim
import GoSem.ClaimJoined
import GoSem.ClaimMapViews
import Derived.JoinedTies
import Derived.KernelRfl
namespace Go.Proofs.Ytccmpmkmgehkiaa
/- THE CELL 'sum', in the pinned program and in every row, IS THE sha256 OF THE DUMP (.gsa) THAT YtccmpmkmgehkiaaProg.lean LOADS. Nothing in Lean hashes anything: it is a label: what it is worth is what the hold of that sum in a sandbox is worth. -/
noncomputable def Try.pinned : Pinned := { name := "ytccmpmkmgehkiaa", sum := "9af77a96f419cbdb662cd8d91dae19d1e45b550300e6f2c3b913f8b308e91d24", checked := Try.checked }
namespace Rows
def none {H : Type} : Left H := { results := [], args := [] }

/-- 'codewrightlaw05.PolyDivides': WHATEVER THE INPUT: true; the input reads as it did. -/
def polyDividesSpec : ChangeSpec := { name := "polyDivides", fn := fun _ => fun
  | [d1, d2, d3] => { results := [.lit (.bool true)], args := [d1, d2, d3] }
  | _ => none }
def polyDividesRow : OpenClaim := { program := "ytccmpmkmgehkiaa", sum := "9af77a96f419cbdb662cd8d91dae19d1e45b550300e6f2c3b913f8b308e91d24", func := "codewright/codewrightlaw05.PolyDivides", spec := "polyDivides", apart := false }
def PolyDividesSaid : Prop := polyDividesRow.holds Try.pinned (OpenSpec.ofChange polyDividesSpec)

/-- ITS FALSE NEIGHBOUR: 'it returns false'. Refute it at one input. -/
def polyDividesWrong : ChangeSpec := { name := "polyDivides", fn := fun _ => fun
  | [d1, d2, d3] => { results := [.lit (.bool false)], args := [d1, d2, d3] }
  | _ => none }
def PolyDividesWrongFalsely : Prop := polyDividesRow.holds Try.pinned (OpenSpec.ofChange polyDividesWrong)

/-- 'codewrightlaw05.PolyCanon': WHATEVER THE INPUT: true; the input reads as it did. -/
def polyCanonSpec : ChangeSpec := { name := "polyCanon", fn := fun _ => fun
  | [d1, d2] => { results := [.lit (.bool true)], args := [d1, d2] }
  | _ => none }
def polyCanonRow : OpenClaim := { program := "ytccmpmkmgehkiaa", sum := "9af77a96f419cbdb662cd8d91dae19d1e45b550300e6f2c3b913f8b308e91d24", func := "codewright/codewrightlaw05.PolyCanon", spec := "polyCanon", apart := false }
def PolyCanonSaid : Prop := polyCanonRow.holds Try.pinned (OpenSpec.ofChange polyCanonSpec)

/-- ITS FALSE NEIGHBOUR: 'it returns false'. Refute it at one input. -/
def polyCanonWrong : ChangeSpec := { name := "polyCanon", fn := fun _ => fun
  | [d1, d2] => { results := [.lit (.bool false)], args := [d1, d2] }
  | _ => none }
def PolyCanonWrongFalsely : Prop := polyCanonRow.holds Try.pinned (OpenSpec.ofChange polyCanonWrong)

/-- 'codewrightlaw05.PolyMultiplies': WHATEVER THE INPUT: true; the input reads as it did. -/
def polyMultipliesSpec : ChangeSpec := { name := "polyMultiplies", fn := fun _ => fun
  | [d1, d2, d3] => { results := [.lit (.bool true)], args := [d1, d2, d3] }
  | _ => none }
def polyMultipliesRow : OpenClaim := { program := "ytccmpmkmgehkiaa", sum := "9af77a96f419cbdb662cd8d91dae19d1e45b550300e6f2c3b913f8b308e91d24", func := "codewright/codewrightlaw05.PolyMultiplies", spec := "polyMultiplies", apart := false }
def PolyMultipliesSaid : Prop := polyMultipliesRow.holds Try.pinned (OpenSpec.ofChange polyMultipliesSpec)

/-- ITS FALSE NEIGHBOUR: 'it returns false'. Refute it at one input. -/
def polyMultipliesWrong : ChangeSpec := { name := "polyMultiplies", fn := fun _ => fun
  | [d1, d2, d3] => { results := [.lit (.bool false)], args := [d1, d2, d3] }
  | _ => none }
def PolyMultipliesWrongFalsely : Prop := polyMultipliesRow.holds Try.pinned (OpenSpec.ofChange polyMultipliesWrong)

/-- 'codewrightlaw05.PolyShifts': WHATEVER THE INPUT: true; the input reads as it did. -/
def polyShiftsSpec : ChangeSpec := { name := "polyShifts", fn := fun _ => fun
  | [d1, d2, d3] => { results := [.lit (.bool true)], args := [d1, d2, d3] }
  | _ => none }
def polyShiftsRow : OpenClaim := { program := "ytccmpmkmgehkiaa", sum := "9af77a96f419cbdb662cd8d91dae19d1e45b550300e6f2c3b913f8b308e91d24", func := "codewright/codewrightlaw05.PolyShifts", spec := "polyShifts", apart := false }
def PolyShiftsSaid : Prop := polyShiftsRow.holds Try.pinned (OpenSpec.ofChange polyShiftsSpec)

/-- ITS FALSE NEIGHBOUR: 'it returns false'. Refute it at one input. -/
def polyShiftsWrong : ChangeSpec := { name := "polyShifts", fn := fun _ => fun
  | [d1, d2, d3] => { results := [.lit (.bool false)], args := [d1, d2, d3] }
  | _ => none }
def PolyShiftsWrongFalsely : Prop := polyShiftsRow.holds Try.pinned (OpenSpec.ofChange polyShiftsWrong)

/-- 'codewrightlaw05.PolyReverses': WHATEVER THE INPUT: true; the input reads as it did. -/
def polyReversesSpec : ChangeSpec := { name := "polyReverses", fn := fun _ => fun
  | [d1, d2, d3] => { results := [.lit (.bool true)], args := [d1, d2, d3] }
  | _ => none }
def polyReversesRow : OpenClaim := { program := "ytccmpmkmgehkiaa", sum := "9af77a96f419cbdb662cd8d91dae19d1e45b550300e6f2c3b913f8b308e91d24", func := "codewright/codewrightlaw05.PolyReverses", spec := "polyReverses", apart := false }
def PolyReversesSaid : Prop := polyReversesRow.holds Try.pinned (OpenSpec.ofChange polyReversesSpec)

/-- ITS FALSE NEIGHBOUR: 'it returns false'. Refute it at one input. -/
def polyReversesWrong : ChangeSpec := { name := "polyReverses", fn := fun _ => fun
  | [d1, d2, d3] => { results := [.lit (.bool false)], args := [d1, d2, d3] }
  | _ => none }
def PolyReversesWrongFalsely : Prop := polyReversesRow.holds Try.pinned (OpenSpec.ofChange polyReversesWrong)

/-- 'codewrightlaw05.PolyAdds': WHATEVER THE INPUT: true; the input reads as it did. -/
def polyAddsSpec : ChangeSpec := { name := "polyAdds", fn := fun _ => fun
  | [d1, d2, d3] => { results := [.lit (.bool true)], args := [d1, d2, d3] }
  | _ => none }
def polyAddsRow : OpenClaim := { program := "ytccmpmkmgehkiaa", sum := "9af77a96f419cbdb662cd8d91dae19d1e45b550300e6f2c3b913f8b308e91d24", func := "codewright/codewrightlaw05.PolyAdds", spec := "polyAdds", apart := false }
def PolyAddsSaid : Prop := polyAddsRow.holds Try.pinned (OpenSpec.ofChange polyAddsSpec)

/-- ITS FALSE NEIGHBOUR: 'it returns false'. Refute it at one input. -/
def polyAddsWrong : ChangeSpec := { name := "polyAdds", fn := fun _ => fun
  | [d1, d2, d3] => { results := [.lit (.bool false)], args := [d1, d2, d3] }
  | _ => none }
def PolyAddsWrongFalsely : Prop := polyAddsRow.holds Try.pinned (OpenSpec.ofChange polyAddsWrong)

/-- 'codewrightlaw05.PolyRemainders': WHATEVER THE INPUT: true; the input reads as it did. -/
def polyRemaindersSpec : ChangeSpec := { name := "polyRemainders", fn := fun _ => fun
  | [d1, d2, d3] => { results := [.lit (.bool true)], args := [d1, d2, d3] }
  | _ => none }
def polyRemaindersRow : OpenClaim := { program := "ytccmpmkmgehkiaa", sum := "9af77a96f419cbdb662cd8d91dae19d1e45b550300e6f2c3b913f8b308e91d24", func := "codewright/codewrightlaw05.PolyRemainders", spec := "polyRemainders", apart := false }
def PolyRemaindersSaid : Prop := polyRemaindersRow.holds Try.pinned (OpenSpec.ofChange polyRemaindersSpec)

/-- ITS FALSE NEIGHBOUR: 'it returns false'. Refute it at one input. -/
def polyRemaindersWrong : ChangeSpec := { name := "polyRemainders", fn := fun _ => fun
  | [d1, d2, d3] => { results := [.lit (.bool false)], args := [d1, d2, d3] }
  | _ => none }
def PolyRemaindersWrongFalsely : Prop := polyRemaindersRow.holds Try.pinned (OpenSpec.ofChange polyRemaindersWrong)

/-- 'codewrightlaw05.PolyFactors': WHATEVER THE INPUT: true; the input reads as it did. -/
def polyFactorsSpec : ChangeSpec := { name := "polyFactors", fn := fun _ => fun
  | [d1, d2, d3] => { results := [.lit (.bool true)], args := [d1, d2, d3] }
  | _ => none }
def polyFactorsRow : OpenClaim := { program := "ytccmpmkmgehkiaa", sum := "9af77a96f419cbdb662cd8d91dae19d1e45b550300e6f2c3b913f8b308e91d24", func := "codewright/codewrightlaw05.PolyFactors", spec := "polyFactors", apart := false }
def PolyFactorsSaid : Prop := polyFactorsRow.holds Try.pinned (OpenSpec.ofChange polyFactorsSpec)

/-- ITS FALSE NEIGHBOUR: 'it returns false'. Refute it at one input. -/
def polyFactorsWrong : ChangeSpec := { name := "polyFactors", fn := fun _ => fun
  | [d1, d2, d3] => { results := [.lit (.bool false)], args := [d1, d2, d3] }
  | _ => none }
def PolyFactorsWrongFalsely : Prop := polyFactorsRow.holds Try.pinned (OpenSpec.ofChange polyFactorsWrong)

/-- 'codewrightlaw05.PolyMonic': WHATEVER THE INPUT: true; the input reads as it did. -/
def polyMonicSpec : ChangeSpec := { name := "polyMonic", fn := fun _ => fun
  | [d1, d2] => { results := [.lit (.bool true)], args := [d1, d2] }
  | _ => none }
def polyMonicRow : OpenClaim := { program := "ytccmpmkmgehkiaa", sum := "9af77a96f419cbdb662cd8d91dae19d1e45b550300e6f2c3b913f8b308e91d24", func := "codewright/codewrightlaw05.PolyMonic", spec := "polyMonic", apart := false }
def PolyMonicSaid : Prop := polyMonicRow.holds Try.pinned (OpenSpec.ofChange polyMonicSpec)

/-- ITS FALSE NEIGHBOUR: 'it returns false'. Refute it at one input. -/
def polyMonicWrong : ChangeSpec := { name := "polyMonic", fn := fun _ => fun
  | [d1, d2] => { results := [.lit (.bool false)], args := [d1, d2] }
  | _ => none }
def PolyMonicWrongFalsely : Prop := polyMonicRow.holds Try.pinned (OpenSpec.ofChange polyMonicWrong)

/-- 'codewrightlaw05.PolyValues': WHATEVER THE INPUT: true; the input reads as it did. -/
def polyValuesSpec : ChangeSpec := { name := "polyValues", fn := fun _ => fun
  | [d1, d2, d3] => { results := [.lit (.bool true)], args := [d1, d2, d3] }
  | _ => none }
def polyValuesRow : OpenClaim := { program := "ytccmpmkmgehkiaa", sum := "9af77a96f419cbdb662cd8d91dae19d1e45b550300e6f2c3b913f8b308e91d24", func := "codewright/codewrightlaw05.PolyValues", spec := "polyValues", apart := false }
def PolyValuesSaid : Prop := polyValuesRow.holds Try.pinned (OpenSpec.ofChange polyValuesSpec)

/-- ITS FALSE NEIGHBOUR: 'it returns false'. Refute it at one input. -/
def polyValuesWrong : ChangeSpec := { name := "polyValues", fn := fun _ => fun
  | [d1, d2, d3] => { results := [.lit (.bool false)], args := [d1, d2, d3] }
  | _ => none }
def PolyValuesWrongFalsely : Prop := polyValuesRow.holds Try.pinned (OpenSpec.ofChange polyValuesWrong)

/- THE SECOND FORM. 'bulk': how many values and letters a reading holds, each counted each time it is reached (what is shared counts as often as it is met; a slice's spare places count too). A statement '..UptoSaid' is the law's where the arguments, and the package variables that the reading takes, are together of bulk at most 1048576: NARROWER than '..Said'. Prove '..Said' where nothing that the law and all that it calls make is longer than what came in: it says more and counts as full. Else prove '..UptoSaid'. A law counts once. -/
mutual
def uptoBulk {H : Type} : DataW H → Nat
  | .lit (.string bytes) => bytes.length + 1
  | .lit _ => 1
  | .nil => 1
  | .ptr d => uptoBulk d + 1
  | .slice elems spare => uptoBulkAll elems + uptoBulkAll spare + 1
  | .agg parts => uptoBulkAll parts + 1
  | .iface _ d => uptoBulk d + 1
  | .map entries => uptoBulkEntries entries + 1
  | .held _ => 1
def uptoBulkAll {H : Type} : List (DataW H) → Nat
  | [] => 0
  | d :: r => uptoBulk d + uptoBulkAll r
def uptoBulkEntries {H : Type} : List (Lit × DataW H) → Nat
  | [] => 0
  | x :: r => uptoBulkEntry x + uptoBulkEntries r
def uptoBulkEntry {H : Type} : Lit × DataW H → Nat
  | (.string bytes, d) => bytes.length + uptoBulk d + 1
  | (_, d) => uptoBulk d + 1
 end
def uptoSmall : (H : Type) → List (DataW H) → Bool := fun _ ds => decide (uptoBulkAll ds ≤ 1048576)
def OpenSpec.upto (s : _root_.Go.ChangeSpec) : _root_.Go.OpenSpec := { _root_.Go.OpenSpec.ofChange s with cond := some uptoSmall }

/-- 'codewrightlaw05.PolyDivides', WHERE WHAT IT READS IS OF BULK AT MOST 1048576: true; the input reads as it did. -/
def polyDividesUptoRow : OpenClaim := { program := "ytccmpmkmgehkiaa", sum := "9af77a96f419cbdb662cd8d91dae19d1e45b550300e6f2c3b913f8b308e91d24", func := "codewright/codewrightlaw05.PolyDivides", spec := "polyDivides", apart := false, narrowed := true }
def PolyDividesUptoSaid : Prop := polyDividesUptoRow.holds Try.pinned (OpenSpec.upto polyDividesSpec)

/-- 'codewrightlaw05.PolyCanon', WHERE WHAT IT READS IS OF BULK AT MOST 1048576: true; the input reads as it did. -/
def polyCanonUptoRow : OpenClaim := { program := "ytccmpmkmgehkiaa", sum := "9af77a96f419cbdb662cd8d91dae19d1e45b550300e6f2c3b913f8b308e91d24", func := "codewright/codewrightlaw05.PolyCanon", spec := "polyCanon", apart := false, narrowed := true }
def PolyCanonUptoSaid : Prop := polyCanonUptoRow.holds Try.pinned (OpenSpec.upto polyCanonSpec)

/-- 'codewrightlaw05.PolyMultiplies', WHERE WHAT IT READS IS OF BULK AT MOST 1048576: true; the input reads as it did. -/
def polyMultipliesUptoRow : OpenClaim := { program := "ytccmpmkmgehkiaa", sum := "9af77a96f419cbdb662cd8d91dae19d1e45b550300e6f2c3b913f8b308e91d24", func := "codewright/codewrightlaw05.PolyMultiplies", spec := "polyMultiplies", apart := false, narrowed := true }
def PolyMultipliesUptoSaid : Prop := polyMultipliesUptoRow.holds Try.pinned (OpenSpec.upto polyMultipliesSpec)

/-- 'codewrightlaw05.PolyShifts', WHERE WHAT IT READS IS OF BULK AT MOST 1048576: true; the input reads as it did. -/
def polyShiftsUptoRow : OpenClaim := { program := "ytccmpmkmgehkiaa", sum := "9af77a96f419cbdb662cd8d91dae19d1e45b550300e6f2c3b913f8b308e91d24", func := "codewright/codewrightlaw05.PolyShifts", spec := "polyShifts", apart := false, narrowed := true }
def PolyShiftsUptoSaid : Prop := polyShiftsUptoRow.holds Try.pinned (OpenSpec.upto polyShiftsSpec)

/-- 'codewrightlaw05.PolyReverses', WHERE WHAT IT READS IS OF BULK AT MOST 1048576: true; the input reads as it did. -/
def polyReversesUptoRow : OpenClaim := { program := "ytccmpmkmgehkiaa", sum := "9af77a96f419cbdb662cd8d91dae19d1e45b550300e6f2c3b913f8b308e91d24", func := "codewright/codewrightlaw05.PolyReverses", spec := "polyReverses", apart := false, narrowed := true }
def PolyReversesUptoSaid : Prop := polyReversesUptoRow.holds Try.pinned (OpenSpec.upto polyReversesSpec)

/-- 'codewrightlaw05.PolyAdds', WHERE WHAT IT READS IS OF BULK AT MOST 1048576: true; the input reads as it did. -/
def polyAddsUptoRow : OpenClaim := { program := "ytccmpmkmgehkiaa", sum := "9af77a96f419cbdb662cd8d91dae19d1e45b550300e6f2c3b913f8b308e91d24", func := "codewright/codewrightlaw05.PolyAdds", spec := "polyAdds", apart := false, narrowed := true }
def PolyAddsUptoSaid : Prop := polyAddsUptoRow.holds Try.pinned (OpenSpec.upto polyAddsSpec)

/-- 'codewrightlaw05.PolyRemainders', WHERE WHAT IT READS IS OF BULK AT MOST 1048576: true; the input reads as it did. -/
def polyRemaindersUptoRow : OpenClaim := { program := "ytccmpmkmgehkiaa", sum := "9af77a96f419cbdb662cd8d91dae19d1e45b550300e6f2c3b913f8b308e91d24", func := "codewright/codewrightlaw05.PolyRemainders", spec := "polyRemainders", apart := false, narrowed := true }
def PolyRemaindersUptoSaid : Prop := polyRemaindersUptoRow.holds Try.pinned (OpenSpec.upto polyRemaindersSpec)

/-- 'codewrightlaw05.PolyFactors', WHERE WHAT IT READS IS OF BULK AT MOST 1048576: true; the input reads as it did. -/
def polyFactorsUptoRow : OpenClaim := { program := "ytccmpmkmgehkiaa", sum := "9af77a96f419cbdb662cd8d91dae19d1e45b550300e6f2c3b913f8b308e91d24", func := "codewright/codewrightlaw05.PolyFactors", spec := "polyFactors", apart := false, narrowed := true }
def PolyFactorsUptoSaid : Prop := polyFactorsUptoRow.holds Try.pinned (OpenSpec.upto polyFactorsSpec)

/-- 'codewrightlaw05.PolyMonic', WHERE WHAT IT READS IS OF BULK AT MOST 1048576: true; the input reads as it did. -/
def polyMonicUptoRow : OpenClaim := { program := "ytccmpmkmgehkiaa", sum := "9af77a96f419cbdb662cd8d91dae19d1e45b550300e6f2c3b913f8b308e91d24", func := "codewright/codewrightlaw05.PolyMonic", spec := "polyMonic", apart := false, narrowed := true }
def PolyMonicUptoSaid : Prop := polyMonicUptoRow.holds Try.pinned (OpenSpec.upto polyMonicSpec)

/-- 'codewrightlaw05.PolyValues', WHERE WHAT IT READS IS OF BULK AT MOST 1048576: true; the input reads as it did. -/
def polyValuesUptoRow : OpenClaim := { program := "ytccmpmkmgehkiaa", sum := "9af77a96f419cbdb662cd8d91dae19d1e45b550300e6f2c3b913f8b308e91d24", func := "codewright/codewrightlaw05.PolyValues", spec := "polyValues", apart := false, narrowed := true }
def PolyValuesUptoSaid : Prop := polyValuesUptoRow.holds Try.pinned (OpenSpec.upto polyValuesSpec)

end Rows
end Go.Proofs.Ytccmpmkmgehkiaa
