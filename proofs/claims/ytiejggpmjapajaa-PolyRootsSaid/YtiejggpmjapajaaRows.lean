/-
  No cell of these rows narrows 'for every input' (looked for: loops, veiled, ifaces, maps, wideKeys, modest, calm, conditions, laid).
  DERIVED. THE GIVEN ROWS OF THIS SEAT. 7 by the template 'for every input the law returns true; each argument reads behind the call as it read before'; 0 by the template 'total and deterministic' (their statements: YtiejggpmjapajaaTotals.lean).
  GIVEN WITH THE SEED: the statements are not yours to turn. If you find one false, say at which input.
  Laid BY PROGRAM, IN A SANDBOX (cutbox-rows.mjs): the forced cells as the released guide's own fill.sh prints them over the translation f8bccda8896b3ac4… (all of the seat's roots in one cut). By AI agents, Wed Nov 11 2026. No macro, syntax, notation, axiom, sorry.
-/
import Derived.Test.YtiejggpmjapajaaChecked
import GoSem.Claim
import GoSem.ClaimJoined
import GoSem.ClaimMapViews
import Derived.JoinedTies
import Derived.KernelRfl
namespace Go.Proofs.Ytiejggpmjapajaa
/- THE CELL 'sum', in the pinned program and in every row, IS THE sha256 OF THE DUMP (.gsa) THAT YtiejggpmjapajaaProg.lean LOADS. Nothing in Lean hashes anything: it is a label: what it is worth is what the hold of that sum in a sandbox is worth. -/
noncomputable def Try.pinned : Pinned := { name := "ytiejggpmjapajaa", sum := "f8bccda8896b3ac4cbe32510623442915c6b37bcbdf8c5915472cc8702f80230", checked := Try.checked }
namespace Rows
def none {H : Type} : Left H := { results := [], args := [] }

/-- 'codewrightlaw05.PolyPowers': WHATEVER THE INPUT: true; the input reads as it did. -/
def polyPowersSpec : ChangeSpec := { name := "polyPowers", fn := fun _ => fun
  | [d1, d2, d3] => { results := [.lit (.bool true)], args := [d1, d2, d3] }
  | _ => none }
def polyPowersRow : OpenClaim := { program := "ytiejggpmjapajaa", sum := "f8bccda8896b3ac4cbe32510623442915c6b37bcbdf8c5915472cc8702f80230", func := "codewright/codewrightlaw05.PolyPowers", spec := "polyPowers", apart := false }
def PolyPowersSaid : Prop := polyPowersRow.holds Try.pinned (OpenSpec.ofChange polyPowersSpec)

/-- ITS FALSE NEIGHBOUR: 'it returns false'. Refute it at one input. -/
def polyPowersWrong : ChangeSpec := { name := "polyPowers", fn := fun _ => fun
  | [d1, d2, d3] => { results := [.lit (.bool false)], args := [d1, d2, d3] }
  | _ => none }
def PolyPowersWrongFalsely : Prop := polyPowersRow.holds Try.pinned (OpenSpec.ofChange polyPowersWrong)

/-- 'codewrightlaw05.PolyComposes': WHATEVER THE INPUT: true; the input reads as it did. -/
def polyComposesSpec : ChangeSpec := { name := "polyComposes", fn := fun _ => fun
  | [d1, d2, d3] => { results := [.lit (.bool true)], args := [d1, d2, d3] }
  | _ => none }
def polyComposesRow : OpenClaim := { program := "ytiejggpmjapajaa", sum := "f8bccda8896b3ac4cbe32510623442915c6b37bcbdf8c5915472cc8702f80230", func := "codewright/codewrightlaw05.PolyComposes", spec := "polyComposes", apart := false }
def PolyComposesSaid : Prop := polyComposesRow.holds Try.pinned (OpenSpec.ofChange polyComposesSpec)

/-- ITS FALSE NEIGHBOUR: 'it returns false'. Refute it at one input. -/
def polyComposesWrong : ChangeSpec := { name := "polyComposes", fn := fun _ => fun
  | [d1, d2, d3] => { results := [.lit (.bool false)], args := [d1, d2, d3] }
  | _ => none }
def PolyComposesWrongFalsely : Prop := polyComposesRow.holds Try.pinned (OpenSpec.ofChange polyComposesWrong)

/-- 'codewrightlaw05.PolyGcds': WHATEVER THE INPUT: true; the input reads as it did. -/
def polyGcdsSpec : ChangeSpec := { name := "polyGcds", fn := fun _ => fun
  | [d1, d2] => { results := [.lit (.bool true)], args := [d1, d2] }
  | _ => none }
def polyGcdsRow : OpenClaim := { program := "ytiejggpmjapajaa", sum := "f8bccda8896b3ac4cbe32510623442915c6b37bcbdf8c5915472cc8702f80230", func := "codewright/codewrightlaw05.PolyGcds", spec := "polyGcds", apart := false }
def PolyGcdsSaid : Prop := polyGcdsRow.holds Try.pinned (OpenSpec.ofChange polyGcdsSpec)

/-- ITS FALSE NEIGHBOUR: 'it returns false'. Refute it at one input. -/
def polyGcdsWrong : ChangeSpec := { name := "polyGcds", fn := fun _ => fun
  | [d1, d2] => { results := [.lit (.bool false)], args := [d1, d2] }
  | _ => none }
def PolyGcdsWrongFalsely : Prop := polyGcdsRow.holds Try.pinned (OpenSpec.ofChange polyGcdsWrong)

/-- 'codewrightlaw05.PolyDerives': WHATEVER THE INPUT: true; the input reads as it did. -/
def polyDerivesSpec : ChangeSpec := { name := "polyDerives", fn := fun _ => fun
  | [d1, d2, d3] => { results := [.lit (.bool true)], args := [d1, d2, d3] }
  | _ => none }
def polyDerivesRow : OpenClaim := { program := "ytiejggpmjapajaa", sum := "f8bccda8896b3ac4cbe32510623442915c6b37bcbdf8c5915472cc8702f80230", func := "codewright/codewrightlaw05.PolyDerives", spec := "polyDerives", apart := false }
def PolyDerivesSaid : Prop := polyDerivesRow.holds Try.pinned (OpenSpec.ofChange polyDerivesSpec)

/-- ITS FALSE NEIGHBOUR: 'it returns false'. Refute it at one input. -/
def polyDerivesWrong : ChangeSpec := { name := "polyDerives", fn := fun _ => fun
  | [d1, d2, d3] => { results := [.lit (.bool false)], args := [d1, d2, d3] }
  | _ => none }
def PolyDerivesWrongFalsely : Prop := polyDerivesRow.holds Try.pinned (OpenSpec.ofChange polyDerivesWrong)

/-- 'codewrightlaw05.PolyRoots': WHATEVER THE INPUT: true; the input reads as it did. -/
def polyRootsSpec : ChangeSpec := { name := "polyRoots", fn := fun _ => fun
  | [d1, d2] => { results := [.lit (.bool true)], args := [d1, d2] }
  | _ => none }
def polyRootsRow : OpenClaim := { program := "ytiejggpmjapajaa", sum := "f8bccda8896b3ac4cbe32510623442915c6b37bcbdf8c5915472cc8702f80230", func := "codewright/codewrightlaw05.PolyRoots", spec := "polyRoots", unfollowed := true, recurses := true, apart := false }
def PolyRootsSaid : Prop := polyRootsRow.holds Try.pinned (OpenSpec.ofChange polyRootsSpec)

/-- ITS FALSE NEIGHBOUR: 'it returns false'. Refute it at one input. -/
def polyRootsWrong : ChangeSpec := { name := "polyRoots", fn := fun _ => fun
  | [d1, d2] => { results := [.lit (.bool false)], args := [d1, d2] }
  | _ => none }
def PolyRootsWrongFalsely : Prop := polyRootsRow.holds Try.pinned (OpenSpec.ofChange polyRootsWrong)

/-- 'codewrightlaw05.PolyInterpolates': WHATEVER THE INPUT: true; the input reads as it did. -/
def polyInterpolatesSpec : ChangeSpec := { name := "polyInterpolates", fn := fun _ => fun
  | [d1, d2, d3] => { results := [.lit (.bool true)], args := [d1, d2, d3] }
  | _ => none }
def polyInterpolatesRow : OpenClaim := { program := "ytiejggpmjapajaa", sum := "f8bccda8896b3ac4cbe32510623442915c6b37bcbdf8c5915472cc8702f80230", func := "codewright/codewrightlaw05.PolyInterpolates", spec := "polyInterpolates", apart := false }
def PolyInterpolatesSaid : Prop := polyInterpolatesRow.holds Try.pinned (OpenSpec.ofChange polyInterpolatesSpec)

/-- ITS FALSE NEIGHBOUR: 'it returns false'. Refute it at one input. -/
def polyInterpolatesWrong : ChangeSpec := { name := "polyInterpolates", fn := fun _ => fun
  | [d1, d2, d3] => { results := [.lit (.bool false)], args := [d1, d2, d3] }
  | _ => none }
def PolyInterpolatesWrongFalsely : Prop := polyInterpolatesRow.holds Try.pinned (OpenSpec.ofChange polyInterpolatesWrong)

/-- 'codewrightlaw05.PolyBezouts': WHATEVER THE INPUT: true; the input reads as it did. -/
def polyBezoutsSpec : ChangeSpec := { name := "polyBezouts", fn := fun _ => fun
  | [d1, d2, d3] => { results := [.lit (.bool true)], args := [d1, d2, d3] }
  | _ => none }
def polyBezoutsRow : OpenClaim := { program := "ytiejggpmjapajaa", sum := "f8bccda8896b3ac4cbe32510623442915c6b37bcbdf8c5915472cc8702f80230", func := "codewright/codewrightlaw05.PolyBezouts", spec := "polyBezouts", apart := false }
def PolyBezoutsSaid : Prop := polyBezoutsRow.holds Try.pinned (OpenSpec.ofChange polyBezoutsSpec)

/-- ITS FALSE NEIGHBOUR: 'it returns false'. Refute it at one input. -/
def polyBezoutsWrong : ChangeSpec := { name := "polyBezouts", fn := fun _ => fun
  | [d1, d2, d3] => { results := [.lit (.bool false)], args := [d1, d2, d3] }
  | _ => none }
def PolyBezoutsWrongFalsely : Prop := polyBezoutsRow.holds Try.pinned (OpenSpec.ofChange polyBezoutsWrong)

/- THE SECOND FORM. 'bulk': how many values and letters a reading holds, each counted each time it is reached (what is shared counts as often as it is met; a slice's spare places count too). A statement '..UptoSaid' is the law's where the arguments, and the package variables that the reading takes, are together of bulk at most 1048576: NARROWER than '..Said'. Prove '..Said' where nothing that the law and all that it calls make is longer than what came in: it says more and counts as full. Else prove '..UptoSaid'. A law counts once. -/
mutual
def uptoBulk {H : Type} : DataW H → Nat
  | .lit (.string bytes) => bytes.length + 1
  | .lit _ => 1
  | .nil => 1
  | .ptr d => uptoBulk d + 1
  | .slice elems spare => uptoBulkAll elems + uptoBulkAll spare + 1
  | .agg parts => uptoBulkAll parts + 1
  | .iface _ d => uptoBulk d + 1
  | .map entries => uptoBulkEntries entries + 1
  | .held _ => 1
def uptoBulkAll {H : Type} : List (DataW H) → Nat
  | [] => 0
  | d :: r => uptoBulk d + uptoBulkAll r
def uptoBulkEntries {H : Type} : List (Lit × DataW H) → Nat
  | [] => 0
  | x :: r => uptoBulkEntry x + uptoBulkEntries r
def uptoBulkEntry {H : Type} : Lit × DataW H → Nat
  | (.string bytes, d) => bytes.length + uptoBulk d + 1
  | (_, d) => uptoBulk d + 1
 end
def uptoSmall : (H : Type) → List (DataW H) → Bool := fun _ ds => decide (uptoBulkAll ds ≤ 1048576)
def OpenSpec.upto (s : _root_.Go.ChangeSpec) : _root_.Go.OpenSpec := { _root_.Go.OpenSpec.ofChange s with cond := some uptoSmall }

/-- 'codewrightlaw05.PolyPowers', WHERE WHAT IT READS IS OF BULK AT MOST 1048576: true; the input reads as it did. -/
def polyPowersUptoRow : OpenClaim := { program := "ytiejggpmjapajaa", sum := "f8bccda8896b3ac4cbe32510623442915c6b37bcbdf8c5915472cc8702f80230", func := "codewright/codewrightlaw05.PolyPowers", spec := "polyPowers", apart := false, narrowed := true }
def PolyPowersUptoSaid : Prop := polyPowersUptoRow.holds Try.pinned (OpenSpec.upto polyPowersSpec)

/-- 'codewrightlaw05.PolyComposes', WHERE WHAT IT READS IS OF BULK AT MOST 1048576: true; the input reads as it did. -/
def polyComposesUptoRow : OpenClaim := { program := "ytiejggpmjapajaa", sum := "f8bccda8896b3ac4cbe32510623442915c6b37bcbdf8c5915472cc8702f80230", func := "codewright/codewrightlaw05.PolyComposes", spec := "polyComposes", apart := false, narrowed := true }
def PolyComposesUptoSaid : Prop := polyComposesUptoRow.holds Try.pinned (OpenSpec.upto polyComposesSpec)

/-- 'codewrightlaw05.PolyGcds', WHERE WHAT IT READS IS OF BULK AT MOST 1048576: true; the input reads as it did. -/
def polyGcdsUptoRow : OpenClaim := { program := "ytiejggpmjapajaa", sum := "f8bccda8896b3ac4cbe32510623442915c6b37bcbdf8c5915472cc8702f80230", func := "codewright/codewrightlaw05.PolyGcds", spec := "polyGcds", apart := false, narrowed := true }
def PolyGcdsUptoSaid : Prop := polyGcdsUptoRow.holds Try.pinned (OpenSpec.upto polyGcdsSpec)

/-- 'codewrightlaw05.PolyDerives', WHERE WHAT IT READS IS OF BULK AT MOST 1048576: true; the input reads as it did. -/
def polyDerivesUptoRow : OpenClaim := { program := "ytiejggpmjapajaa", sum := "f8bccda8896b3ac4cbe32510623442915c6b37bcbdf8c5915472cc8702f80230", func := "codewright/codewrightlaw05.PolyDerives", spec := "polyDerives", apart := false, narrowed := true }
def PolyDerivesUptoSaid : Prop := polyDerivesUptoRow.holds Try.pinned (OpenSpec.upto polyDerivesSpec)

/-- 'codewrightlaw05.PolyRoots', WHERE WHAT IT READS IS OF BULK AT MOST 1048576: true; the input reads as it did. -/
def polyRootsUptoRow : OpenClaim := { program := "ytiejggpmjapajaa", sum := "f8bccda8896b3ac4cbe32510623442915c6b37bcbdf8c5915472cc8702f80230", func := "codewright/codewrightlaw05.PolyRoots", spec := "polyRoots", unfollowed := true, recurses := true, apart := false, narrowed := true }
def PolyRootsUptoSaid : Prop := polyRootsUptoRow.holds Try.pinned (OpenSpec.upto polyRootsSpec)

/-- 'codewrightlaw05.PolyInterpolates', WHERE WHAT IT READS IS OF BULK AT MOST 1048576: true; the input reads as it did. -/
def polyInterpolatesUptoRow : OpenClaim := { program := "ytiejggpmjapajaa", sum := "f8bccda8896b3ac4cbe32510623442915c6b37bcbdf8c5915472cc8702f80230", func := "codewright/codewrightlaw05.PolyInterpolates", spec := "polyInterpolates", apart := false, narrowed := true }
def PolyInterpolatesUptoSaid : Prop := polyInterpolatesUptoRow.holds Try.pinned (OpenSpec.upto polyInterpolatesSpec)

/-- 'codewrightlaw05.PolyBezouts', WHERE WHAT IT READS IS OF BULK AT MOST 1048576: true; the input reads as it did. -/
def polyBezoutsUptoRow : OpenClaim := { program := "ytiejggpmjapajaa", sum := "f8bccda8896b3ac4cbe32510623442915c6b37bcbdf8c5915472cc8702f80230", func := "codewright/codewrightlaw05.PolyBezouts", spec := "polyBezouts", apart := false, narrowed := true }
def PolyBezoutsUptoSaid : Prop := polyBezoutsUptoRow.holds Try.pinned (OpenSpec.upto polyBezoutsSpec)

end Rows
end Go.Proofs.Ytiejggpmjapajaa
