/-
  NARROWER THAN 'FOR EVERY INPUT', by the rows' own cells (each row's printed sentence says how): GuardEvaluates: loops · GuardValid: loops · PatternValid: loops · PatternMatches: loops.
  DERIVED. THE GIVEN ROWS OF THIS SEAT. 4 by the template 'for every input the law returns true; each argument reads behind the call as it read before'; 0 by the template 'total and deterministic' (their statements: YteobojeemflggaaGreatTotals.lean).
  GIVEN WITH THE SEED: the statements are not yours to turn. If you find one false, say at which input.
  Laid BY PROGRAM, IN A SANDBOX (cutbox-rows.mjs): the forced cells as the released guide's own fill.sh prints them over the translation 42998f3b8a4611c5… (all of the seat's roots in one cut). By AI agents, Wed Nov 11 2026. No macro, syntax, notation, axiom, sorry.
-/
import Derived.Test.YteobojeemflggaaGreatChecked
import GoSem.Claim
import GoSem.ClaimJoined
import GoSem.ClaimMapViews
import Derived.JoinedTies
import Derived.KernelRfl
namespace Go.Proofs.YteobojeemflggaaGreat
/- THE CELL 'sum', in the pinned program and in every row, IS THE sha256 OF THE DUMP (.gsa) THAT YteobojeemflggaaGreatProg.lean LOADS. Nothing in Lean hashes anything: it is a label: what it is worth is what the hold of that sum in a sandbox is worth. -/
noncomputable def Tryz.pinned : Pinned := { name := "yteobojeemflggaagreat", sum := "42998f3b8a4611c5a8cd1d8c464c56398a49760067fc404894b5cedd7612f774", checked := Tryz.checked }
namespace Rows
def none {H : Type} : Left H := { results := [], args := [] }

/-- 'semtypelaw25.GuardEvaluates': WHATEVER THE INPUT: true; the input reads as it did. -/
def guardEvaluatesSpec : ChangeSpec := { name := "guardEvaluates", fn := fun _ => fun
  | [d1, d2, d3, d4] => { results := [.lit (.bool true)], args := [d1, d2, d3, d4] }
  | _ => none }
def guardEvaluatesRow : OpenClaim := { program := "yteobojeemflggaagreat", sum := "42998f3b8a4611c5a8cd1d8c464c56398a49760067fc404894b5cedd7612f774", func := "semtype/semtypelaw25.GuardEvaluates", spec := "guardEvaluates", inPlace := ["internal/bytealg.abigen_runtime_cmpstring"], unfollowed := true, recurses := true, loops := true, apart := false }
def GuardEvaluatesSaid : Prop := guardEvaluatesRow.holds Tryz.pinned (OpenSpec.ofChange guardEvaluatesSpec)

/-- ITS FALSE NEIGHBOUR: 'it returns false'. Refute it at one input. -/
def guardEvaluatesWrong : ChangeSpec := { name := "guardEvaluates", fn := fun _ => fun
  | [d1, d2, d3, d4] => { results := [.lit (.bool false)], args := [d1, d2, d3, d4] }
  | _ => none }
def GuardEvaluatesWrongFalsely : Prop := guardEvaluatesRow.holds Tryz.pinned (OpenSpec.ofChange guardEvaluatesWrong)

/-- 'semtypelaw25.GuardValid': WHATEVER THE INPUT: true; the input reads as it did. -/
def guardValidSpec : ChangeSpec := { name := "guardValid", fn := fun _ => fun
  | [d1, d2, d3, d4, d5] => { results := [.lit (.bool true)], args := [d1, d2, d3, d4, d5] }
  | _ => none }
def guardValidRow : OpenClaim := { program := "yteobojeemflggaagreat", sum := "42998f3b8a4611c5a8cd1d8c464c56398a49760067fc404894b5cedd7612f774", func := "semtype/semtypelaw25.GuardValid", spec := "guardValid", inPlace := ["internal/bytealg.abigen_runtime_cmpstring"], unfollowed := true, recurses := true, loops := true, apart := false }
def GuardValidSaid : Prop := guardValidRow.holds Tryz.pinned (OpenSpec.ofChange guardValidSpec)

/-- ITS FALSE NEIGHBOUR: 'it returns false'. Refute it at one input. -/
def guardValidWrong : ChangeSpec := { name := "guardValid", fn := fun _ => fun
  | [d1, d2, d3, d4, d5] => { results := [.lit (.bool false)], args := [d1, d2, d3, d4, d5] }
  | _ => none }
def GuardValidWrongFalsely : Prop := guardValidRow.holds Tryz.pinned (OpenSpec.ofChange guardValidWrong)

/-- 'semtypelaw24.PatternValid': WHATEVER THE INPUT: true; the input reads as it did. -/
def patternValidSpec : ChangeSpec := { name := "patternValid", fn := fun _ => fun
  | [d1, d2, d3, d4] => { results := [.lit (.bool true)], args := [d1, d2, d3, d4] }
  | _ => none }
def patternValidRow : OpenClaim := { program := "yteobojeemflggaagreat", sum := "42998f3b8a4611c5a8cd1d8c464c56398a49760067fc404894b5cedd7612f774", func := "semtype/semtypelaw24.PatternValid", spec := "patternValid", inPlace := ["internal/bytealg.abigen_runtime_cmpstring"], unfollowed := true, recurses := true, loops := true, apart := false }
def PatternValidSaid : Prop := patternValidRow.holds Tryz.pinned (OpenSpec.ofChange patternValidSpec)

/-- ITS FALSE NEIGHBOUR: 'it returns false'. Refute it at one input. -/
def patternValidWrong : ChangeSpec := { name := "patternValid", fn := fun _ => fun
  | [d1, d2, d3, d4] => { results := [.lit (.bool false)], args := [d1, d2, d3, d4] }
  | _ => none }
def PatternValidWrongFalsely : Prop := patternValidRow.holds Tryz.pinned (OpenSpec.ofChange patternValidWrong)

/-- 'semtypelaw24.PatternMatches': WHATEVER THE INPUT: true; the input reads as it did. -/
def patternMatchesSpec : ChangeSpec := { name := "patternMatches", fn := fun _ => fun
  | [d1, d2, d3, d4] => { results := [.lit (.bool true)], args := [d1, d2, d3, d4] }
  | _ => none }
def patternMatchesRow : OpenClaim := { program := "yteobojeemflggaagreat", sum := "42998f3b8a4611c5a8cd1d8c464c56398a49760067fc404894b5cedd7612f774", func := "semtype/semtypelaw24.PatternMatches", spec := "patternMatches", inPlace := ["internal/bytealg.abigen_runtime_cmpstring"], unfollowed := true, recurses := true, loops := true, apart := false }
def PatternMatchesSaid : Prop := patternMatchesRow.holds Tryz.pinned (OpenSpec.ofChange patternMatchesSpec)

/-- ITS FALSE NEIGHBOUR: 'it returns false'. Refute it at one input. -/
def patternMatchesWrong : ChangeSpec := { name := "patternMatches", fn := fun _ => fun
  | [d1, d2, d3, d4] => { results := [.lit (.bool false)], args := [d1, d2, d3, d4] }
  | _ => none }
def PatternMatchesWrongFalsely : Prop := patternMatchesRow.holds Tryz.pinned (OpenSpec.ofChange patternMatchesWrong)

/- THE SECOND FORM. 'bulk': how many values and letters a reading holds, each counted each time it is reached (what is shared counts as often as it is met; a slice's spare places count too). A statement '..UptoSaid' is the law's where the arguments, and the package variables that the reading takes, are together of bulk at most 1048576: NARROWER than '..Said'. Prove '..Said' where nothing that the law and all that it calls make is longer than what came in: it says more and counts as full. Else prove '..UptoSaid'. A law counts once. -/
mutual
def uptoBulk {H : Type} : DataW H → Nat
  | .lit (.string bytes) => bytes.length + 1
  | .lit _ => 1
  | .nil => 1
  | .ptr d => uptoBulk d + 1
  | .slice elems spare => uptoBulkAll elems + uptoBulkAll spare + 1
  | .agg parts => uptoBulkAll parts + 1
  | .iface _ d => uptoBulk d + 1
  | .map entries => uptoBulkEntries entries + 1
  | .held _ => 1
def uptoBulkAll {H : Type} : List (DataW H) → Nat
  | [] => 0
  | d :: r => uptoBulk d + uptoBulkAll r
def uptoBulkEntries {H : Type} : List (Lit × DataW H) → Nat
  | [] => 0
  | x :: r => uptoBulkEntry x + uptoBulkEntries r
def uptoBulkEntry {H : Type} : Lit × DataW H → Nat
  | (.string bytes, d) => bytes.length + uptoBulk d + 1
  | (_, d) => uptoBulk d + 1
 end
def uptoSmall : (H : Type) → List (DataW H) → Bool := fun _ ds => decide (uptoBulkAll ds ≤ 1048576)
def OpenSpec.upto (s : _root_.Go.ChangeSpec) : _root_.Go.OpenSpec := { _root_.Go.OpenSpec.ofChange s with cond := some uptoSmall }

/-- 'semtypelaw25.GuardEvaluates', WHERE WHAT IT READS IS OF BULK AT MOST 1048576: true; the input reads as it did. -/
def guardEvaluatesUptoRow : OpenClaim := { program := "yteobojeemflggaagreat", sum := "42998f3b8a4611c5a8cd1d8c464c56398a49760067fc404894b5cedd7612f774", func := "semtype/semtypelaw25.GuardEvaluates", spec := "guardEvaluates", inPlace := ["internal/bytealg.abigen_runtime_cmpstring"], unfollowed := true, recurses := true, loops := true, apart := false, narrowed := true }
def GuardEvaluatesUptoSaid : Prop := guardEvaluatesUptoRow.holds Tryz.pinned (OpenSpec.upto guardEvaluatesSpec)

/-- 'semtypelaw25.GuardValid', WHERE WHAT IT READS IS OF BULK AT MOST 1048576: true; the input reads as it did. -/
def guardValidUptoRow : OpenClaim := { program := "yteobojeemflggaagreat", sum := "42998f3b8a4611c5a8cd1d8c464c56398a49760067fc404894b5cedd7612f774", func := "semtype/semtypelaw25.GuardValid", spec := "guardValid", inPlace := ["internal/bytealg.abigen_runtime_cmpstring"], unfollowed := true, recurses := true, loops := true, apart := false, narrowed := true }
def GuardValidUptoSaid : Prop := guardValidUptoRow.holds Tryz.pinned (OpenSpec.upto guardValidSpec)

/-- 'semtypelaw24.PatternValid', WHERE WHAT IT READS IS OF BULK AT MOST 1048576: true; the input reads as it did. -/
def patternValidUptoRow : OpenClaim := { program := "yteobojeemflggaagreat", sum := "42998f3b8a4611c5a8cd1d8c464c56398a49760067fc404894b5cedd7612f774", func := "semtype/semtypelaw24.PatternValid", spec := "patternValid", inPlace := ["internal/bytealg.abigen_runtime_cmpstring"], unfollowed := true, recurses := true, loops := true, apart := false, narrowed := true }
def PatternValidUptoSaid : Prop := patternValidUptoRow.holds Tryz.pinned (OpenSpec.upto patternValidSpec)

/-- 'semtypelaw24.PatternMatches', WHERE WHAT IT READS IS OF BULK AT MOST 1048576: true; the input reads as it did. -/
def patternMatchesUptoRow : OpenClaim := { program := "yteobojeemflggaagreat", sum := "42998f3b8a4611c5a8cd1d8c464c56398a49760067fc404894b5cedd7612f774", func := "semtype/semtypelaw24.PatternMatches", spec := "patternMatches", inPlace := ["internal/bytealg.abigen_runtime_cmpstring"], unfollowed := true, recurses := true, loops := true, apart := false, narrowed := true }
def PatternMatchesUptoSaid : Prop := patternMatchesUptoRow.holds Tryz.pinned (OpenSpec.upto patternMatchesSpec)

end Rows
end Go.Proofs.YteobojeemflggaaGreat
