/-
  No cell of these rows narrows 'for every input' (looked for: loops, veiled, ifaces, maps, wideKeys, modest, calm, conditions, laid).
  DERIVED. THE GIVEN ROWS OF THIS SEAT. 4 by the template 'for every input the law returns true; each argument reads behind the call as it read before'; 0 by the template 'total and deterministic' (their statements: YtmpfdejckbceiaaTotals.lean).
  GIVEN WITH THE SEED: the statements are not yours to turn. If you find one false, say at which input.
  Laid BY PROGRAM, IN A SANDBOX (cutbox-rows.mjs): the forced cells as the released guide's own fill.sh prints them over the translation 6ee8ece0c66688d5… (all of the seat's roots in one cut). By AI agents, Wed Nov 11 2026. No macro, syntax, notation, axiom, sorry.
-/
import Derived.Test.YtmpfdejckbceiaaChecked
import GoSem.Claim
import GoSem.ClaimJoined
import GoSem.ClaimMapViews
import Derived.JoinedTies
import Derived.KernelRfl
namespace Go.Proofs.Ytmpfdejckbceiaa
/- THE CELL 'sum', in the pinned program and in every row, IS THE sha256 OF THE DUMP (.gsa) THAT YtmpfdejckbceiaaProg.lean LOADS. Nothing in Lean hashes anything: it is a label: what it is worth is what the hold of that sum in a sandbox is worth. -/
noncomputable def Try.pinned : Pinned := { name := "ytmpfdejckbceiaa", sum := "6ee8ece0c66688d52a7c0c5a9ae9dffc13a59d1db2888a6f7cb152fa882b00f0", checked := Try.checked }
namespace Rows
def none {H : Type} : Left H := { results := [], args := [] }

/-- 'semtypelaw41.DatumOperates': WHATEVER THE INPUT: true; the input reads as it did. -/
def datumOperatesSpec : ChangeSpec := { name := "datumOperates", fn := fun _ => fun
  | [d1, d2, d3, d4, d5] => { results := [.lit (.bool true)], args := [d1, d2, d3, d4, d5] }
  | _ => none }
def datumOperatesRow : OpenClaim := { program := "ytmpfdejckbceiaa", sum := "6ee8ece0c66688d52a7c0c5a9ae9dffc13a59d1db2888a6f7cb152fa882b00f0", func := "semtype/semtypelaw41.DatumOperates", spec := "datumOperates", inPlace := ["internal/bytealg.abigen_runtime_cmpstring"], unfollowed := true, recurses := true, apart := false }
def DatumOperatesSaid : Prop := datumOperatesRow.holds Try.pinned (OpenSpec.ofChange datumOperatesSpec)

/-- ITS FALSE NEIGHBOUR: 'it returns false'. Refute it at one input. -/
def datumOperatesWrong : ChangeSpec := { name := "datumOperates", fn := fun _ => fun
  | [d1, d2, d3, d4, d5] => { results := [.lit (.bool false)], args := [d1, d2, d3, d4, d5] }
  | _ => none }
def DatumOperatesWrongFalsely : Prop := datumOperatesRow.holds Try.pinned (OpenSpec.ofChange datumOperatesWrong)

/-- 'semtypelaw41.DatumDivides': WHATEVER THE INPUT: true; the input reads as it did. -/
def datumDividesSpec : ChangeSpec := { name := "datumDivides", fn := fun _ => fun
  | [d1, d2] => { results := [.lit (.bool true)], args := [d1, d2] }
  | _ => none }
def datumDividesRow : OpenClaim := { program := "ytmpfdejckbceiaa", sum := "6ee8ece0c66688d52a7c0c5a9ae9dffc13a59d1db2888a6f7cb152fa882b00f0", func := "semtype/semtypelaw41.DatumDivides", spec := "datumDivides", inPlace := ["internal/bytealg.abigen_runtime_cmpstring"], unfollowed := true, recurses := true, apart := false }
def DatumDividesSaid : Prop := datumDividesRow.holds Try.pinned (OpenSpec.ofChange datumDividesSpec)

/-- ITS FALSE NEIGHBOUR: 'it returns false'. Refute it at one input. -/
def datumDividesWrong : ChangeSpec := { name := "datumDivides", fn := fun _ => fun
  | [d1, d2] => { results := [.lit (.bool false)], args := [d1, d2] }
  | _ => none }
def DatumDividesWrongFalsely : Prop := datumDividesRow.holds Try.pinned (OpenSpec.ofChange datumDividesWrong)

/-- 'semtypelaw41.DatumBack': WHATEVER THE INPUT: true; the input reads as it did. -/
def datumBackSpec : ChangeSpec := { name := "datumBack", fn := fun _ => fun
  | [d] => { results := [.lit (.bool true)], args := [d] }
  | _ => none }
def datumBackRow : OpenClaim := { program := "ytmpfdejckbceiaa", sum := "6ee8ece0c66688d52a7c0c5a9ae9dffc13a59d1db2888a6f7cb152fa882b00f0", func := "semtype/semtypelaw41.DatumBack", spec := "datumBack", inPlace := ["internal/bytealg.abigen_runtime_cmpstring"], unfollowed := true, recurses := true, apart := false }
def DatumBackSaid : Prop := datumBackRow.holds Try.pinned (OpenSpec.ofChange datumBackSpec)

/-- ITS FALSE NEIGHBOUR: 'it returns false'. Refute it at one input. -/
def datumBackWrong : ChangeSpec := { name := "datumBack", fn := fun _ => fun
  | [d] => { results := [.lit (.bool false)], args := [d] }
  | _ => none }
def DatumBackWrongFalsely : Prop := datumBackRow.holds Try.pinned (OpenSpec.ofChange datumBackWrong)

/-- 'semtypelaw41.DatumParts': WHATEVER THE INPUT: true; the input reads as it did. -/
def datumPartsSpec : ChangeSpec := { name := "datumParts", fn := fun _ => fun
  | [d1, d2] => { results := [.lit (.bool true)], args := [d1, d2] }
  | _ => none }
def datumPartsRow : OpenClaim := { program := "ytmpfdejckbceiaa", sum := "6ee8ece0c66688d52a7c0c5a9ae9dffc13a59d1db2888a6f7cb152fa882b00f0", func := "semtype/semtypelaw41.DatumParts", spec := "datumParts", inPlace := ["internal/bytealg.abigen_runtime_cmpstring", "slices.overlaps[semtype/api.Key]", "slices.overlaps[semtype/api.Datum]"], unfollowed := true, recurses := true, apart := false }
def DatumPartsSaid : Prop := datumPartsRow.holds Try.pinned (OpenSpec.ofChange datumPartsSpec)

/-- ITS FALSE NEIGHBOUR: 'it returns false'. Refute it at one input. -/
def datumPartsWrong : ChangeSpec := { name := "datumParts", fn := fun _ => fun
  | [d1, d2] => { results := [.lit (.bool false)], args := [d1, d2] }
  | _ => none }
def DatumPartsWrongFalsely : Prop := datumPartsRow.holds Try.pinned (OpenSpec.ofChange datumPartsWrong)

/- THE SECOND FORM. 'bulk': how many values and letters a reading holds, each counted each time it is reached (what is shared counts as often as it is met; a slice's spare places count too). A statement '..UptoSaid' is the law's where the arguments, and the package variables that the reading takes, are together of bulk at most 1048576: NARROWER than '..Said'. Prove '..Said' where nothing that the law and all that it calls make is longer than what came in: it says more and counts as full. Else prove '..UptoSaid'. A law counts once. -/
mutual
def uptoBulk {H : Type} : DataW H → Nat
  | .lit (.string bytes) => bytes.length + 1
  | .lit _ => 1
  | .nil => 1
  | .ptr d => uptoBulk d + 1
  | .slice elems spare => uptoBulkAll elems + uptoBulkAll spare + 1
  | .agg parts => uptoBulkAll parts + 1
  | .iface _ d => uptoBulk d + 1
  | .map entries => uptoBulkEntries entries + 1
  | .held _ => 1
def uptoBulkAll {H : Type} : List (DataW H) → Nat
  | [] => 0
  | d :: r => uptoBulk d + uptoBulkAll r
def uptoBulkEntries {H : Type} : List (Lit × DataW H) → Nat
  | [] => 0
  | x :: r => uptoBulkEntry x + uptoBulkEntries r
def uptoBulkEntry {H : Type} : Lit × DataW H → Nat
  | (.string bytes, d) => bytes.length + uptoBulk d + 1
  | (_, d) => uptoBulk d + 1
 end
def uptoSmall : (H : Type) → List (DataW H) → Bool := fun _ ds => decide (uptoBulkAll ds ≤ 1048576)
def OpenSpec.upto (s : _root_.Go.ChangeSpec) : _root_.Go.OpenSpec := { _root_.Go.OpenSpec.ofChange s with cond := some uptoSmall }

/-- 'semtypelaw41.DatumOperates', WHERE WHAT IT READS IS OF BULK AT MOST 1048576: true; the input reads as it did. -/
def datumOperatesUptoRow : OpenClaim := { program := "ytmpfdejckbceiaa", sum := "6ee8ece0c66688d52a7c0c5a9ae9dffc13a59d1db2888a6f7cb152fa882b00f0", func := "semtype/semtypelaw41.DatumOperates", spec := "datumOperates", inPlace := ["internal/bytealg.abigen_runtime_cmpstring"], unfollowed := true, recurses := true, apart := false, narrowed := true }
def DatumOperatesUptoSaid : Prop := datumOperatesUptoRow.holds Try.pinned (OpenSpec.upto datumOperatesSpec)

/-- 'semtypelaw41.DatumDivides', WHERE WHAT IT READS IS OF BULK AT MOST 1048576: true; the input reads as it did. -/
def datumDividesUptoRow : OpenClaim := { program := "ytmpfdejckbceiaa", sum := "6ee8ece0c66688d52a7c0c5a9ae9dffc13a59d1db2888a6f7cb152fa882b00f0", func := "semtype/semtypelaw41.DatumDivides", spec := "datumDivides", inPlace := ["internal/bytealg.abigen_runtime_cmpstring"], unfollowed := true, recurses := true, apart := false, narrowed := true }
def DatumDividesUptoSaid : Prop := datumDividesUptoRow.holds Try.pinned (OpenSpec.upto datumDividesSpec)

/-- 'semtypelaw41.DatumBack', WHERE WHAT IT READS IS OF BULK AT MOST 1048576: true; the input reads as it did. -/
def datumBackUptoRow : OpenClaim := { program := "ytmpfdejckbceiaa", sum := "6ee8ece0c66688d52a7c0c5a9ae9dffc13a59d1db2888a6f7cb152fa882b00f0", func := "semtype/semtypelaw41.DatumBack", spec := "datumBack", inPlace := ["internal/bytealg.abigen_runtime_cmpstring"], unfollowed := true, recurses := true, apart := false, narrowed := true }
def DatumBackUptoSaid : Prop := datumBackUptoRow.holds Try.pinned (OpenSpec.upto datumBackSpec)

/-- 'semtypelaw41.DatumParts', WHERE WHAT IT READS IS OF BULK AT MOST 1048576: true; the input reads as it did. -/
def datumPartsUptoRow : OpenClaim := { program := "ytmpfdejckbceiaa", sum := "6ee8ece0c66688d52a7c0c5a9ae9dffc13a59d1db2888a6f7cb152fa882b00f0", func := "semtype/semtypelaw41.DatumParts", spec := "datumParts", inPlace := ["internal/bytealg.abigen_runtime_cmpstring", "slices.overlaps[semtype/api.Key]", "slices.overlaps[semtype/api.Datum]"], unfollowed := true, recurses := true, apart := false, narrowed := true }
def DatumPartsUptoSaid : Prop := datumPartsUptoRow.holds Try.pinned (OpenSpec.upto datumPartsSpec)

end Rows
end Go.Proofs.Ytmpfdejckbceiaa
