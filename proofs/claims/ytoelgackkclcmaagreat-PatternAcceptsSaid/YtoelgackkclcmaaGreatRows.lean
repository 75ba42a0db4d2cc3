/-
  No cell of these rows narrows 'for every input' (looked for: loops, veiled, ifaces, maps, wideKeys, modest, calm, conditions, laid).
  DERIVED. THE GIVEN ROWS OF THIS SEAT. 4 by the template 'for every input the law returns true; each argument reads behind the call as it read before'; 0 by the template 'total and deterministic' (their statements: YtoelgackkclcmaaGreatTotals.lean).
  GIVEN WITH THE SEED: the statements are not yours to turn. If you find one false, say at which input.
  Laid BY PROGRAM, IN A SANDBOX (cutbox-rows.mjs): the forced cells as the released guide's own fill.sh prints them over the translation 63aea8a12be8bbf6… (all of the seat's roots in one cut). By AI agents, Wed Nov 11 2026. No macro, syntax, notation, axiom, sorry.
-/
import Derived.Test.YtoelgackkclcmaaGreatChecked
import GoSem.Claim
import GoSem.ClaimJoined
import GoSem.ClaimMapViews
import Derived.JoinedTies
import Derived.KernelRfl
namespace Go.Proofs.YtoelgackkclcmaaGreat
/- THE CELL 'sum', in the pinned program and in every row, IS THE sha256 OF THE DUMP (.gsa) THAT YtoelgackkclcmaaGreatProg.lean LOADS. Nothing in Lean hashes anything: it is a label: what it is worth is what the hold of that sum in a sandbox is worth. -/
noncomputable def Tryz.pinned : Pinned := { name := "ytoelgackkclcmaagreat", sum := "63aea8a12be8bbf6247359e67ee51aeaa8f4398d439ea40c2d92a2d088249d3d", checked := Tryz.checked }
namespace Rows
def none {H : Type} : Left H := { results := [], args := [] }

/-- 'semtypelaw24.PatternAccepts': WHATEVER THE INPUT: true; the input reads as it did. -/
def patternAcceptsSpec : ChangeSpec := { name := "patternAccepts", fn := fun _ => fun
  | [d1, d2, d3, d4] => { results := [.lit (.bool true)], args := [d1, d2, d3, d4] }
  | _ => none }
def patternAcceptsRow : OpenClaim := { program := "ytoelgackkclcmaagreat", sum := "63aea8a12be8bbf6247359e67ee51aeaa8f4398d439ea40c2d92a2d088249d3d", func := "semtype/semtypelaw24.PatternAccepts", spec := "patternAccepts", inPlace := ["internal/bytealg.abigen_runtime_cmpstring"], unfollowed := true, recurses := true, apart := false }
def PatternAcceptsSaid : Prop := patternAcceptsRow.holds Tryz.pinned (OpenSpec.ofChange patternAcceptsSpec)

/-- ITS FALSE NEIGHBOUR: 'it returns false'. Refute it at one input. -/
def patternAcceptsWrong : ChangeSpec := { name := "patternAccepts", fn := fun _ => fun
  | [d1, d2, d3, d4] => { results := [.lit (.bool false)], args := [d1, d2, d3, d4] }
  | _ => none }
def PatternAcceptsWrongFalsely : Prop := patternAcceptsRow.holds Tryz.pinned (OpenSpec.ofChange patternAcceptsWrong)

/-- 'semtypelaw25.GuardNarrows': WHATEVER THE INPUT: true; the input reads as it did. -/
def guardNarrowsSpec : ChangeSpec := { name := "guardNarrows", fn := fun _ => fun
  | [d1, d2, d3, d4] => { results := [.lit (.bool true)], args := [d1, d2, d3, d4] }
  | _ => none }
def guardNarrowsRow : OpenClaim := { program := "ytoelgackkclcmaagreat", sum := "63aea8a12be8bbf6247359e67ee51aeaa8f4398d439ea40c2d92a2d088249d3d", func := "semtype/semtypelaw25.GuardNarrows", spec := "guardNarrows", inPlace := ["internal/bytealg.abigen_runtime_cmpstring"], unfollowed := true, recurses := true, apart := false }
def GuardNarrowsSaid : Prop := guardNarrowsRow.holds Tryz.pinned (OpenSpec.ofChange guardNarrowsSpec)

/-- ITS FALSE NEIGHBOUR: 'it returns false'. Refute it at one input. -/
def guardNarrowsWrong : ChangeSpec := { name := "guardNarrows", fn := fun _ => fun
  | [d1, d2, d3, d4] => { results := [.lit (.bool false)], args := [d1, d2, d3, d4] }
  | _ => none }
def GuardNarrowsWrongFalsely : Prop := guardNarrowsRow.holds Tryz.pinned (OpenSpec.ofChange guardNarrowsWrong)

/-- 'semtypelaw25.GuardAccepts': WHATEVER THE INPUT: true; the input reads as it did. -/
def guardAcceptsSpec : ChangeSpec := { name := "guardAccepts", fn := fun _ => fun
  | [d1, d2, d3, d4] => { results := [.lit (.bool true)], args := [d1, d2, d3, d4] }
  | _ => none }
def guardAcceptsRow : OpenClaim := { program := "ytoelgackkclcmaagreat", sum := "63aea8a12be8bbf6247359e67ee51aeaa8f4398d439ea40c2d92a2d088249d3d", func := "semtype/semtypelaw25.GuardAccepts", spec := "guardAccepts", inPlace := ["internal/bytealg.abigen_runtime_cmpstring"], unfollowed := true, recurses := true, apart := false }
def GuardAcceptsSaid : Prop := guardAcceptsRow.holds Tryz.pinned (OpenSpec.ofChange guardAcceptsSpec)

/-- ITS FALSE NEIGHBOUR: 'it returns false'. Refute it at one input. -/
def guardAcceptsWrong : ChangeSpec := { name := "guardAccepts", fn := fun _ => fun
  | [d1, d2, d3, d4] => { results := [.lit (.bool false)], args := [d1, d2, d3, d4] }
  | _ => none }
def GuardAcceptsWrongFalsely : Prop := guardAcceptsRow.holds Tryz.pinned (OpenSpec.ofChange guardAcceptsWrong)

/-- 'semtypelaw25.GuardClauses': WHATEVER THE INPUT: true; the input reads as it did. -/
def guardClausesSpec : ChangeSpec := { name := "guardClauses", fn := fun _ => fun
  | [d1, d2, d3, d4] => { results := [.lit (.bool true)], args := [d1, d2, d3, d4] }
  | _ => none }
def guardClausesRow : OpenClaim := { program := "ytoelgackkclcmaagreat", sum := "63aea8a12be8bbf6247359e67ee51aeaa8f4398d439ea40c2d92a2d088249d3d", func := "semtype/semtypelaw25.GuardClauses", spec := "guardClauses", inPlace := ["internal/bytealg.abigen_runtime_cmpstring"], unfollowed := true, recurses := true, apart := false }
def GuardClausesSaid : Prop := guardClausesRow.holds Tryz.pinned (OpenSpec.ofChange guardClausesSpec)

/-- ITS FALSE NEIGHBOUR: 'it returns false'. Refute it at one input. -/
def guardClausesWrong : ChangeSpec := { name := "guardClauses", fn := fun _ => fun
  | [d1, d2, d3, d4] => { results := [.lit (.bool false)], args := [d1, d2, d3, d4] }
  | _ => none }
def GuardClausesWrongFalsely : Prop := guardClausesRow.holds Tryz.pinned (OpenSpec.ofChange guardClausesWrong)

/- THE SECOND FORM. 'bulk': how many values and letters a reading holds, each counted each time it is reached (what is shared counts as often as it is met; a slice's spare places count too). A statement '..UptoSaid' is the law's where the arguments, and the package variables that the reading takes, are together of bulk at most 1048576: NARROWER than '..Said'. Prove '..Said' where nothing that the law and all that it calls make is longer than what came in: it says more and counts as full. Else prove '..UptoSaid'. A law counts once. -/
mutual
def uptoBulk {H : Type} : DataW H → Nat
  | .lit (.string bytes) => bytes.length + 1
  | .lit _ => 1
  | .nil => 1
  | .ptr d => uptoBulk d + 1
  | .slice elems spare => uptoBulkAll elems + uptoBulkAll spare + 1
  | .agg parts => uptoBulkAll parts + 1
  | .iface _ d => uptoBulk d + 1
  | .map entries => uptoBulkEntries entries + 1
  | .held _ => 1
def uptoBulkAll {H : Type} : List (DataW H) → Nat
  | [] => 0
  | d :: r => uptoBulk d + uptoBulkAll r
def uptoBulkEntries {H : Type} : List (Lit × DataW H) → Nat
  | [] => 0
  | x :: r => uptoBulkEntry x + uptoBulkEntries r
def uptoBulkEntry {H : Type} : Lit × DataW H → Nat
  | (.string bytes, d) => bytes.length + uptoBulk d + 1
  | (_, d) => uptoBulk d + 1
 end
def uptoSmall : (H : Type) → List (DataW H) → Bool := fun _ ds => decide (uptoBulkAll ds ≤ 1048576)
def OpenSpec.upto (s : _root_.Go.ChangeSpec) : _root_.Go.OpenSpec := { _root_.Go.OpenSpec.ofChange s with cond := some uptoSmall }

/-- 'semtypelaw24.PatternAccepts', WHERE WHAT IT READS IS OF BULK AT MOST 1048576: true; the input reads as it did. -/
def patternAcceptsUptoRow : OpenClaim := { program := "ytoelgackkclcmaagreat", sum := "63aea8a12be8bbf6247359e67ee51aeaa8f4398d439ea40c2d92a2d088249d3d", func := "semtype/semtypelaw24.PatternAccepts", spec := "patternAccepts", inPlace := ["internal/bytealg.abigen_runtime_cmpstring"], unfollowed := true, recurses := true, apart := false, narrowed := true }
def PatternAcceptsUptoSaid : Prop := patternAcceptsUptoRow.holds Tryz.pinned (OpenSpec.upto patternAcceptsSpec)

/-- 'semtypelaw25.GuardNarrows', WHERE WHAT IT READS IS OF BULK AT MOST 1048576: true; the input reads as it did. -/
def guardNarrowsUptoRow : OpenClaim := { program := "ytoelgackkclcmaagreat", sum := "63aea8a12be8bbf6247359e67ee51aeaa8f4398d439ea40c2d92a2d088249d3d", func := "semtype/semtypelaw25.GuardNarrows", spec := "guardNarrows", inPlace := ["internal/bytealg.abigen_runtime_cmpstring"], unfollowed := true, recurses := true, apart := false, narrowed := true }
def GuardNarrowsUptoSaid : Prop := guardNarrowsUptoRow.holds Tryz.pinned (OpenSpec.upto guardNarrowsSpec)

/-- 'semtypelaw25.GuardAccepts', WHERE WHAT IT READS IS OF BULK AT MOST 1048576: true; the input reads as it did. -/
def guardAcceptsUptoRow : OpenClaim := { program := "ytoelgackkclcmaagreat", sum := "63aea8a12be8bbf6247359e67ee51aeaa8f4398d439ea40c2d92a2d088249d3d", func := "semtype/semtypelaw25.GuardAccepts", spec := "guardAccepts", inPlace := ["internal/bytealg.abigen_runtime_cmpstring"], unfollowed := true, recurses := true, apart := false, narrowed := true }
def GuardAcceptsUptoSaid : Prop := guardAcceptsUptoRow.holds Tryz.pinned (OpenSpec.upto guardAcceptsSpec)

/-- 'semtypelaw25.GuardClauses', WHERE WHAT IT READS IS OF BULK AT MOST 1048576: true; the input reads as it did. -/
def guardClausesUptoRow : OpenClaim := { program := "ytoelgackkclcmaagreat", sum := "63aea8a12be8bbf6247359e67ee51aeaa8f4398d439ea40c2d92a2d088249d3d", func := "semtype/semtypelaw25.GuardClauses", spec := "guardClauses", inPlace := ["internal/bytealg.abigen_runtime_cmpstring"], unfollowed := true, recurses := true, apart := false, narrowed := true }
def GuardClausesUptoSaid : Prop := guardClausesUptoRow.holds Tryz.pinned (OpenSpec.upto guardClausesSpec)

end Rows
end Go.Proofs.YtoelgackkclcmaaGreat
