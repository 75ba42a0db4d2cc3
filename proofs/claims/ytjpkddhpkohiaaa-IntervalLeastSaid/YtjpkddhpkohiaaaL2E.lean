/- A part of the proof: lemmas about the walk of the program and about plain integers and lists. No conditions beyond those that each lemma states. -/
import Derived.Test.YtjpkddhpkohiaaaL2Plain
import Derived.Test.YtjpkddhpkohiaaaSxWalk
namespace Go.Sx
open Go.Ivl
def encR (x : Rg) : List C := [.int .i64 x.lo, .int .i64 x.hi]
theorem encR_lit (x : Rg) : encR x = [.int .i64 x.lo, .int .i64 x.hi] := rfl
@[go_sem] theorem encR_cut (x : Rg) : cutC 2 (encR x) = some (encR x, []) := by rfl
@[go_sem low] theorem encR_cutk (x : Rg) (k : Nat) : cutC k (encR x) = cutC k [.int .i64 x.lo, .int .i64 x.hi] := by rw [encR_lit]
@[go_sem] theorem encR_cutm (x : Rg) : cutC 2 ((encR x).map Cell.dat) = some ((encR x).map Cell.dat, []) := by rfl
@[go_sem low] theorem encR_cutmk (x : Rg) (k : Nat) : cutC k ((encR x).map Cell.dat) = cutC k (([.int .i64 x.lo, .int .i64 x.hi] : List C).map Cell.dat) := by rw [encR_lit]
@[go_sem] theorem encR_soft (x : Rg) : (encR x).map C.soft = encR x := by rfl
@[go_sem] theorem encR_len (x : Rg) : lenIs 2 (encR x) = true := by rfl
@[go_sem high] theorem encR_takeP (x : Rg) (n : Nat) (K : T → Prop) : takeP false n (encR x) K = K (.one (.dat (.int .i64 x.lo))) := by rw [encR_lit]; rfl
@[go_sem high] theorem encR_takeT (x : Rg) (n : Nat) (K : T → Prop) : takeT false n ((encR x).map Cell.dat) K = K (.one (.dat (.int .i64 x.lo))) := by rw [encR_lit]; rfl
@[go_sem] theorem encR_lenm (x : Rg) : lenIs 2 ((encR x).map Cell.dat) = true := by rfl
end Go.Sx
