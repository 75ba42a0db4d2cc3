/- Lemmas of the proof. -/
import Derived.Test.YthbcdhfiibpeaaaGreatTm17
import Derived.Test.YthbcdhfiibpeaaaGreatTm18
open Nat renaming reduceBEq→zA,reduceBNe→zB,reduceAdd→zC,reduceSub→zD,reduceMul→zE,reduceLeDiff→zF,reduceLT→zG,reduceEqDiff→zH
open Int renaming reduceToNat→zI,reduceLE→zJ,reduceLT→zK,reduceEq→zL
open Bool renaming not_eq_true'→zM,not_eq_false'→zN
set_option linter.unusedSimpArgs false
set_option linter.unusedVariables false
set_option maxRecDepth 20000
set_option maxHeartbeats 64000000
namespace Go.Proofs.YthbcdhfiibpeaaaGreat
open Go Go.Sx
theorem c3W (l:List NodeD) (r:Int) (x:NodeD):PC Tryz.prog 49 [Tt l r,Nt x] (Bo (a0D l x)):=by
  rcases c2z x.kind with hk|hk|hk|hk|hk|hk|hk|hk|hk|hk|hk|hk|hk|hk|hk|hk|hk|hk|hk|hk
  · exact c3P l r x hk
  · exact c3Q l r x hk
  · exact c3M l r x hk
  · exact c3N l r x hk
  · exact c3R l r x hk
  · exact c3O l r x hk
  · exact c3S l r x hk
  · exact c3T l r x hk
  · exact c3U l r x hk
  · exact c0T l r x hk
  · exact c0Z l r x hk
  · exact c0U l r x hk
  · exact c0R l r x hk
  · exact c0V l r x hk
  · exact c00 l r x hk
  · exact c0W l r x hk
  · exact c0X l r x hk
  · exact c0Y l r x hk
  · exact c0S l r x hk
  · exact c3V l r x hk
end Go.Proofs.YthbcdhfiibpeaaaGreat

