/- Lemmas of the proof. -/
import Derived.Test.YthbcdhfiibpeaaaGreatTy16
import Derived.Test.YthbcdhfiibpeaaaGreatTy17
open Nat renaming reduceBEq → zA, reduceBNe → zB, reduceAdd → zC, reduceSub → zD, reduceMul → zE, reduceLeDiff → zF, reduceLT → zG, reduceEqDiff → zH
open Int renaming reduceToNat → zI, reduceLE → zJ, reduceLT → zK, reduceEq → zL
open Bool renaming not_eq_true' → zM, not_eq_false' → zN
set_option linter.unusedSimpArgs false
set_option linter.unusedVariables false
set_option maxRecDepth 20000
set_option maxHeartbeats 64000000
namespace Go.Proofs.YthbcdhfiibpeaaaGreat
open Go Go.Sx
theorem node7_c (l : List NodeD) (r : Int) (x : NodeD) : PC Tryz.prog 49 [Tt l r, Nt x] (Bo (nodeR l x)) := by
  rcases tkinds x.kind with hk | hk | hk | hk | hk | hk | hk | hk | hk | hk | hk | hk | hk | hk | hk | hk | hk | hk | hk | hk
  · exact node_k1 l r x hk
  · exact node_k2 l r x hk
  · exact node_k3 l r x hk
  · exact node_k4 l r x hk
  · exact node_k5 l r x hk
  · exact node_k6 l r x hk
  · exact node_k7 l r x hk
  · exact node_k8 l r x hk
  · exact node_k9 l r x hk
  · exact node_k10 l r x hk
  · exact node_k11 l r x hk
  · exact node_k12 l r x hk
  · exact node_k13 l r x hk
  · exact node_k14 l r x hk
  · exact node_k15 l r x hk
  · exact node_k16 l r x hk
  · exact node_k17 l r x hk
  · exact node_k18 l r x hk
  · exact node_k19 l r x hk
  · exact node_kZ l r x hk
end Go.Proofs.YthbcdhfiibpeaaaGreat

