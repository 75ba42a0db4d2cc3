/- Lemmas of the proof. -/
import Derived.Test.YthbcdhfiibpeaaaGreatTc1
open Nat renaming reduceBEq→zA,reduceBNe→zB,reduceAdd→zC,reduceSub→zD,reduceMul→zE,reduceLeDiff→zF,reduceLT→zG,reduceEqDiff→zH
open Int renaming reduceToNat→zI,reduceLE→zJ,reduceLT→zK,reduceEq→zL
open Bool renaming not_eq_true'→zM,not_eq_false'→zN
set_option linter.unusedSimpArgs false
set_option linter.unusedVariables false
set_option maxRecDepth 20000
set_option maxHeartbeats 64000000
namespace Go.Proofs.YthbcdhfiibpeaaaGreat
open Go Go.Sx
abbrev LT (t:TyD):T:= .st [.sl 8 (t.1.map a0c), .int .i64 t.2]
theorem b1M (x:Val) (t:TyD) (hx:a0C x=true) (hs:TSm t.1) (hw:wfP t.1 t.2=0) {b:Bool} (hb:a1q x t=b):PC Tryz.prog 14 [.st [.int .i64 x.kind, .int .i64 x.num, .str x.text, .sl 7 (x.kids.map a0g), .sl 2 (x.keys.map a0k), .sl 9 (x.ents.map a0l), .sl 1 (x.labels.map Sx.encStr)], .st [.sl 8 (t.1.map a0c), .int .i64 t.2]] (Bo b):=by
  have:=a9b x t.1 t.2 hs
  rw[b53 hw,hx,Bool.true_and,hb] at this
  exact this
end Go.Proofs.YthbcdhfiibpeaaaGreat


