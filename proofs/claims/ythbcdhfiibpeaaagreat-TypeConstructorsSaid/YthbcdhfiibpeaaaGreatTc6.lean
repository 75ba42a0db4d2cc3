/- Lemmas of the proof. -/
import Derived.Test.YthbcdhfiibpeaaaGreatTc1
import Derived.Test.YthbcdhfiibpeaaaGreatTc5
open Nat renaming reduceBEq→zA,reduceBNe→zB,reduceAdd→zC,reduceSub→zD,reduceMul→zE,reduceLeDiff→zF,reduceLT→zG,reduceEqDiff→zH
open Int renaming reduceToNat→zI,reduceLE→zJ,reduceLT→zK,reduceEq→zL
open Bool renaming not_eq_true'→zM,not_eq_false'→zN
set_option linter.unusedSimpArgs false
set_option linter.unusedVariables false
set_option maxRecDepth 20000
set_option maxHeartbeats 64000000
namespace Go.Proofs.YthbcdhfiibpeaaaGreat
open Go Go.Sx
theorem c0E {n:Nat} {row:List C} (h:a6t Tryz.prog n 83 row):∃ r:Ivl.Rg,row=a3q r∧Ivl.In6 r:=by
 obtain⟨m,parts,rfl,rfl,hl,hf⟩:=b5d Tryz.underlying83 h
 match parts,hl with
 |[p0,p1],_=>
  obtain⟨a,rfl,h1⟩:=Sx.a3U Tryz.underlying2 (hf 0 _ p0 rfl rfl)
  obtain⟨b,rfl,h2⟩:=Sx.a3U Tryz.underlying2 (hf 1 _ p1 rfl rfl)
  exact⟨⟨a,b⟩,rfl,h1,h2⟩
theorem b4m {n:Nat} {row:List C} (h:a6t Tryz.prog n 74 row):∃ (c:Bool) (l:List (List UInt8)),row=[.bool c, .sl 1 (l.map Sx.encStr)]:=by
 obtain⟨m,parts,rfl,rfl,hl,hf⟩:=b5d Tryz.underlying74 h
 match parts,hl with
 |[p0,p1],_=>
  obtain⟨c,rfl⟩:=b6i Tryz.underlying4 (hf 0 _ p0 rfl rfl)
  obtain⟨l,rfl⟩:=b7A (enc:=Sx.encStr) (sz:=1) Tryz.underlying30 (by kernel_rfl) (fun r hr=>by
   obtain⟨s,e⟩:=b6j Tryz.underlying9 hr
   exact⟨s,e⟩) (hf 1 _ p1 rfl rfl)
  exact⟨c,l,rfl⟩
end Go.Proofs.YthbcdhfiibpeaaaGreat

