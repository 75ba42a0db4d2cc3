/- Lemmas of the proof. -/
import Derived.Test.YthbcdhfiibpeaaaGreatTm38
open Go.Proofs.Tryz renaming prog→zP
open List renaming length_map→lB
open Nat renaming reduceBEq→zA,reduceBNe→zB,reduceAdd→zC,reduceSub→zD,reduceMul→zE,reduceLeDiff→zF,reduceLT→zG,reduceEqDiff→zH
open Int renaming reduceToNat→zI,reduceLE→zJ,reduceLT→zK,reduceEq→zL
open Bool renaming not_eq_true'→zM,not_eq_false'→zN
set_option linter.unusedSimpArgs false
set_option linter.unusedVariables false
set_option maxRecDepth 20000
set_option maxHeartbeats 64000000
namespace Go.Proofs.YthbcdhfiibpeaaaGreat
open Go Go.Sx
theorem b88 (l:List NodeD) (r:Int) (g:Val→Int→Bool) (v:Val) (k:Nat) (x:NodeD) (hx:l[k]?= some x) (hk:x.kind=1):PC zP 52 [Vt v,Tt l r,I .i64 (k:Int)] (Bo (memN g x v)):=by
  have hx':=a0n a0c hx
  unfold memN
  simp only[hk,Int.reduceEq,decide_true,decide_false,cond_true,cond_false]
  refine PCB.ob Tryz.func52 Tryz.ntmps52 Tryz.results52 ?_
  repeat'(first|(simp only[go_sem,zA,zB,zC,zD,zE,zF,zG,reduceCtorEq,zH,zI,zJ,zK,zL,a0a v,lB,a0b,hk];all_goals refine nf ?_)|(refine stp ?_;intro K hK)|(apply hK;clear hK K)|refine stn ?_|(with_reducible refine⟨by omega,a0c x,hx',?_⟩)|fail)
  all_goals(first|exact fun _ h=>absurd h List.not_mem_nil|(refine a0m ?_;first|rfl|(simp only[Bool.and_true,Bool.true_and,Bool.false_and,Bool.and_false]<;>rfl)))
theorem b89 (l:List NodeD) (r:Int) (g:Val→Int→Bool) (v:Val) (k:Nat) (x:NodeD) (hx:l[k]?= some x) (hk:x.kind=2):PC zP 52 [Vt v,Tt l r,I .i64 (k:Int)] (Bo (memN g x v)):=by
  have hx':=a0n a0c hx
  unfold memN
  simp only[hk,Int.reduceEq,decide_true,decide_false,cond_true,cond_false]
  refine PCB.ob Tryz.func52 Tryz.ntmps52 Tryz.results52 ?_
  repeat'(first|(simp only[go_sem,zA,zB,zC,zD,zE,zF,zG,reduceCtorEq,zH,zI,zJ,zK,zL,a0a v,lB,a0b,hk];all_goals refine nf ?_)|(refine stp ?_;intro K hK)|(apply hK;clear hK K)|refine stn ?_|(with_reducible refine⟨by omega,a0c x,hx',?_⟩)|(clear hK K))
  all_goals(first|exact fun _ h=>absurd h List.not_mem_nil|(refine a0m ?_;first|rfl|(simp only[Bool.and_true,Bool.true_and,Bool.false_and,Bool.and_false]<;>rfl)))
theorem b9a (l:List NodeD) (r:Int) (g:Val→Int→Bool) (v:Val) (k:Nat) (x:NodeD) (hx:l[k]?= some x) (hk:x.kind=3):PC zP 52 [Vt v,Tt l r,I .i64 (k:Int)] (Bo (memN g x v)):=by
 have hx':=a0n a0c hx
 unfold memN
 simp only[hk,Int.reduceEq,decide_true,decide_false,cond_true,cond_false]
 refine PCB.ob Tryz.func52 Tryz.ntmps52 Tryz.results52 ?_
 cases hv:decide (v.kind=1)<;>cases h1:decide (x.lo≤v.num)<;>cases h2:decide (v.num≤x.hi)
 all_goals
  repeat'(first|(simp only[go_sem,zA,zB,zC,zD,zE,zF,zG,reduceCtorEq,zH,zI,zJ,zK,zL,a0a v,lB,a0b,hk,hv,h1,h2];all_goals refine nf ?_)|(refine stp ?_;intro K hK)|(apply hK;clear hK K)|refine stn ?_|(with_reducible refine⟨by omega,a0c x,hx',?_⟩)|(clear hK K))
 all_goals(first|exact fun _ h=>absurd h List.not_mem_nil|(refine a0m ?_;first|rfl|(simp only[hv,h1,h2,Bool.and_true,Bool.true_and,Bool.false_and,Bool.and_false]<;>rfl)))
theorem b9b (l:List NodeD) (r:Int) (g:Val→Int→Bool) (v:Val) (k:Nat) (x:NodeD) (hx:l[k]?= some x) (hk:x.kind=4):PC zP 52 [Vt v,Tt l r,I .i64 (k:Int)] (Bo (memN g x v)):=by
 have hx':=a0n a0c hx
 unfold memN
 simp only[hk,Int.reduceEq,decide_true,decide_false,cond_true,cond_false]
 refine PCB.ob Tryz.func52 Tryz.ntmps52 Tryz.results52 ?_
 cases hv:decide (v.kind=2)<;>cases h1:decide (v.text=x.text)
 all_goals
  repeat'(first|(simp only[go_sem,zA,zB,zC,zD,zE,zF,zG,reduceCtorEq,zH,zI,zJ,zK,zL,a0a v,lB,a0b,hk,hv,h1];all_goals refine nf ?_)|(refine stp ?_;intro K hK)|(apply hK;clear hK K)|refine stn ?_|(with_reducible refine⟨by omega,a0c x,hx',?_⟩)|(clear hK K))
 all_goals(first|exact fun _ h=>absurd h List.not_mem_nil|(refine a0m ?_;first|rfl|(simp only[hv,h1,Bool.and_true,Bool.true_and,Bool.false_and,Bool.and_false]<;>rfl)))
theorem b9c (l:List NodeD) (r:Int) (g:Val→Int→Bool) (v:Val) (k:Nat) (x:NodeD) (hx:l[k]?= some x) (hk:x.kind=6):PC zP 52 [Vt v,Tt l r,I .i64 (k:Int)] (Bo (memN g x v)):=by
 have hx':=a0n a0c hx
 unfold memN
 simp only[hk,Int.reduceEq,decide_true,decide_false,cond_true,cond_false]
 refine PCB.ob Tryz.func52 Tryz.ntmps52 Tryz.results52 ?_
 cases hv:decide (v.kind=3)<;>cases h1:decide (v.text=x.text)
 all_goals
  repeat'(first|(simp only[go_sem,zA,zB,zC,zD,zE,zF,zG,reduceCtorEq,zH,zI,zJ,zK,zL,a0a v,lB,a0b,hk,hv,h1];all_goals refine nf ?_)|(refine stp ?_;intro K hK)|(apply hK;clear hK K)|refine stn ?_|(with_reducible refine⟨by omega,a0c x,hx',?_⟩)|(clear hK K))
 all_goals(first|exact fun _ h=>absurd h List.not_mem_nil|(refine a0m ?_;first|rfl|(simp only[hv,h1,Bool.and_true,Bool.true_and,Bool.false_and,Bool.and_false]<;>rfl)))
theorem b9d (l:List NodeD) (r:Int) (g:Val→Int→Bool) (v:Val) (k:Nat) (x:NodeD) (hx:l[k]?= some x) (hk:x.kind=5):PC zP 52 [Vt v,Tt l r,I .i64 (k:Int)] (Bo (memN g x v)):=by
  have hx':=a0n a0c hx
  unfold memN
  simp only[hk,Int.reduceEq,decide_true,decide_false,cond_true,cond_false]
  refine PCB.ob Tryz.func52 Tryz.ntmps52 Tryz.results52 ?_
  repeat'(first|(simp only[go_sem,zA,zB,zC,zD,zE,zF,zG,reduceCtorEq,zH,zI,zJ,zK,zL,a0a v,lB,a0b,hk];all_goals refine nf ?_)|(refine stp ?_;intro K hK)|(apply hK;clear hK K)|refine stn ?_|(with_reducible refine⟨by omega,a0c x,hx',?_⟩)|(clear hK K))
  all_goals(first|exact fun _ h=>absurd h List.not_mem_nil|(refine a0m ?_;first|rfl|(simp only[Bool.and_true,Bool.true_and,Bool.false_and,Bool.and_false]<;>rfl)))
theorem b9e (l:List NodeD) (r:Int) (g:Val→Int→Bool) (v:Val) (k:Nat) (x:NodeD) (hx:l[k]?= some x) (hk:x.kind=7):PC zP 52 [Vt v,Tt l r,I .i64 (k:Int)] (Bo (memN g x v)):=by
  have hx':=a0n a0c hx
  unfold memN
  simp only[hk,Int.reduceEq,decide_true,decide_false,cond_true,cond_false]
  refine PCB.ob Tryz.func52 Tryz.ntmps52 Tryz.results52 ?_
  repeat'(first|(simp only[go_sem,zA,zB,zC,zD,zE,zF,zG,reduceCtorEq,zH,zI,zJ,zK,zL,a0a v,lB,a0b,hk];all_goals refine nf ?_)|(refine stp ?_;intro K hK)|(apply hK;clear hK K)|refine stn ?_|(with_reducible refine⟨by omega,a0c x,hx',?_⟩)|(clear hK K))
  all_goals(first|exact fun _ h=>absurd h List.not_mem_nil|(refine a0m ?_;first|rfl|(simp only[Bool.and_true,Bool.true_and,Bool.false_and,Bool.and_false]<;>rfl)))
theorem b9f (l:List NodeD) (r:Int) (g:Val→Int→Bool) (v:Val) (k:Nat) (x:NodeD) (hx:l[k]?= some x) (hk:x.kind=8):PC zP 52 [Vt v,Tt l r,I .i64 (k:Int)] (Bo (memN g x v)):=by
  have hx':=a0n a0c hx
  unfold memN
  simp only[hk,Int.reduceEq,decide_true,decide_false,cond_true,cond_false]
  refine PCB.ob Tryz.func52 Tryz.ntmps52 Tryz.results52 ?_
  repeat'(first|(simp only[go_sem,zA,zB,zC,zD,zE,zF,zG,reduceCtorEq,zH,zI,zJ,zK,zL,a0a v,lB,a0b,hk];all_goals refine nf ?_)|(refine stp ?_;intro K hK)|(apply hK;clear hK K)|refine stn ?_|(with_reducible refine⟨by omega,a0c x,hx',?_⟩)|(clear hK K))
  all_goals(first|exact fun _ h=>absurd h List.not_mem_nil|(refine a0m ?_;first|rfl|(simp only[Bool.and_true,Bool.true_and,Bool.false_and,Bool.and_false]<;>rfl)))
theorem b9g (l:List NodeD) (r:Int) (g:Val→Int→Bool) (v:Val) (k:Nat) (x:NodeD) (hx:l[k]?= some x) (hk:x.kind=9):PC zP 52 [Vt v,Tt l r,I .i64 (k:Int)] (Bo (memN g x v)):=by
  have hx':=a0n a0c hx
  unfold memN
  simp only[hk,Int.reduceEq,decide_true,decide_false,cond_true,cond_false]
  refine PCB.ob Tryz.func52 Tryz.ntmps52 Tryz.results52 ?_
  repeat'(first|(simp only[go_sem,zA,zB,zC,zD,zE,zF,zG,reduceCtorEq,zH,zI,zJ,zK,zL,a0a v,lB,a0b,hk];all_goals refine nf ?_)|(refine stp ?_;intro K hK)|(apply hK;clear hK K)|refine stn ?_|(with_reducible refine⟨by omega,a0c x,hx',?_⟩)|(clear hK K))
  all_goals(first|exact fun _ h=>absurd h List.not_mem_nil|(refine a0m ?_;first|rfl|(simp only[Bool.and_true,Bool.true_and,Bool.false_and,Bool.and_false]<;>rfl)))
theorem b6Y (l:List NodeD) (r:Int) (g:Val→Int→Bool) (v:Val) (k:Nat) (x:NodeD) (hx:l[k]?= some x) (hk:x.kind=11):PC zP 52 [Vt v,Tt l r,I .i64 (k:Int)] (Bo (memN g x v)):=by
  have hx':=a0n a0c hx
  unfold memN
  simp only[hk,Int.reduceEq,decide_true,decide_false,cond_true,cond_false]
  refine PCB.ob Tryz.func52 Tryz.ntmps52 Tryz.results52 ?_
  repeat'(first|(simp only[go_sem,zA,zB,zC,zD,zE,zF,zG,reduceCtorEq,zH,zI,zJ,zK,zL,a0a v,lB,a0b,hk];all_goals refine nf ?_)|(refine stp ?_;intro K hK)|(apply hK;clear hK K)|refine stn ?_|(with_reducible refine⟨by omega,a0c x,hx',?_⟩)|(clear hK K))
  all_goals(first|exact fun _ h=>absurd h List.not_mem_nil|(refine a0m ?_;first|rfl|(simp only[Bool.and_true,Bool.true_and,Bool.false_and,Bool.and_false]<;>rfl)))
theorem b6Z (l:List NodeD) (r:Int) (g:Val→Int→Bool) (v:Val) (k:Nat) (x:NodeD) (hx:l[k]?= some x) (hk:x.kind=15):PC zP 52 [Vt v,Tt l r,I .i64 (k:Int)] (Bo (memN g x v)):=by
  have hx':=a0n a0c hx
  unfold memN
  simp only[hk,Int.reduceEq,decide_true,decide_false,cond_true,cond_false]
  refine PCB.ob Tryz.func52 Tryz.ntmps52 Tryz.results52 ?_
  repeat'(first|(simp only[go_sem,zA,zB,zC,zD,zE,zF,zG,reduceCtorEq,zH,zI,zJ,zK,zL,a0a v,lB,a0b,hk];all_goals refine nf ?_)|(refine stp ?_;intro K hK)|(apply hK;clear hK K)|refine stn ?_|(with_reducible refine⟨by omega,a0c x,hx',?_⟩)|(clear hK K))
  all_goals(first|exact fun _ h=>absurd h List.not_mem_nil|(refine a0m ?_;first|rfl|(simp only[Bool.and_true,Bool.true_and,Bool.false_and,Bool.and_false]<;>rfl)))
end Go.Proofs.YthbcdhfiibpeaaaGreat

