/- Lemmas of the proof. -/
import Derived.Test.YthbcdhfiibpeaaaGreatTm10
open Go.Proofs.Tryz renaming prog→zP
open List renaming length_map→lB
open Nat renaming reduceBEq→zA,reduceBNe→zB,reduceAdd→zC,reduceSub→zD,reduceMul→zE,reduceLeDiff→zF,reduceLT→zG,reduceEqDiff→zH
open Int renaming reduceToNat→zI,reduceLE→zJ,reduceLT→zK,reduceEq→zL
open Bool renaming not_eq_true'→zM,not_eq_false'→zN
set_option linter.unusedSimpArgs false
set_option linter.unusedVariables false
set_option maxRecDepth 20000
set_option maxHeartbeats 64000000
namespace Go.Proofs.YthbcdhfiibpeaaaGreat
open Go Go.Sx
theorem a4T:∀ a b:List UInt8,Op.bytesLess a b=decide (Lib.compareBytes a b= -1)
 |[],[]=>by simp[Op.bytesLess,Lib.compareBytes]
 |[],_::_=>by simp[Op.bytesLess,Lib.compareBytes]
 |_::_,[]=>by simp[Op.bytesLess,Lib.compareBytes]
 |x::a,y::b=>by
  have ih:=a4T a b
  simp only[Op.bytesLess,Lib.compareBytes]
  by_cases h1:x<y
  ·simp[h1]
  ·by_cases h2:y<x
   ·have hne:¬ x=y:=by intro e;subst e;exact h1 h2
    simp[h1,h2,hne]
   ·have hxy:x=y:=UInt8.le_antisymm (UInt8.not_lt.1 h2) (UInt8.not_lt.1 h1)
    simp[h1,h2,hxy,ih]
theorem a7Y:∀ a b:List UInt8,Lib.compareBytes a b= -1∨Lib.compareBytes a b=0∨Lib.compareBytes a b=1
 |[],[]=>by simp[Lib.compareBytes]
 |[],_::_=>by simp[Lib.compareBytes]
 |_::_,[]=>by simp[Lib.compareBytes]
 |x::a,y::b=>by
  have ih:=a7Y a b
  simp only[Lib.compareBytes]
  split
  ·simp
  ·split
   ·simp
   ·exact ih
theorem b05 (a b:List UInt8):a7T a b=Lib.compareBytes a b:=by
 unfold a7T
 rw[a4T]
 have hz:= @a4r a b
 rcases a7Y a b with h|h|h
 ·simp[h]
 ·have:=hz.1 h
  simp[h,this]
  have h2:=(@a4r b b).2 rfl
  simp[h2]
 ·have:¬ a=b:=fun e=>by have:=hz.2 e;omega
  simp[h,this]
theorem b3b (a b:KeyD):a67 a b=a4s a b:=by
 unfold a67 a4s a1y
 rw[b05]
 have:decide (a3V a.kind b.kind=0)=decide (a.kind=b.kind):=by
  rw[← Bool.coe_iff_coe];simp[a69]
 rw[this]
 cases decide (a.kind=b.kind)<;>rfl
theorem a9A (a b:List UInt8):PC zP 131 [S a,S b] (I .i64 (Lib.compareBytes a b)):=by
  rw[← b05];exact c2u a b
theorem b06 (a b:Int):PC zP 130 [I .i64 a,I .i64 b] (I .i64 (a3V a b)):=b76 a b
theorem a7e (a b:KeyD):PC zP 87 [.st (a0k a), .st (a0k b)] (I .i64 (a4s a b)):=by
  rw[← b3b];exact a68 a b
theorem a9B (a b:Int):PC zP 171 [I .i64 a,I .i64 b] (I .i64 (a3V a b)):=by
  refine PCB.ob Tryz.func171 Tryz.ntmps171 Tryz.results171 ?_
  repeat'(first|(simp only[go_sem,zA,zB,zC,zD,zE,zF,zG,reduceCtorEq,zH,zI,zJ,zK,zL];all_goals refine nf ?_)|(refine stp ?_;intro K hK)|(apply hK;clear hK K)|refine stn ?_|(with_reducible refine⟨_,b06 _ _,?_⟩)|refine stq ?_|fail)
  all_goals(first|exact fun _ h=>absurd h List.not_mem_nil|refine a0m ?_)
  all_goals rfl
theorem a4U {α:Type} {f:α→α→Int} {a b:List α} {k:Nat} {x y:α} (hx:a[k]?= some x) (hy:b[k]?= some y):
  a1x f (a.drop k) (b.drop k)=bif decide (f x y=0) then a1x f (a.drop (k+1)) (b.drop (k+1)) else f x y:=by
 have h1:=(List.getElem?_eq_some_iff.1 hx)
 have h2:=(List.getElem?_eq_some_iff.1 hy)
 obtain⟨h1,e1⟩:=h1
 obtain⟨h2,e2⟩:=h2
 rw[List.drop_eq_getElem_cons h1,List.drop_eq_getElem_cons h2,e1,e2]
 rfl
theorem a54 {α:Type} {f:α→α→Int} {a b:List α}:a1x f (a.drop a.length) (b.drop a.length)=0:=by
  rw[List.drop_length];exact b6z f _
theorem b18 {a b:Nat}:decide (a3V (a:Int) (b:Int)=0)=decide ((a:Int)=(b:Int)):=by
  rw[← Bool.coe_iff_coe];simp[a69]
theorem a2q (a b:List Val) (hh:∀ x∈a,∀ y,PC zP 147 [.st (a0g x), .st (a0g y)] (I .i64 (valC x y))):
  PC zP 148 [.one (.dat (.sl 7 (a.map a0g))), .one (.dat (.sl 7 (b.map a0g)))] (I .i64 (a1G valC a b)):=by
 unfold a1G
 rw[b18]
 refine PCB.ob Tryz.func148 Tryz.ntmps148 Tryz.results148 ?_
 cases hl:decide ((a.length:Int)=(b.length:Int)) with
 |false=>
  repeat'(first|(simp only[go_sem,zA,zB,zC,zD,zE,zF,zG,reduceCtorEq,zH,zI,zJ,zK,zL,lB,hl];all_goals refine nf ?_)|(refine stp ?_;intro K hK)|(apply hK;clear hK K)|refine stn ?_|(with_reducible refine⟨_,a9B _ _,?_⟩)|refine stq ?_|(clear hK K))
  all_goals(first|exact fun _ h=>absurd h List.not_mem_nil|refine a0m ?_)
  all_goals rfl
 |true=>
  have hlab:a.length=b.length:=by have:=of_decide_eq_true hl;omega
  repeat'(first|(simp only[go_sem,zA,zB,zC,zD,zE,zF,zG,reduceCtorEq,zH,zI,zJ,zK,zL,lB,hl];all_goals refine nf ?_)|(refine stp ?_;intro K hK)|(apply hK;clear hK K)|refine stn ?_|fail)
  refine AWP.len 0 rfl fun hlen0=>?_
  (try rw[lB] at hlen0)
  refine AWP.range (S:=Unit) (a) a0g (fun k s=>(5,I .i64 (k:Nat))::[]) (fun k s=>[]) [0,1] [] (fun k s=>a1x valC a b=a1x valC (a.drop k) (b.drop k)) (()) (by refine sts ?_;exact Gh.tt []) ?_ ?_ ?_
  ·rfl
  ·intro k s x hlt hx hx' hb hok
   refine sts ?_
   obtain⟨y,hy,hy',_,_⟩:=a4M (enc:=a0g) (show k<b.length by omega)
   rw[a4U hx hy] at hok
   cases hz:decide (valC x y=0)<;>simp only[hz,cond_true,cond_false] at hok
   ·
    repeat'(first|(simp only[go_sem,zA,zB,zC,zD,zE,zF,zG,reduceCtorEq,zH,zI,zJ,zK,zL,lB,hb,hz];all_goals refine nf ?_)|(refine stp ?_;intro K hK)|(apply hK;clear hK K)|refine stn ?_|(with_reducible first|refine⟨_,hh x (List.mem_of_getElem? hx) y,?_⟩|refine⟨by omega,a0g x,hx',?_⟩|refine⟨by omega,a0g y,hy',?_⟩)|(refine a0M ?_;intro K hK)|(clear hK K))
    all_goals(refine a0m ?_;rw[hok])
   ·
    repeat'(first|(simp only[go_sem,zA,zB,zC,zD,zE,zF,zG,reduceCtorEq,zH,zI,zJ,zK,zL,lB,hb,hz];all_goals refine nf ?_)|(refine stp ?_;intro K hK)|(apply hK;clear hK K)|refine stn ?_|(with_reducible first|refine⟨_,hh x (List.mem_of_getElem? hx) y,?_⟩|refine⟨by omega,a0g x,hx',?_⟩|refine⟨by omega,a0g y,hy',?_⟩)|(refine a0M ?_;intro K hK)|(clear hK K))
    all_goals(rw[a0d hlt hlen0])
    all_goals(refine⟨(),?_,Gh.tt []⟩)
    all_goals exact hok
  ·intro s hb hok
   refine sts ?_
   rw[a54] at hok
   repeat'(first|(simp only[go_sem,zA,zB,zC,zD,zE,zF,zG,reduceCtorEq,zH,zI,zJ,zK,zL,lB,hb];all_goals refine nf ?_)|(refine stp ?_;intro K hK)|(apply hK;clear hK K)|refine stn ?_|(clear hK K))
   all_goals(refine a0m ?_;rw[hok])
theorem a5w (a b:List Val×Bool×Val) (hh:∀ x∈a.1,∀ y,PC zP 147 [.st (a0g x), .st (a0g y)] (I .i64 (valC x y))) (h2:∀ y,PC zP 147 [.st (a0g a.2.2), .st (a0g y)] (I .i64 (valC a.2.2 y))):
  PC zP 133 [.st (a0l a), .st (a0l b)] (I .i64 (a4t a b)):=by
 have h3:=h2 b.2.2
 rw[a0a,a0a] at h3
 refine PCB.ob Tryz.func133 Tryz.ntmps133 Tryz.results133 ?_
 cases h0:decide (a1G valC a.1 b.1=0)
 ·
  repeat'(first|(simp only[go_sem,zA,zB,zC,zD,zE,zF,zG,reduceCtorEq,zH,zI,zJ,zK,zL,a0H,h0];all_goals refine nf ?_)|(refine stp ?_;intro K hK)|(apply hK;clear hK K)|refine stn ?_|(with_reducible refine⟨_,a2q a.1 b.1 hh,?_⟩)|refine stq ?_|(clear hK K))
  all_goals(refine a0m ?_;simp only[b16,a1y,h0,cond_true,cond_false])
 cases hd:(a.2.1==b.2.1)
 ·cases hf:a.2.1
  ·
   rw[hf] at hd
   repeat'(first|(simp only[go_sem,zA,zB,zC,zD,zE,zF,zG,reduceCtorEq,zH,zI,zJ,zK,zL,a0H,h0,hd,hf];all_goals refine nf ?_)|(refine stp ?_;intro K hK)|(apply hK;clear hK K)|refine stn ?_|(with_reducible refine⟨_,a2q a.1 b.1 hh,?_⟩)|refine stq ?_|(clear hK K))
   all_goals(refine a0m ?_;simp only[b16,a1y,h0,hd,hf,cond_true,cond_false,Bool.not_true,Bool.not_false])
  ·
   rw[hf] at hd
   repeat'(first|(simp only[go_sem,zA,zB,zC,zD,zE,zF,zG,reduceCtorEq,zH,zI,zJ,zK,zL,a0H,h0,hd,hf];all_goals refine nf ?_)|(refine stp ?_;intro K hK)|(apply hK;clear hK K)|refine stn ?_|(with_reducible refine⟨_,a2q a.1 b.1 hh,?_⟩)|refine stq ?_|(clear hK K))
   all_goals(refine a0m ?_;simp only[b16,a1y,h0,hd,hf,cond_true,cond_false,Bool.not_true,Bool.not_false])
 ·
  repeat'(first|(simp only[go_sem,zA,zB,zC,zD,zE,zF,zG,reduceCtorEq,zH,zI,zJ,zK,zL,a0H,h0,hd];all_goals refine nf ?_)|(refine stp ?_;intro K hK)|(apply hK;clear hK K)|refine stn ?_|(with_reducible first|refine⟨_,a2q a.1 b.1 hh,?_⟩|refine⟨_,h3,?_⟩)|refine stq ?_|fail)
  all_goals(refine a0m ?_;simp only[b16,a1y,h0,hd,cond_true,cond_false,Bool.not_true,Bool.not_false])
theorem b19 {a b:Int}:decide (a3V a b=0)=decide (a=b):=by
  rw[← Bool.coe_iff_coe];simp[a69]
theorem c0Q {a b:List UInt8}:decide (Lib.compareBytes a b=0)=decide (a=b):=by
  rw[← Bool.coe_iff_coe];simp[a4r]
theorem a1D (a b:Val):PC zP 147 [.st (a0g a), .st (a0g b)] (I .i64 (valC a b)):=by
 have hk:∀ x∈a.kids,∀ y,PC zP 147 [.st (a0g x), .st (a0g y)] (I .i64 (valC x y)):=fun x hx y=>a1D x y
 have he:∀ e∈a.ents,∀ y,PC zP 133 [.st (a0l e), .st (a0l y)] (I .i64 (a4t e y)):=fun e he y=>a5w e y (fun x hx y=>a1D x y) (fun y=>a1D e.2.2 y)
 have hm:=c3E a b
 simp only[a1y,a1G,b19,c0Q] at hm
 refine PCB.ob Tryz.func147 Tryz.ntmps147 Tryz.results147 ?_
 cases z1:decide (a.kind=b.kind)
 ·
  repeat'(first|(simp only[go_sem,zA,zB,zC,zD,zE,zF,zG,reduceCtorEq,zH,zI,zJ,zK,zL,a0a,z1];all_goals refine nf ?_)|(refine stp ?_;intro K hK)|(apply hK;clear hK K)|refine stn ?_|(with_reducible refine⟨_,a9B _ _,?_⟩)|refine stq ?_|(clear hK K))
  all_goals(refine a0m ?_;simp only[hm,z1,cond_true,cond_false])
 cases z2:decide (a.num=b.num)
 ·
  repeat'(first|(simp only[go_sem,zA,zB,zC,zD,zE,zF,zG,reduceCtorEq,zH,zI,zJ,zK,zL,a0a,z1,z2];all_goals refine nf ?_)|(refine stp ?_;intro K hK)|(apply hK;clear hK K)|refine stn ?_|(with_reducible refine⟨_,b06 _ _,?_⟩)|refine stq ?_|(clear hK K))
  all_goals(refine a0m ?_;simp only[hm,z1,z2,cond_true,cond_false])
 cases z3:decide (a.text=b.text)
 ·
  repeat'(first|(simp only[go_sem,zA,zB,zC,zD,zE,zF,zG,reduceCtorEq,zH,zI,zJ,zK,zL,a0a,z1,z2,z3];all_goals refine nf ?_)|(refine stp ?_;intro K hK)|(apply hK;clear hK K)|refine stn ?_|(with_reducible refine⟨_,a9A _ _,?_⟩)|refine stq ?_|(clear hK K))
  all_goals(refine a0m ?_;simp only[hm,z1,z2,z3,cond_true,cond_false])
 cases z4:decide ((a.keys.length:Int)=(b.keys.length:Int))
 ·
  repeat'(first|(simp only[go_sem,zA,zB,zC,zD,zE,zF,zG,reduceCtorEq,zH,zI,zJ,zK,zL,a0a,z1,z2,z3,z4,lB];all_goals refine nf ?_)|(refine stp ?_;intro K hK)|(apply hK;clear hK K)|refine stn ?_|(with_reducible refine⟨_,a9B _ _,?_⟩)|refine stq ?_|(clear hK K))
  all_goals(refine a0m ?_;simp only[hm,z1,z2,z3,z4,cond_true,cond_false])
  all_goals(simp only[b19,z4,cond_false])
 have l4:a.keys.length=b.keys.length:=by have:=of_decide_eq_true z4;omega
 repeat'(first|(simp only[go_sem,zA,zB,zC,zD,zE,zF,zG,reduceCtorEq,zH,zI,zJ,zK,zL,a0a,z1,z2,z3,z4,lB];all_goals refine nf ?_)|(refine stp ?_;intro K hK)|(apply hK;clear hK K)|refine stn ?_|fail)
 refine AWP.lenB 2 4 rfl rfl fun hlen0=>?_
 (try rw[lB] at hlen0)
 refine AWP.range (S:=Unit) (a.keys) a0k (fun k s=>(5,I .i64 (k:Nat))::[]) (fun k s=>[]) [2,3] [2,3] (fun k s=>a1x a4s a.keys b.keys=a1x a4s (a.keys.drop k) (b.keys.drop k)) (()) (by refine sts ?_;exact Gh.tt []) ?_ ?_ ?_
 ·rfl
 ·intro k s x hlt hx hx' hb hok
  refine sts ?_
  obtain⟨y,hy,hy',_,_⟩:=a4M (enc:=a0k) (show k<b.keys.length by omega)
  rw[a4U hx hy] at hok
  cases hz:decide (a4s x y=0)<;>simp only[hz,cond_true,cond_false] at hok
  ·
   repeat'(first|(simp only[go_sem,zA,zB,zC,zD,zE,zF,zG,reduceCtorEq,zH,zI,zJ,zK,zL,a0a,lB,hb,hz];all_goals refine nf ?_)|(refine stp ?_;intro K hK)|(apply hK;clear hK K)|refine stn ?_|(with_reducible first|refine⟨_,a7e x y,?_⟩|refine⟨by omega,a0k x,hx',?_⟩|refine⟨by omega,a0k y,hy',?_⟩)|(refine a0M ?_;intro K hK)|(clear hK K))
   all_goals(refine a0m ?_;simp only[hm,hok,hz,z1,z2,z3,z4,cond_true,cond_false])
  ·
   repeat'(first|(simp only[go_sem,zA,zB,zC,zD,zE,zF,zG,reduceCtorEq,zH,zI,zJ,zK,zL,a0a,lB,hb,hz];all_goals refine nf ?_)|(refine stp ?_;intro K hK)|(apply hK;clear hK K)|refine stn ?_|(with_reducible first|refine⟨_,a7e x y,?_⟩|refine⟨by omega,a0k x,hx',?_⟩|refine⟨by omega,a0k y,hy',?_⟩)|(refine a0M ?_;intro K hK)|(clear hK K))
   all_goals(rw[a0d hlt hlen0])
   all_goals(refine⟨(),?_,Gh.tt []⟩)
   all_goals exact hok
 intro s0 hb0 hok0
 refine sts ?_
 rw[a54] at hok0
 cases z5:decide (a1G valC a.kids b.kids=0)
 ·
  have z5':=z5
  unfold a1G at z5'
  rw[b18] at z5'
  repeat'(first|(simp only[go_sem,zA,zB,zC,zD,zE,zF,zG,reduceCtorEq,zH,zI,zJ,zK,zL,a0a,z5,hb0,lB];all_goals refine nf ?_)|(refine stp ?_;intro K hK)|(apply hK;clear hK K)|refine stn ?_|(with_reducible refine⟨_,a2q a.kids b.kids hk,?_⟩)|refine stq ?_|(clear hK K))
  all_goals(refine a0m ?_;simp only[hm,z1,z2,z3,z4,hok0,z5',decide_true,cond_true,cond_false,a1G,b18])
 have z5':=z5
 unfold a1G at z5'
 rw[b18] at z5'
 cases z6:decide ((a.ents.length:Int)=(b.ents.length:Int))
 ·
  repeat'(first|(simp only[go_sem,zA,zB,zC,zD,zE,zF,zG,reduceCtorEq,zH,zI,zJ,zK,zL,a0a,z5,z6,hb0,lB];all_goals refine nf ?_)|(refine stp ?_;intro K hK)|(apply hK;clear hK K)|refine stn ?_|(with_reducible first|refine⟨_,a2q a.kids b.kids hk,?_⟩|refine⟨_,a9B _ _,?_⟩)|refine stq ?_|(clear hK K))
  all_goals(refine a0m ?_;simp only[hm,z1,z2,z3,z4,hok0,z5',z6,decide_true,cond_true,cond_false,b19])
 have l6:a.ents.length=b.ents.length:=by have:=of_decide_eq_true z6;omega
 repeat'(first|(simp only[go_sem,zA,zB,zC,zD,zE,zF,zG,reduceCtorEq,zH,zI,zJ,zK,zL,a0a,z5,z6,hb0,lB];all_goals refine nf ?_)|(refine stp ?_;intro K hK)|(apply hK;clear hK K)|refine stn ?_|(with_reducible refine⟨_,a2q a.kids b.kids hk,?_⟩)|refine stq ?_|(clear hK K))
 refine AWP.lenB 2 5 rfl rfl fun hlen1=>?_
 (try rw[lB] at hlen1)
 refine AWP.range (S:=Unit) (a.ents) a0l (fun k s=>(8,I .i64 (k:Nat))::[]) (fun k s=>[]) [2,3] [2,3] (fun k s=>a1x a4t a.ents b.ents=a1x a4t (a.ents.drop k) (b.ents.drop k)) (()) (by refine sts ?_;exact Gh.tt []) ?_ ?_ ?_
 ·rfl
 ·intro k s x hlt hx hx' hb hok
  refine sts ?_
  obtain⟨y,hy,hy',_,_⟩:=a4M (enc:=a0l) (show k<b.ents.length by omega)
  rw[a4U hx hy] at hok
  cases hz:decide (a4t x y=0)<;>simp only[hz,cond_true,cond_false] at hok
  ·
   repeat'(first|(simp only[go_sem,zA,zB,zC,zD,zE,zF,zG,reduceCtorEq,zH,zI,zJ,zK,zL,a0a,lB,hb,hz];all_goals refine nf ?_)|(refine stp ?_;intro K hK)|(apply hK;clear hK K)|refine stn ?_|(with_reducible first|refine⟨_,he x (List.mem_of_getElem? hx) y,?_⟩|refine⟨by omega,a0l x,hx',?_⟩|refine⟨by omega,a0l y,hy',?_⟩)|(refine a0M ?_;intro K hK)|(clear hK K))
   all_goals(refine a0m ?_;simp only[hm,hok,hz,z1,z2,z3,z4,hok0,z5',z6,decide_true,cond_true,cond_false])
  ·
   repeat'(first|(simp only[go_sem,zA,zB,zC,zD,zE,zF,zG,reduceCtorEq,zH,zI,zJ,zK,zL,a0a,lB,hb,hz];all_goals refine nf ?_)|(refine stp ?_;intro K hK)|(apply hK;clear hK K)|refine stn ?_|(with_reducible first|refine⟨_,he x (List.mem_of_getElem? hx) y,?_⟩|refine⟨by omega,a0l x,hx',?_⟩|refine⟨by omega,a0l y,hy',?_⟩)|(refine a0M ?_;intro K hK)|(clear hK K))
   all_goals(rw[a0d hlt hlen1])
   all_goals(refine⟨(),?_,Gh.tt []⟩)
   all_goals exact hok
 intro s1 hb1 hok1
 refine sts ?_
 rw[a54] at hok1
 cases z7:decide ((a.labels.length:Int)=(b.labels.length:Int))
 ·
  repeat'(first|(simp only[go_sem,zA,zB,zC,zD,zE,zF,zG,reduceCtorEq,zH,zI,zJ,zK,zL,a0a,z7,hb1,lB];all_goals refine nf ?_)|(refine stp ?_;intro K hK)|(apply hK;clear hK K)|refine stn ?_|(with_reducible refine⟨_,a9B _ _,?_⟩)|refine stq ?_|(clear hK K))
  all_goals(refine a0m ?_;simp only[hm,z1,z2,z3,z4,hok0,z5',z6,hok1,z7,decide_true,cond_true,cond_false])
 have l7:a.labels.length=b.labels.length:=by have:=of_decide_eq_true z7;omega
 repeat'(first|(simp only[go_sem,zA,zB,zC,zD,zE,zF,zG,reduceCtorEq,zH,zI,zJ,zK,zL,a0a,z7,hb1,lB];all_goals refine nf ?_)|(refine stp ?_;intro K hK)|(apply hK;clear hK K)|refine stn ?_|(clear hK K))
 refine AWP.lenB 2 6 rfl rfl fun hlen2=>?_
 (try rw[lB] at hlen2)
 refine AWP.range (S:=Unit) (a.labels) Sx.encStr (fun k s=>(10,I .i64 (k:Nat))::[]) (fun k s=>[]) [2,3] [2,3] (fun k s=>a1x Lib.compareBytes a.labels b.labels=a1x Lib.compareBytes (a.labels.drop k) (b.labels.drop k)) (()) (by refine sts ?_;exact Gh.tt []) ?_ ?_ ?_
 ·rfl
 ·intro k s x hlt hx hx' hb hok
  refine sts ?_
  obtain⟨y,hy,hy',_,_⟩:=a4M (enc:=Sx.encStr) (show k<b.labels.length by omega)
  rw[a4U hx hy] at hok
  cases hz:decide (Lib.compareBytes x y=0)<;>simp only[hz,cond_true,cond_false] at hok
  ·
   repeat'(first|(simp only[go_sem,zA,zB,zC,zD,zE,zF,zG,reduceCtorEq,zH,zI,zJ,zK,zL,Sx.encStr,a0a,lB,hb,hz];all_goals refine nf ?_)|(refine stp ?_;intro K hK)|(apply hK;clear hK K)|refine stn ?_|(with_reducible first|refine⟨_,a9A x y,?_⟩|refine⟨by omega,Sx.encStr x,hx',?_⟩|refine⟨by omega,Sx.encStr y,hy',?_⟩)|(refine a0M ?_;intro K hK)|(clear hK K))
   all_goals(refine a0m ?_;simp only[hm,hok,hz,z1,z2,z3,z4,hok0,z5',z6,hok1,z7,decide_true,cond_true,cond_false])
  ·
   repeat'(first|(simp only[go_sem,zA,zB,zC,zD,zE,zF,zG,reduceCtorEq,zH,zI,zJ,zK,zL,Sx.encStr,a0a,lB,hb,hz];all_goals refine nf ?_)|(refine stp ?_;intro K hK)|(apply hK;clear hK K)|refine stn ?_|(with_reducible first|refine⟨_,a9A x y,?_⟩|refine⟨by omega,Sx.encStr x,hx',?_⟩|refine⟨by omega,Sx.encStr y,hy',?_⟩)|(refine a0M ?_;intro K hK)|(clear hK K))
   all_goals(rw[a0d hlt hlen2])
   all_goals(refine⟨(),?_,Gh.tt []⟩)
   all_goals exact hok
 intro s2 hb2 hok2
 refine sts ?_
 rw[a54] at hok2
 repeat'(first|(simp only[go_sem,zA,zB,zC,zD,zE,zF,zG,reduceCtorEq,zH,zI,zJ,zK,zL,a0a,hb2,lB];all_goals refine nf ?_)|(refine stp ?_;intro K hK)|(apply hK;clear hK K)|refine stn ?_|(clear hK K))
 all_goals(refine a0m ?_;simp only[hm,z1,z2,z3,z4,hok0,z5',z6,hok1,z7,hok2,decide_true,cond_true,cond_false])
termination_by SizeOf.sizeOf a
decreasing_by
  · cases a;simp only at hx;have:=List.sizeOf_lt_of_mem hx;simp;omega
  · cases a;simp only at he;have h1:=List.sizeOf_lt_of_mem he;have h2:=List.sizeOf_lt_of_mem hx;obtain⟨e1,e2,e3⟩:=e;simp at h1 h2 ⊢; omega
  · cases a;simp only at he;have h1:=List.sizeOf_lt_of_mem he;obtain⟨e1,e2,e3⟩:=e;simp at h1 ⊢; omega
end Go.Proofs.YthbcdhfiibpeaaaGreat

