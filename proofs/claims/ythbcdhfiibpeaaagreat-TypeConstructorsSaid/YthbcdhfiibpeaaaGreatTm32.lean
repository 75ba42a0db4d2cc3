/- Lemmas of the proof. -/
import Derived.Test.YthbcdhfiibpeaaaGreatTm31
open List renaming mem_singleton→lN
open Nat renaming reduceBEq→zA,reduceBNe→zB,reduceAdd→zC,reduceSub→zD,reduceMul→zE,reduceLeDiff→zF,reduceLT→zG,reduceEqDiff→zH
open Int renaming reduceToNat→zI,reduceLE→zJ,reduceLT→zK,reduceEq→zL
open Bool renaming not_eq_true'→zM,not_eq_false'→zN
set_option linter.unusedSimpArgs false
set_option linter.unusedVariables false
set_option maxRecDepth 20000
set_option maxHeartbeats 64000000
namespace Go.Proofs.YthbcdhfiibpeaaaGreat
open Go Go.Sx
def b1n:List Int:=[-9223372036854775808,0,1,2,9223372036854775807]
def plainL:List Int:=[5,8,11,15]
def anyL:List Int:=[2,1]
def a0G (k:Int):NodeD:=⟨k,0,0,[],[],[],0,0⟩
def a09 (k:Int) (t:List UInt8):NodeD:=⟨k,0,0,t,[],[],0,0⟩
def a7v (k:Int) (l:List Int):NodeD:=⟨k,0,0,[],l,[],0,0⟩
def b37 (a b:Int):NodeD:=⟨3,a,b,[],[],[],0,0⟩
def a3k (k:Int) (a n:Int) (m:Nat) (s:Src):NodeD×Src:=(a7v k (a0Q (b36 a n) m s).1,(a0Q (b36 a n) m s).2)
def a3B (i n k:Int) (s:Src):NodeD×Src:=
  bif decide (k=0) then (b37 (b1n.getD (a0h s 5).toNat 0) (b1n.getD (a0h s 5+a0h (a0f s 5) (5-a0h s 5)).toNat 0),a0f (a0f s 5) (5-a0h s 5)) else
  bif decide (k=1) then (a09 6 (a7S s),a0f s 4) else
  bif decide (k=2) then (a0G 7,s) else
  bif decide (k=3) then (a09 4 (b0E s),a0f s 4) else
  bif decide (k=4) then (a0G (plainL.getD (a0h s 4).toNat 0),a0f s 4) else
  bif decide (k=5) then (a0G 9,s) else
  bif decide (k=6) then (a0G (anyL.getD (a0h s 2).toNat 0),a0f s 2) else
  bif decide (k=7) then (a09 19 (a3M s),a0f s 3) else
  bif decide (k=8)||decide (k=9) then a3k 10 0 n (a0h s 3).toNat (a0f s 3) else
  bif decide (k=10) then a3k 12 0 n 2 s else
  bif decide (k=11) then a3a n s else
  bif decide (k=12)||decide (k=13) then a3k 14 0 n (1+a0h s 3).toNat (a0f s 3) else
  bif decide (k=14) then a3k 18 (i+1) n 1 s else
  bif decide (k=15) then a3k 17 (i+1) n 2 s else a3k 16 (i+1) n (2+a0h s 2).toNat (a0f s 2)
def a0o (i n:Int):Int:=bif decide (i=n-1) then 14 else 18
def a8a (i n:Int) (s:Src):NodeD×Src:=a3B i n (a0h s (a0o i n)) (a0f s (a0o i n))
theorem a1a (i n:Int):1≤a0o i n∧a0o i n≤18:=by unfold a0o;cases decide (i=n-1)<;>decide
theorem a6h (k a n:Int) (m:Nat) {s:Src} (h:s.ok):(a3k k a n m s).2.ok:=a6f (b8P a n) m s h
theorem c1j (i n k:Int) {s:Src} (h:s.ok):(a3B i n k s).2.ok:=by
 unfold a3B
 cases decide (k=0)<;>cases decide (k=1)<;>cases decide (k=2)<;>cases decide (k=3)<;>cases decide (k=4)<;>cases decide (k=5)<;>cases decide (k=6)<;>cases decide (k=7)<;>first
  |exact a0j (a0j h 5) _
  |exact a0j h _
  |exact h
  |skip
 cases decide (k=8)||decide (k=9)
 ·cases decide (k=10)
  ·cases decide (k=11)
   ·cases decide (k=12)||decide (k=13)
    ·cases decide (k=14)
     ·cases decide (k=15)
      ·exact a6h 16 _ n _ (a0j h 2)
      ·exact a6h 17 _ n _ h
     ·exact a6h 18 _ n _ h
    ·exact a6h 14 _ n _ (a0j h 3)
   ·exact b5J n _ (a0j (a0j h n) n)
  ·exact a6h 12 _ n _ h
 ·exact a6h 10 _ n _ (a0j h 3)
theorem c1k (i n:Int) {s:Src} (h:s.ok):(a8a i n s).2.ok:=c1j i n _ (a0j h _)
def a47 (k:Int):Prop:=∀ (s:Src) (i n:Int),s.ok→0≤i→i<n→n≤1000→a0h s (a0o i n)=k→
  PCB Tryz.prog 80 [Sp pin,I .i64 i,I .i64 n] [(pin,a1d s)] (Nt (a3B i n k (a0f s (a0o i n))).1) [(pin,a1d (a3B i n k (a0f s (a0o i n))).2)]
theorem c4h:a47 0:=by
 intro s i n hs hi0 hin hn hk
 have hmi:=a1a i n
 have hwn:=w64 (n:=n-1) (by omega)
 obtain⟨s1,he1⟩:∃ s1,s1=a0f s (a0o i n):=⟨_,rfl⟩
 have hs1:s1.ok:=by rw[he1];exact a0j hs _
 have hN:=a0v 1000000 s hs (a0o i n) (by omega)
 rw[hk,← he1] at hN
 rw[← he1]
 have h5:=a0p s1 (n:=5) (by omega)
 have hs2:=a0j hs1 5
 have h6:=a0p (a0f s1 5) (n:=5-a0h s1 5) (by omega)
 have hw5:=w64 (n:=5-a0h s1 5) (by omega)
 have hw6:=w64 (n:=a0h s1 5+a0h (a0f s1 5) (5-a0h s1 5)) (by omega)
 have hg1:=a3I (fun x=>[C.int .i64 x]) b1n 0 (v:=a0h s1 5) ⟨h5.1,by show _<(5:Int);omega⟩
 have hg2:=a3I (fun x=>[C.int .i64 x]) b1n 0 (v:=a0h s1 5+a0h (a0f s1 5) (5-a0h s1 5)) ⟨by omega,by show _<(5:Int);omega⟩
 unfold a3B
 simp only[Int.reduceEq,decide_true,decide_false,cond_true,cond_false,Bool.or_true,Bool.true_or,Bool.or_false,a3k]
 cases hm0:decide (i=n-1) with
 |false=>
  have hm1:a0o i n=18:=by unfold a0o;rw[hm0];rfl
  rw[hm1] at hN
  refine PCB.ob Tryz.func80 Tryz.ntmps80 Tryz.results80 ?_
  repeat'(first|(simp only[go_sem,zA,zB,zC,zD,zE,zF,zG,reduceCtorEq,zH,zI,zJ,zK,zL,pin,hwn,hm0,hw5,hw6];all_goals refine nf ?_)|(refine stp ?_;intro K hK)|(apply hK;clear hK K)|refine stn ?_|(refine⟨1000000,_,_,_,hN,rfl,?_⟩)|(refine⟨1000000,_,_,_,a0v 1000000 s1 hs1 5 (by omega),rfl,?_⟩)|(refine⟨1000000,_,_,_,a0v 1000000 _ hs2 (5-a0h s1 5) (by omega),rfl,?_⟩)|( refine⟨(by omega:_≤_),_,hg1,?_⟩)|( refine⟨(by omega:_≤_),_,hg2,?_⟩)|(with_reducible refine AWP.genR (id:=8) [9,14] [1000000,6] mixed (by kernel_rfl) fun K hK=>?_;simp only[Bx.outs,Bx.drop,cond_true,cond_false,Nat.reduceBEq,go_sem])|refine stq ?_|(clear hK K))
  all_goals(try simp only[*])
  all_goals first|exact⟨rfl,fun x hx=>by simp only[lN] at hx;subst hx;simp[pin]⟩|(intro x hx;simp only[lN] at hx;subst hx;simp[pin])|fail
 |true=>
  have hm1:a0o i n=14:=by unfold a0o;rw[hm0];rfl
  rw[hm1] at hN
  refine PCB.ob Tryz.func80 Tryz.ntmps80 Tryz.results80 ?_
  repeat'(first|(simp only[go_sem,zA,zB,zC,zD,zE,zF,zG,reduceCtorEq,zH,zI,zJ,zK,zL,pin,hwn,hm0,hw5,hw6];all_goals refine nf ?_)|(refine stp ?_;intro K hK)|(apply hK;clear hK K)|refine stn ?_|(refine⟨1000000,_,_,_,hN,rfl,?_⟩)|(refine⟨1000000,_,_,_,a0v 1000000 s1 hs1 5 (by omega),rfl,?_⟩)|(refine⟨1000000,_,_,_,a0v 1000000 _ hs2 (5-a0h s1 5) (by omega),rfl,?_⟩)|( refine⟨(by omega:_≤_),_,hg1,?_⟩)|( refine⟨(by omega:_≤_),_,hg2,?_⟩)|(with_reducible refine AWP.genR (id:=8) [9,14] [1000000,6] mixed (by kernel_rfl) fun K hK=>?_;simp only[Bx.outs,Bx.drop,cond_true,cond_false,Nat.reduceBEq,go_sem])|refine stq ?_|(clear hK K))
  all_goals(try simp only[*])
  all_goals first|exact⟨rfl,fun x hx=>by simp only[lN] at hx;subst hx;simp[pin]⟩|(intro x hx;simp only[lN] at hx;subst hx;simp[pin])|fail
theorem c4i:a47 1:=by
 intro s i n hs hi0 hin hn hk
 have hmi:=a1a i n
 have hwn:=w64 (n:=n-1) (by omega)
 obtain⟨s1,he1⟩:∃ s1,s1=a0f s (a0o i n):=⟨_,rfl⟩
 have hs1:s1.ok:=by rw[he1];exact a0j hs _
 have hN:=a0v 1000000 s hs (a0o i n) (by omega)
 rw[hk,← he1] at hN
 rw[← he1]
 unfold a3B
 simp only[Int.reduceEq,decide_true,decide_false,cond_true,cond_false,Bool.or_true,Bool.true_or,Bool.or_false,a3k]
 cases hm0:decide (i=n-1) with
 |false=>
  have hm1:a0o i n=18:=by unfold a0o;rw[hm0];rfl
  rw[hm1] at hN
  refine PCB.ob Tryz.func80 Tryz.ntmps80 Tryz.results80 ?_
  repeat'(first|(simp only[go_sem,zA,zB,zC,zD,zE,zF,zG,reduceCtorEq,zH,zI,zJ,zK,zL,pin,hwn,hm0];all_goals refine nf ?_)|(refine stp ?_;intro K hK)|(apply hK;clear hK K)|refine stn ?_|(refine⟨1000000,_,_,_,hN,rfl,?_⟩)|(refine⟨1000000,_,_,_,a4q 1000000 s1 hs1,rfl,?_⟩)|refine stq ?_|(clear hK K))
  all_goals(try simp only[*])
  all_goals first|exact⟨rfl,fun x hx=>by simp only[lN] at hx;subst hx;simp[pin]⟩|(intro x hx;simp only[lN] at hx;subst hx;simp[pin])|fail
 |true=>
  have hm1:a0o i n=14:=by unfold a0o;rw[hm0];rfl
  rw[hm1] at hN
  refine PCB.ob Tryz.func80 Tryz.ntmps80 Tryz.results80 ?_
  repeat'(first|(simp only[go_sem,zA,zB,zC,zD,zE,zF,zG,reduceCtorEq,zH,zI,zJ,zK,zL,pin,hwn,hm0];all_goals refine nf ?_)|(refine stp ?_;intro K hK)|(apply hK;clear hK K)|refine stn ?_|(refine⟨1000000,_,_,_,hN,rfl,?_⟩)|(refine⟨1000000,_,_,_,a4q 1000000 s1 hs1,rfl,?_⟩)|refine stq ?_|(clear hK K))
  all_goals(try simp only[*])
  all_goals first|exact⟨rfl,fun x hx=>by simp only[lN] at hx;subst hx;simp[pin]⟩|(intro x hx;simp only[lN] at hx;subst hx;simp[pin])|fail
theorem c4j:a47 2:=by
 intro s i n hs hi0 hin hn hk
 have hmi:=a1a i n
 have hwn:=w64 (n:=n-1) (by omega)
 obtain⟨s1,he1⟩:∃ s1,s1=a0f s (a0o i n):=⟨_,rfl⟩
 have hs1:s1.ok:=by rw[he1];exact a0j hs _
 have hN:=a0v 1000000 s hs (a0o i n) (by omega)
 rw[hk,← he1] at hN
 rw[← he1]
 unfold a3B
 simp only[Int.reduceEq,decide_true,decide_false,cond_true,cond_false,Bool.or_true,Bool.true_or,Bool.or_false,a3k]
 cases hm0:decide (i=n-1) with
 |false=>
  have hm1:a0o i n=18:=by unfold a0o;rw[hm0];rfl
  rw[hm1] at hN
  refine PCB.ob Tryz.func80 Tryz.ntmps80 Tryz.results80 ?_
  repeat'(first|(simp only[go_sem,zA,zB,zC,zD,zE,zF,zG,reduceCtorEq,zH,zI,zJ,zK,zL,pin,hwn,hm0];all_goals refine nf ?_)|(refine stp ?_;intro K hK)|(apply hK;clear hK K)|refine stn ?_|(refine⟨1000000,_,_,_,hN,rfl,?_⟩)|refine stq ?_|(clear hK K))
  all_goals(try simp only[*])
  all_goals first|exact⟨rfl,fun x hx=>by simp only[lN] at hx;subst hx;simp[pin]⟩|(intro x hx;simp only[lN] at hx;subst hx;simp[pin])|fail
 |true=>
  have hm1:a0o i n=14:=by unfold a0o;rw[hm0];rfl
  rw[hm1] at hN
  refine PCB.ob Tryz.func80 Tryz.ntmps80 Tryz.results80 ?_
  repeat'(first|(simp only[go_sem,zA,zB,zC,zD,zE,zF,zG,reduceCtorEq,zH,zI,zJ,zK,zL,pin,hwn,hm0];all_goals refine nf ?_)|(refine stp ?_;intro K hK)|(apply hK;clear hK K)|refine stn ?_|(refine⟨1000000,_,_,_,hN,rfl,?_⟩)|refine stq ?_|(clear hK K))
  all_goals(try simp only[*])
  all_goals first|exact⟨rfl,fun x hx=>by simp only[lN] at hx;subst hx;simp[pin]⟩|(intro x hx;simp only[lN] at hx;subst hx;simp[pin])|fail
theorem c4k:a47 3:=by
 intro s i n hs hi0 hin hn hk
 have hmi:=a1a i n
 have hwn:=w64 (n:=n-1) (by omega)
 obtain⟨s1,he1⟩:∃ s1,s1=a0f s (a0o i n):=⟨_,rfl⟩
 have hs1:s1.ok:=by rw[he1];exact a0j hs _
 have hN:=a0v 1000000 s hs (a0o i n) (by omega)
 rw[hk,← he1] at hN
 rw[← he1]
 unfold a3B
 simp only[Int.reduceEq,decide_true,decide_false,cond_true,cond_false,Bool.or_true,Bool.true_or,Bool.or_false,a3k]
 cases hm0:decide (i=n-1) with
 |false=>
  have hm1:a0o i n=18:=by unfold a0o;rw[hm0];rfl
  rw[hm1] at hN
  refine PCB.ob Tryz.func80 Tryz.ntmps80 Tryz.results80 ?_
  repeat'(first|(simp only[go_sem,zA,zB,zC,zD,zE,zF,zG,reduceCtorEq,zH,zI,zJ,zK,zL,pin,hwn,hm0];all_goals refine nf ?_)|(refine stp ?_;intro K hK)|(apply hK;clear hK K)|refine stn ?_|(refine⟨1000000,_,_,_,hN,rfl,?_⟩)|(refine⟨1000000,_,_,_,b26 1000000 s1 hs1,rfl,?_⟩)|refine stq ?_|(clear hK K))
  all_goals(try simp only[*])
  all_goals first|exact⟨rfl,fun x hx=>by simp only[lN] at hx;subst hx;simp[pin]⟩|(intro x hx;simp only[lN] at hx;subst hx;simp[pin])|fail
 |true=>
  have hm1:a0o i n=14:=by unfold a0o;rw[hm0];rfl
  rw[hm1] at hN
  refine PCB.ob Tryz.func80 Tryz.ntmps80 Tryz.results80 ?_
  repeat'(first|(simp only[go_sem,zA,zB,zC,zD,zE,zF,zG,reduceCtorEq,zH,zI,zJ,zK,zL,pin,hwn,hm0];all_goals refine nf ?_)|(refine stp ?_;intro K hK)|(apply hK;clear hK K)|refine stn ?_|(refine⟨1000000,_,_,_,hN,rfl,?_⟩)|(refine⟨1000000,_,_,_,b26 1000000 s1 hs1,rfl,?_⟩)|refine stq ?_|(clear hK K))
  all_goals(try simp only[*])
  all_goals first|exact⟨rfl,fun x hx=>by simp only[lN] at hx;subst hx;simp[pin]⟩|(intro x hx;simp only[lN] at hx;subst hx;simp[pin])|fail
theorem c4l:a47 4:=by
 intro s i n hs hi0 hin hn hk
 have hmi:=a1a i n
 have hwn:=w64 (n:=n-1) (by omega)
 obtain⟨s1,he1⟩:∃ s1,s1=a0f s (a0o i n):=⟨_,rfl⟩
 have hs1:s1.ok:=by rw[he1];exact a0j hs _
 have hN:=a0v 1000000 s hs (a0o i n) (by omega)
 rw[hk,← he1] at hN
 rw[← he1]
 have h5:=a0p s1 (n:=4) (by omega)
 have hg1:=a3I (fun x=>[C.int .i64 x]) plainL 0 (v:=a0h s1 4) ⟨h5.1,by show _<(4:Int);omega⟩
 unfold a3B
 simp only[Int.reduceEq,decide_true,decide_false,cond_true,cond_false,Bool.or_true,Bool.true_or,Bool.or_false,a3k]
 cases hm0:decide (i=n-1) with
 |false=>
  have hm1:a0o i n=18:=by unfold a0o;rw[hm0];rfl
  rw[hm1] at hN
  refine PCB.ob Tryz.func80 Tryz.ntmps80 Tryz.results80 ?_
  repeat'(first|(simp only[go_sem,zA,zB,zC,zD,zE,zF,zG,reduceCtorEq,zH,zI,zJ,zK,zL,pin,hwn,hm0];all_goals refine nf ?_)|(refine stp ?_;intro K hK)|(apply hK;clear hK K)|refine stn ?_|(refine⟨1000000,_,_,_,hN,rfl,?_⟩)|(refine⟨1000000,_,_,_,a0v 1000000 s1 hs1 4 (by omega),rfl,?_⟩)|( refine⟨(by omega:_≤_),_,hg1,?_⟩)|refine stq ?_|(clear hK K))
  all_goals(try simp only[*])
  all_goals first|exact⟨rfl,fun x hx=>by simp only[lN] at hx;subst hx;simp[pin]⟩|(intro x hx;simp only[lN] at hx;subst hx;simp[pin])|fail
 |true=>
  have hm1:a0o i n=14:=by unfold a0o;rw[hm0];rfl
  rw[hm1] at hN
  refine PCB.ob Tryz.func80 Tryz.ntmps80 Tryz.results80 ?_
  repeat'(first|(simp only[go_sem,zA,zB,zC,zD,zE,zF,zG,reduceCtorEq,zH,zI,zJ,zK,zL,pin,hwn,hm0];all_goals refine nf ?_)|(refine stp ?_;intro K hK)|(apply hK;clear hK K)|refine stn ?_|(refine⟨1000000,_,_,_,hN,rfl,?_⟩)|(refine⟨1000000,_,_,_,a0v 1000000 s1 hs1 4 (by omega),rfl,?_⟩)|( refine⟨(by omega:_≤_),_,hg1,?_⟩)|refine stq ?_|(clear hK K))
  all_goals(try simp only[*])
  all_goals first|exact⟨rfl,fun x hx=>by simp only[lN] at hx;subst hx;simp[pin]⟩|(intro x hx;simp only[lN] at hx;subst hx;simp[pin])|fail
theorem c4m:a47 5:=by
 intro s i n hs hi0 hin hn hk
 have hmi:=a1a i n
 have hwn:=w64 (n:=n-1) (by omega)
 obtain⟨s1,he1⟩:∃ s1,s1=a0f s (a0o i n):=⟨_,rfl⟩
 have hs1:s1.ok:=by rw[he1];exact a0j hs _
 have hN:=a0v 1000000 s hs (a0o i n) (by omega)
 rw[hk,← he1] at hN
 rw[← he1]
 unfold a3B
 simp only[Int.reduceEq,decide_true,decide_false,cond_true,cond_false,Bool.or_true,Bool.true_or,Bool.or_false,a3k]
 cases hm0:decide (i=n-1) with
 |false=>
  have hm1:a0o i n=18:=by unfold a0o;rw[hm0];rfl
  rw[hm1] at hN
  refine PCB.ob Tryz.func80 Tryz.ntmps80 Tryz.results80 ?_
  repeat'(first|(simp only[go_sem,zA,zB,zC,zD,zE,zF,zG,reduceCtorEq,zH,zI,zJ,zK,zL,pin,hwn,hm0];all_goals refine nf ?_)|(refine stp ?_;intro K hK)|(apply hK;clear hK K)|refine stn ?_|(refine⟨1000000,_,_,_,hN,rfl,?_⟩)|refine stq ?_|(clear hK K))
  all_goals(try simp only[*])
  all_goals first|exact⟨rfl,fun x hx=>by simp only[lN] at hx;subst hx;simp[pin]⟩|(intro x hx;simp only[lN] at hx;subst hx;simp[pin])|fail
 |true=>
  have hm1:a0o i n=14:=by unfold a0o;rw[hm0];rfl
  rw[hm1] at hN
  refine PCB.ob Tryz.func80 Tryz.ntmps80 Tryz.results80 ?_
  repeat'(first|(simp only[go_sem,zA,zB,zC,zD,zE,zF,zG,reduceCtorEq,zH,zI,zJ,zK,zL,pin,hwn,hm0];all_goals refine nf ?_)|(refine stp ?_;intro K hK)|(apply hK;clear hK K)|refine stn ?_|(refine⟨1000000,_,_,_,hN,rfl,?_⟩)|refine stq ?_|(clear hK K))
  all_goals(try simp only[*])
  all_goals first|exact⟨rfl,fun x hx=>by simp only[lN] at hx;subst hx;simp[pin]⟩|(intro x hx;simp only[lN] at hx;subst hx;simp[pin])|fail
theorem c4n:a47 6:=by
 intro s i n hs hi0 hin hn hk
 have hmi:=a1a i n
 have hwn:=w64 (n:=n-1) (by omega)
 obtain⟨s1,he1⟩:∃ s1,s1=a0f s (a0o i n):=⟨_,rfl⟩
 have hs1:s1.ok:=by rw[he1];exact a0j hs _
 have hN:=a0v 1000000 s hs (a0o i n) (by omega)
 rw[hk,← he1] at hN
 rw[← he1]
 have h5:=a0p s1 (n:=2) (by omega)
 have hg1:=a3I (fun x=>[C.int .i64 x]) anyL 0 (v:=a0h s1 2) ⟨h5.1,by show _<(2:Int);omega⟩
 unfold a3B
 simp only[Int.reduceEq,decide_true,decide_false,cond_true,cond_false,Bool.or_true,Bool.true_or,Bool.or_false,a3k]
 cases hm0:decide (i=n-1) with
 |false=>
  have hm1:a0o i n=18:=by unfold a0o;rw[hm0];rfl
  rw[hm1] at hN
  refine PCB.ob Tryz.func80 Tryz.ntmps80 Tryz.results80 ?_
  repeat'(first|(simp only[go_sem,zA,zB,zC,zD,zE,zF,zG,reduceCtorEq,zH,zI,zJ,zK,zL,pin,hwn,hm0];all_goals refine nf ?_)|(refine stp ?_;intro K hK)|(apply hK;clear hK K)|refine stn ?_|(refine⟨1000000,_,_,_,hN,rfl,?_⟩)|(refine⟨1000000,_,_,_,a0v 1000000 s1 hs1 2 (by omega),rfl,?_⟩)|( refine⟨(by omega:_≤_),_,hg1,?_⟩)|refine stq ?_|(clear hK K))
  all_goals(try simp only[*])
  all_goals first|exact⟨rfl,fun x hx=>by simp only[lN] at hx;subst hx;simp[pin]⟩|(intro x hx;simp only[lN] at hx;subst hx;simp[pin])|fail
 |true=>
  have hm1:a0o i n=14:=by unfold a0o;rw[hm0];rfl
  rw[hm1] at hN
  refine PCB.ob Tryz.func80 Tryz.ntmps80 Tryz.results80 ?_
  repeat'(first|(simp only[go_sem,zA,zB,zC,zD,zE,zF,zG,reduceCtorEq,zH,zI,zJ,zK,zL,pin,hwn,hm0];all_goals refine nf ?_)|(refine stp ?_;intro K hK)|(apply hK;clear hK K)|refine stn ?_|(refine⟨1000000,_,_,_,hN,rfl,?_⟩)|(refine⟨1000000,_,_,_,a0v 1000000 s1 hs1 2 (by omega),rfl,?_⟩)|( refine⟨(by omega:_≤_),_,hg1,?_⟩)|refine stq ?_|(clear hK K))
  all_goals(try simp only[*])
  all_goals first|exact⟨rfl,fun x hx=>by simp only[lN] at hx;subst hx;simp[pin]⟩|(intro x hx;simp only[lN] at hx;subst hx;simp[pin])|fail
theorem c4o:a47 7:=by
 intro s i n hs hi0 hin hn hk
 have hmi:=a1a i n
 have hwn:=w64 (n:=n-1) (by omega)
 obtain⟨s1,he1⟩:∃ s1,s1=a0f s (a0o i n):=⟨_,rfl⟩
 have hs1:s1.ok:=by rw[he1];exact a0j hs _
 have hN:=a0v 1000000 s hs (a0o i n) (by omega)
 rw[hk,← he1] at hN
 rw[← he1]
 unfold a3B
 simp only[Int.reduceEq,decide_true,decide_false,cond_true,cond_false,Bool.or_true,Bool.true_or,Bool.or_false,a3k]
 cases hm0:decide (i=n-1) with
 |false=>
  have hm1:a0o i n=18:=by unfold a0o;rw[hm0];rfl
  rw[hm1] at hN
  refine PCB.ob Tryz.func80 Tryz.ntmps80 Tryz.results80 ?_
  repeat'(first|(simp only[go_sem,zA,zB,zC,zD,zE,zF,zG,reduceCtorEq,zH,zI,zJ,zK,zL,pin,hwn,hm0];all_goals refine nf ?_)|(refine stp ?_;intro K hK)|(apply hK;clear hK K)|refine stn ?_|(refine⟨1000000,_,_,_,hN,rfl,?_⟩)|(refine⟨1000000,_,_,_,b4B 1000000 s1 hs1,rfl,?_⟩)|refine stq ?_|(clear hK K))
  all_goals(try simp only[*])
  all_goals first|exact⟨rfl,fun x hx=>by simp only[lN] at hx;subst hx;simp[pin]⟩|(intro x hx;simp only[lN] at hx;subst hx;simp[pin])|fail
 |true=>
  have hm1:a0o i n=14:=by unfold a0o;rw[hm0];rfl
  rw[hm1] at hN
  refine PCB.ob Tryz.func80 Tryz.ntmps80 Tryz.results80 ?_
  repeat'(first|(simp only[go_sem,zA,zB,zC,zD,zE,zF,zG,reduceCtorEq,zH,zI,zJ,zK,zL,pin,hwn,hm0];all_goals refine nf ?_)|(refine stp ?_;intro K hK)|(apply hK;clear hK K)|refine stn ?_|(refine⟨1000000,_,_,_,hN,rfl,?_⟩)|(refine⟨1000000,_,_,_,b4B 1000000 s1 hs1,rfl,?_⟩)|refine stq ?_|(clear hK K))
  all_goals(try simp only[*])
  all_goals first|exact⟨rfl,fun x hx=>by simp only[lN] at hx;subst hx;simp[pin]⟩|(intro x hx;simp only[lN] at hx;subst hx;simp[pin])|fail
theorem c4p:a47 8:=by
 intro s i n hs hi0 hin hn hk
 have hmi:=a1a i n
 have hwn:=w64 (n:=n-1) (by omega)
 obtain⟨s1,he1⟩:∃ s1,s1=a0f s (a0o i n):=⟨_,rfl⟩
 have hs1:s1.ok:=by rw[he1];exact a0j hs _
 have hN:=a0v 1000000 s hs (a0o i n) (by omega)
 rw[hk,← he1] at hN
 rw[← he1]
 have h5:=a0p s1 (n:=3) (by omega)
 have hs2:=a0j hs1 3
 obtain⟨m,hm⟩:∃ m:Nat,m=(a0h s1 3).toNat:=⟨_,rfl⟩
 have hmm:a0h s1 3=(m:Int):=by omega
 have hI:=a2E 1000000 _ hs2 m (by omega) 0 n (by omega) (by omega) hn
 unfold a3B
 simp only[Int.reduceEq,decide_true,decide_false,cond_true,cond_false,Bool.or_true,Bool.true_or,Bool.or_false,a3k]
 cases hm0:decide (i=n-1) with
 |false=>
  have hm1:a0o i n=18:=by unfold a0o;rw[hm0];rfl
  rw[hm1] at hN
  refine PCB.ob Tryz.func80 Tryz.ntmps80 Tryz.results80 ?_
  repeat'(first|(simp only[go_sem,zA,zB,zC,zD,zE,zF,zG,reduceCtorEq,zH,zI,zJ,zK,zL,pin,hwn,hm0,hmm];all_goals refine nf ?_)|(refine stp ?_;intro K hK)|(apply hK;clear hK K)|refine stn ?_|(refine⟨1000000,_,_,_,hN,rfl,?_⟩)|(refine⟨1000000,_,_,_,a0v 1000000 s1 hs1 3 (by omega),rfl,?_⟩)|(refine⟨1000000,_,_,_,hI,rfl,?_⟩)|refine stq ?_|(clear hK K))
  all_goals(try rw[← hm];try simp only[*])
  all_goals first|exact⟨rfl,fun x hx=>by simp only[lN] at hx;subst hx;simp[pin]⟩|(intro x hx;simp only[lN] at hx;subst hx;simp[pin])|fail
 |true=>
  have hm1:a0o i n=14:=by unfold a0o;rw[hm0];rfl
  rw[hm1] at hN
  refine PCB.ob Tryz.func80 Tryz.ntmps80 Tryz.results80 ?_
  repeat'(first|(simp only[go_sem,zA,zB,zC,zD,zE,zF,zG,reduceCtorEq,zH,zI,zJ,zK,zL,pin,hwn,hm0,hmm];all_goals refine nf ?_)|(refine stp ?_;intro K hK)|(apply hK;clear hK K)|refine stn ?_|(refine⟨1000000,_,_,_,hN,rfl,?_⟩)|(refine⟨1000000,_,_,_,a0v 1000000 s1 hs1 3 (by omega),rfl,?_⟩)|(refine⟨1000000,_,_,_,hI,rfl,?_⟩)|refine stq ?_|(clear hK K))
  all_goals(try rw[← hm];try simp only[*])
  all_goals first|exact⟨rfl,fun x hx=>by simp only[lN] at hx;subst hx;simp[pin]⟩|(intro x hx;simp only[lN] at hx;subst hx;simp[pin])|fail
theorem c4q:a47 9:=by
 intro s i n hs hi0 hin hn hk
 have hmi:=a1a i n
 have hwn:=w64 (n:=n-1) (by omega)
 obtain⟨s1,he1⟩:∃ s1,s1=a0f s (a0o i n):=⟨_,rfl⟩
 have hs1:s1.ok:=by rw[he1];exact a0j hs _
 have hN:=a0v 1000000 s hs (a0o i n) (by omega)
 rw[hk,← he1] at hN
 rw[← he1]
 have h5:=a0p s1 (n:=3) (by omega)
 have hs2:=a0j hs1 3
 obtain⟨m,hm⟩:∃ m:Nat,m=(a0h s1 3).toNat:=⟨_,rfl⟩
 have hmm:a0h s1 3=(m:Int):=by omega
 have hI:=a2E 1000000 _ hs2 m (by omega) 0 n (by omega) (by omega) hn
 unfold a3B
 simp only[Int.reduceEq,decide_true,decide_false,cond_true,cond_false,Bool.or_true,Bool.true_or,Bool.or_false,a3k]
 cases hm0:decide (i=n-1) with
 |false=>
  have hm1:a0o i n=18:=by unfold a0o;rw[hm0];rfl
  rw[hm1] at hN
  refine PCB.ob Tryz.func80 Tryz.ntmps80 Tryz.results80 ?_
  repeat'(first|(simp only[go_sem,zA,zB,zC,zD,zE,zF,zG,reduceCtorEq,zH,zI,zJ,zK,zL,pin,hwn,hm0,hmm];all_goals refine nf ?_)|(refine stp ?_;intro K hK)|(apply hK;clear hK K)|refine stn ?_|(refine⟨1000000,_,_,_,hN,rfl,?_⟩)|(refine⟨1000000,_,_,_,a0v 1000000 s1 hs1 3 (by omega),rfl,?_⟩)|(refine⟨1000000,_,_,_,hI,rfl,?_⟩)|refine stq ?_|(clear hK K))
  all_goals(try rw[← hm];try simp only[*])
  all_goals first|exact⟨rfl,fun x hx=>by simp only[lN] at hx;subst hx;simp[pin]⟩|(intro x hx;simp only[lN] at hx;subst hx;simp[pin])|fail
 |true=>
  have hm1:a0o i n=14:=by unfold a0o;rw[hm0];rfl
  rw[hm1] at hN
  refine PCB.ob Tryz.func80 Tryz.ntmps80 Tryz.results80 ?_
  repeat'(first|(simp only[go_sem,zA,zB,zC,zD,zE,zF,zG,reduceCtorEq,zH,zI,zJ,zK,zL,pin,hwn,hm0,hmm];all_goals refine nf ?_)|(refine stp ?_;intro K hK)|(apply hK;clear hK K)|refine stn ?_|(refine⟨1000000,_,_,_,hN,rfl,?_⟩)|(refine⟨1000000,_,_,_,a0v 1000000 s1 hs1 3 (by omega),rfl,?_⟩)|(refine⟨1000000,_,_,_,hI,rfl,?_⟩)|refine stq ?_|(clear hK K))
  all_goals(try rw[← hm];try simp only[*])
  all_goals first|exact⟨rfl,fun x hx=>by simp only[lN] at hx;subst hx;simp[pin]⟩|(intro x hx;simp only[lN] at hx;subst hx;simp[pin])|fail
theorem c1l:a47 10:=by
 intro s i n hs hi0 hin hn hk
 have hmi:=a1a i n
 have hwn:=w64 (n:=n-1) (by omega)
 obtain⟨s1,he1⟩:∃ s1,s1=a0f s (a0o i n):=⟨_,rfl⟩
 have hs1:s1.ok:=by rw[he1];exact a0j hs _
 have hN:=a0v 1000000 s hs (a0o i n) (by omega)
 rw[hk,← he1] at hN
 rw[← he1]
 have hI:=a2E 1000000 s1 hs1 2 (by omega) 0 n (by omega) (by omega) hn
 unfold a3B
 simp only[Int.reduceEq,decide_true,decide_false,cond_true,cond_false,Bool.or_true,Bool.true_or,Bool.or_false,a3k]
 cases hm0:decide (i=n-1) with
 |false=>
  have hm1:a0o i n=18:=by unfold a0o;rw[hm0];rfl
  rw[hm1] at hN
  refine PCB.ob Tryz.func80 Tryz.ntmps80 Tryz.results80 ?_
  repeat'(first|(simp only[go_sem,zA,zB,zC,zD,zE,zF,zG,reduceCtorEq,zH,zI,zJ,zK,zL,pin,hwn,hm0];all_goals refine nf ?_)|(refine stp ?_;intro K hK)|(apply hK;clear hK K)|refine stn ?_|(refine⟨1000000,_,_,_,hN,rfl,?_⟩)|(refine⟨1000000,_,_,_,hI,rfl,?_⟩)|refine stq ?_|(clear hK K))
  all_goals(try simp only[*])
  all_goals first|exact⟨rfl,fun x hx=>by simp only[lN] at hx;subst hx;simp[pin]⟩|(intro x hx;simp only[lN] at hx;subst hx;simp[pin])|fail
 |true=>
  have hm1:a0o i n=14:=by unfold a0o;rw[hm0];rfl
  rw[hm1] at hN
  refine PCB.ob Tryz.func80 Tryz.ntmps80 Tryz.results80 ?_
  repeat'(first|(simp only[go_sem,zA,zB,zC,zD,zE,zF,zG,reduceCtorEq,zH,zI,zJ,zK,zL,pin,hwn,hm0];all_goals refine nf ?_)|(refine stp ?_;intro K hK)|(apply hK;clear hK K)|refine stn ?_|(refine⟨1000000,_,_,_,hN,rfl,?_⟩)|(refine⟨1000000,_,_,_,hI,rfl,?_⟩)|refine stq ?_|(clear hK K))
  all_goals(try simp only[*])
  all_goals first|exact⟨rfl,fun x hx=>by simp only[lN] at hx;subst hx;simp[pin]⟩|(intro x hx;simp only[lN] at hx;subst hx;simp[pin])|fail
theorem c1m:a47 11:=by
 intro s i n hs hi0 hin hn hk
 have hmi:=a1a i n
 have hwn:=w64 (n:=n-1) (by omega)
 obtain⟨s1,he1⟩:∃ s1,s1=a0f s (a0o i n):=⟨_,rfl⟩
 have hs1:s1.ok:=by rw[he1];exact a0j hs _
 have hN:=a0v 1000000 s hs (a0o i n) (by omega)
 rw[hk,← he1] at hN
 rw[← he1]
 have hM:=b8S 1000000 s1 hs1 n (by omega)
 unfold a3B
 simp only[Int.reduceEq,decide_true,decide_false,cond_true,cond_false,Bool.or_true,Bool.true_or,Bool.or_false,a3k]
 cases hm0:decide (i=n-1) with
 |false=>
  have hm1:a0o i n=18:=by unfold a0o;rw[hm0];rfl
  rw[hm1] at hN
  refine PCB.ob Tryz.func80 Tryz.ntmps80 Tryz.results80 ?_
  repeat'(first|(simp only[go_sem,zA,zB,zC,zD,zE,zF,zG,reduceCtorEq,zH,zI,zJ,zK,zL,pin,hwn,hm0];all_goals refine nf ?_)|(refine stp ?_;intro K hK)|(apply hK;clear hK K)|refine stn ?_|(refine⟨1000000,_,_,_,hN,rfl,?_⟩)|(refine⟨1000000,_,_,_,hM,rfl,?_⟩)|refine stq ?_|(clear hK K))
  all_goals(try simp only[*])
  all_goals first|exact⟨rfl,fun x hx=>by simp only[lN] at hx;subst hx;simp[pin]⟩|(intro x hx;simp only[lN] at hx;subst hx;simp[pin])|fail
 |true=>
  have hm1:a0o i n=14:=by unfold a0o;rw[hm0];rfl
  rw[hm1] at hN
  refine PCB.ob Tryz.func80 Tryz.ntmps80 Tryz.results80 ?_
  repeat'(first|(simp only[go_sem,zA,zB,zC,zD,zE,zF,zG,reduceCtorEq,zH,zI,zJ,zK,zL,pin,hwn,hm0];all_goals refine nf ?_)|(refine stp ?_;intro K hK)|(apply hK;clear hK K)|refine stn ?_|(refine⟨1000000,_,_,_,hN,rfl,?_⟩)|(refine⟨1000000,_,_,_,hM,rfl,?_⟩)|refine stq ?_|(clear hK K))
  all_goals(try simp only[*])
  all_goals first|exact⟨rfl,fun x hx=>by simp only[lN] at hx;subst hx;simp[pin]⟩|(intro x hx;simp only[lN] at hx;subst hx;simp[pin])|fail
theorem c1n:a47 12:=by
 intro s i n hs hi0 hin hn hk
 have hmi:=a1a i n
 have hwn:=w64 (n:=n-1) (by omega)
 obtain⟨s1,he1⟩:∃ s1,s1=a0f s (a0o i n):=⟨_,rfl⟩
 have hs1:s1.ok:=by rw[he1];exact a0j hs _
 have hN:=a0v 1000000 s hs (a0o i n) (by omega)
 rw[hk,← he1] at hN
 rw[← he1]
 have h5:=a0p s1 (n:=3) (by omega)
 have hs2:=a0j hs1 3
 obtain⟨m,hm⟩:∃ m:Nat,m=(1+a0h s1 3).toNat:=⟨_,rfl⟩
 have hmm:IntKind.i64.wrap (1+a0h s1 3)=(m:Int):=by rw[w64 (by omega)];omega
 have hI:=a2E 1000000 _ hs2 m (by omega) 0 n (by omega) (by omega) hn
 unfold a3B
 simp only[Int.reduceEq,decide_true,decide_false,cond_true,cond_false,Bool.or_true,Bool.true_or,Bool.or_false,a3k]
 cases hm0:decide (i=n-1) with
 |false=>
  have hm1:a0o i n=18:=by unfold a0o;rw[hm0];rfl
  rw[hm1] at hN
  refine PCB.ob Tryz.func80 Tryz.ntmps80 Tryz.results80 ?_
  repeat'(first|(simp only[go_sem,zA,zB,zC,zD,zE,zF,zG,reduceCtorEq,zH,zI,zJ,zK,zL,pin,hwn,hm0,hmm];all_goals refine nf ?_)|(refine stp ?_;intro K hK)|(apply hK;clear hK K)|refine stn ?_|(refine⟨1000000,_,_,_,hN,rfl,?_⟩)|(refine⟨1000000,_,_,_,a0v 1000000 s1 hs1 3 (by omega),rfl,?_⟩)|(refine⟨1000000,_,_,_,hI,rfl,?_⟩)|refine stq ?_|(clear hK K))
  all_goals(try rw[← hm];try simp only[*])
  all_goals first|exact⟨rfl,fun x hx=>by simp only[lN] at hx;subst hx;simp[pin]⟩|(intro x hx;simp only[lN] at hx;subst hx;simp[pin])|fail
 |true=>
  have hm1:a0o i n=14:=by unfold a0o;rw[hm0];rfl
  rw[hm1] at hN
  refine PCB.ob Tryz.func80 Tryz.ntmps80 Tryz.results80 ?_
  repeat'(first|(simp only[go_sem,zA,zB,zC,zD,zE,zF,zG,reduceCtorEq,zH,zI,zJ,zK,zL,pin,hwn,hm0,hmm];all_goals refine nf ?_)|(refine stp ?_;intro K hK)|(apply hK;clear hK K)|refine stn ?_|(refine⟨1000000,_,_,_,hN,rfl,?_⟩)|(refine⟨1000000,_,_,_,a0v 1000000 s1 hs1 3 (by omega),rfl,?_⟩)|(refine⟨1000000,_,_,_,hI,rfl,?_⟩)|refine stq ?_|(clear hK K))
  all_goals(try rw[← hm];try simp only[*])
  all_goals first|exact⟨rfl,fun x hx=>by simp only[lN] at hx;subst hx;simp[pin]⟩|(intro x hx;simp only[lN] at hx;subst hx;simp[pin])|fail
theorem c1o:a47 13:=by
 intro s i n hs hi0 hin hn hk
 have hmi:=a1a i n
 have hwn:=w64 (n:=n-1) (by omega)
 obtain⟨s1,he1⟩:∃ s1,s1=a0f s (a0o i n):=⟨_,rfl⟩
 have hs1:s1.ok:=by rw[he1];exact a0j hs _
 have hN:=a0v 1000000 s hs (a0o i n) (by omega)
 rw[hk,← he1] at hN
 rw[← he1]
 have h5:=a0p s1 (n:=3) (by omega)
 have hs2:=a0j hs1 3
 obtain⟨m,hm⟩:∃ m:Nat,m=(1+a0h s1 3).toNat:=⟨_,rfl⟩
 have hmm:IntKind.i64.wrap (1+a0h s1 3)=(m:Int):=by rw[w64 (by omega)];omega
 have hI:=a2E 1000000 _ hs2 m (by omega) 0 n (by omega) (by omega) hn
 unfold a3B
 simp only[Int.reduceEq,decide_true,decide_false,cond_true,cond_false,Bool.or_true,Bool.true_or,Bool.or_false,a3k]
 cases hm0:decide (i=n-1) with
 |false=>
  have hm1:a0o i n=18:=by unfold a0o;rw[hm0];rfl
  rw[hm1] at hN
  refine PCB.ob Tryz.func80 Tryz.ntmps80 Tryz.results80 ?_
  repeat'(first|(simp only[go_sem,zA,zB,zC,zD,zE,zF,zG,reduceCtorEq,zH,zI,zJ,zK,zL,pin,hwn,hm0,hmm];all_goals refine nf ?_)|(refine stp ?_;intro K hK)|(apply hK;clear hK K)|refine stn ?_|(refine⟨1000000,_,_,_,hN,rfl,?_⟩)|(refine⟨1000000,_,_,_,a0v 1000000 s1 hs1 3 (by omega),rfl,?_⟩)|(refine⟨1000000,_,_,_,hI,rfl,?_⟩)|refine stq ?_|(clear hK K))
  all_goals(try rw[← hm];try simp only[*])
  all_goals first|exact⟨rfl,fun x hx=>by simp only[lN] at hx;subst hx;simp[pin]⟩|(intro x hx;simp only[lN] at hx;subst hx;simp[pin])|fail
 |true=>
  have hm1:a0o i n=14:=by unfold a0o;rw[hm0];rfl
  rw[hm1] at hN
  refine PCB.ob Tryz.func80 Tryz.ntmps80 Tryz.results80 ?_
  repeat'(first|(simp only[go_sem,zA,zB,zC,zD,zE,zF,zG,reduceCtorEq,zH,zI,zJ,zK,zL,pin,hwn,hm0,hmm];all_goals refine nf ?_)|(refine stp ?_;intro K hK)|(apply hK;clear hK K)|refine stn ?_|(refine⟨1000000,_,_,_,hN,rfl,?_⟩)|(refine⟨1000000,_,_,_,a0v 1000000 s1 hs1 3 (by omega),rfl,?_⟩)|(refine⟨1000000,_,_,_,hI,rfl,?_⟩)|refine stq ?_|(clear hK K))
  all_goals(try rw[← hm];try simp only[*])
  all_goals first|exact⟨rfl,fun x hx=>by simp only[lN] at hx;subst hx;simp[pin]⟩|(intro x hx;simp only[lN] at hx;subst hx;simp[pin])|fail
theorem c1p:a47 14:=by
 intro s i n hs hi0 hin hn hk
 have hmi:=a1a i n
 have hwn:=w64 (n:=n-1) (by omega)
 obtain⟨s1,he1⟩:∃ s1,s1=a0f s (a0o i n):=⟨_,rfl⟩
 have hs1:s1.ok:=by rw[he1];exact a0j hs _
 have hN:=a0v 1000000 s hs (a0o i n) (by omega)
 rw[hk,← he1] at hN
 rw[← he1]
 have hi:i+1<n:=by
  rcases Decidable.em (i=n-1) with h|h
  ·exfalso;have:=a0p s (n:=a0o i n) (a1a i n).1;rw[show a0o i n=14 from by unfold a0o;rw[decide_eq_true h];rfl] at this hk;omega
  ·omega
 have hw5:=w64 (n:=i+1) (by omega)
 have hI:=a2E 1000000 s1 hs1 1 (by omega) (i+1) n (by omega) (by omega) hn
 unfold a3B
 simp only[Int.reduceEq,decide_true,decide_false,cond_true,cond_false,Bool.or_true,Bool.true_or,Bool.or_false,a3k]
 cases hm0:decide (i=n-1) with
 |false=>
  have hm1:a0o i n=18:=by unfold a0o;rw[hm0];rfl
  rw[hm1] at hN
  refine PCB.ob Tryz.func80 Tryz.ntmps80 Tryz.results80 ?_
  repeat'(first|(simp only[go_sem,zA,zB,zC,zD,zE,zF,zG,reduceCtorEq,zH,zI,zJ,zK,zL,pin,hwn,hm0,hw5];all_goals refine nf ?_)|(refine stp ?_;intro K hK)|(apply hK;clear hK K)|refine stn ?_|(refine⟨1000000,_,_,_,hN,rfl,?_⟩)|(refine⟨1000000,_,_,_,hI,rfl,?_⟩)|refine stq ?_|(clear hK K))
  all_goals(try simp only[*])
  all_goals first|exact⟨rfl,fun x hx=>by simp only[lN] at hx;subst hx;simp[pin]⟩|(intro x hx;simp only[lN] at hx;subst hx;simp[pin])|fail
 |true=>
  have hm1:a0o i n=14:=by unfold a0o;rw[hm0];rfl
  rw[hm1] at hN
  refine PCB.ob Tryz.func80 Tryz.ntmps80 Tryz.results80 ?_
  repeat'(first|(simp only[go_sem,zA,zB,zC,zD,zE,zF,zG,reduceCtorEq,zH,zI,zJ,zK,zL,pin,hwn,hm0,hw5];all_goals refine nf ?_)|(refine stp ?_;intro K hK)|(apply hK;clear hK K)|refine stn ?_|(refine⟨1000000,_,_,_,hN,rfl,?_⟩)|(refine⟨1000000,_,_,_,hI,rfl,?_⟩)|refine stq ?_|(clear hK K))
  all_goals(try simp only[*])
  all_goals first|exact⟨rfl,fun x hx=>by simp only[lN] at hx;subst hx;simp[pin]⟩|(intro x hx;simp only[lN] at hx;subst hx;simp[pin])|fail
theorem c1q:a47 15:=by
 intro s i n hs hi0 hin hn hk
 have hmi:=a1a i n
 have hwn:=w64 (n:=n-1) (by omega)
 obtain⟨s1,he1⟩:∃ s1,s1=a0f s (a0o i n):=⟨_,rfl⟩
 have hs1:s1.ok:=by rw[he1];exact a0j hs _
 have hN:=a0v 1000000 s hs (a0o i n) (by omega)
 rw[hk,← he1] at hN
 rw[← he1]
 have hi:i+1<n:=by
  rcases Decidable.em (i=n-1) with h|h
  ·exfalso;have:=a0p s (n:=a0o i n) (a1a i n).1;rw[show a0o i n=14 from by unfold a0o;rw[decide_eq_true h];rfl] at this hk;omega
  ·omega
 have hw5:=w64 (n:=i+1) (by omega)
 have hI:=a2E 1000000 s1 hs1 2 (by omega) (i+1) n (by omega) (by omega) hn
 unfold a3B
 simp only[Int.reduceEq,decide_true,decide_false,cond_true,cond_false,Bool.or_true,Bool.true_or,Bool.or_false,a3k]
 cases hm0:decide (i=n-1) with
 |false=>
  have hm1:a0o i n=18:=by unfold a0o;rw[hm0];rfl
  rw[hm1] at hN
  refine PCB.ob Tryz.func80 Tryz.ntmps80 Tryz.results80 ?_
  repeat'(first|(simp only[go_sem,zA,zB,zC,zD,zE,zF,zG,reduceCtorEq,zH,zI,zJ,zK,zL,pin,hwn,hm0,hw5];all_goals refine nf ?_)|(refine stp ?_;intro K hK)|(apply hK;clear hK K)|refine stn ?_|(refine⟨1000000,_,_,_,hN,rfl,?_⟩)|(refine⟨1000000,_,_,_,hI,rfl,?_⟩)|refine stq ?_|(clear hK K))
  all_goals(try simp only[*])
  all_goals first|exact⟨rfl,fun x hx=>by simp only[lN] at hx;subst hx;simp[pin]⟩|(intro x hx;simp only[lN] at hx;subst hx;simp[pin])|fail
 |true=>
  have hm1:a0o i n=14:=by unfold a0o;rw[hm0];rfl
  rw[hm1] at hN
  refine PCB.ob Tryz.func80 Tryz.ntmps80 Tryz.results80 ?_
  repeat'(first|(simp only[go_sem,zA,zB,zC,zD,zE,zF,zG,reduceCtorEq,zH,zI,zJ,zK,zL,pin,hwn,hm0,hw5];all_goals refine nf ?_)|(refine stp ?_;intro K hK)|(apply hK;clear hK K)|refine stn ?_|(refine⟨1000000,_,_,_,hN,rfl,?_⟩)|(refine⟨1000000,_,_,_,hI,rfl,?_⟩)|refine stq ?_|(clear hK K))
  all_goals(try simp only[*])
  all_goals first|exact⟨rfl,fun x hx=>by simp only[lN] at hx;subst hx;simp[pin]⟩|(intro x hx;simp only[lN] at hx;subst hx;simp[pin])|fail
theorem c1r:a47 16:=by
 intro s i n hs hi0 hin hn hk
 have hmi:=a1a i n
 have hwn:=w64 (n:=n-1) (by omega)
 obtain⟨s1,he1⟩:∃ s1,s1=a0f s (a0o i n):=⟨_,rfl⟩
 have hs1:s1.ok:=by rw[he1];exact a0j hs _
 have hN:=a0v 1000000 s hs (a0o i n) (by omega)
 rw[hk,← he1] at hN
 rw[← he1]
 have hi:i+1<n:=by
  rcases Decidable.em (i=n-1) with h|h
  ·exfalso;have:=a0p s (n:=a0o i n) (a1a i n).1;rw[show a0o i n=14 from by unfold a0o;rw[decide_eq_true h];rfl] at this hk;omega
  ·omega
 have h5:=a0p s1 (n:=2) (by omega)
 have hs2:=a0j hs1 2
 obtain⟨m,hm⟩:∃ m:Nat,m=(2+a0h s1 2).toNat:=⟨_,rfl⟩
 have hmm:IntKind.i64.wrap (2+a0h s1 2)=(m:Int):=by rw[w64 (by omega)];omega
 have hw5:=w64 (n:=i+1) (by omega)
 have hI:=a2E 1000000 _ hs2 m (by omega) (i+1) n (by omega) (by omega) hn
 unfold a3B
 simp only[Int.reduceEq,decide_true,decide_false,cond_true,cond_false,Bool.or_true,Bool.true_or,Bool.or_false,a3k]
 cases hm0:decide (i=n-1) with
 |false=>
  have hm1:a0o i n=18:=by unfold a0o;rw[hm0];rfl
  rw[hm1] at hN
  refine PCB.ob Tryz.func80 Tryz.ntmps80 Tryz.results80 ?_
  repeat'(first|(simp only[go_sem,zA,zB,zC,zD,zE,zF,zG,reduceCtorEq,zH,zI,zJ,zK,zL,pin,hwn,hm0,hmm,hw5];all_goals refine nf ?_)|(refine stp ?_;intro K hK)|(apply hK;clear hK K)|refine stn ?_|(refine⟨1000000,_,_,_,hN,rfl,?_⟩)|(refine⟨1000000,_,_,_,a0v 1000000 s1 hs1 2 (by omega),rfl,?_⟩)|(refine⟨1000000,_,_,_,hI,rfl,?_⟩)|refine stq ?_|fail)
  all_goals(try rw[← hm];try simp only[*])
  all_goals first|exact⟨rfl,fun x hx=>by simp only[lN] at hx;subst hx;simp[pin]⟩|(intro x hx;simp only[lN] at hx;subst hx;simp[pin])|fail
 |true=>
  have hm1:a0o i n=14:=by unfold a0o;rw[hm0];rfl
  rw[hm1] at hN
  refine PCB.ob Tryz.func80 Tryz.ntmps80 Tryz.results80 ?_
  repeat'(first|(simp only[go_sem,zA,zB,zC,zD,zE,zF,zG,reduceCtorEq,zH,zI,zJ,zK,zL,pin,hwn,hm0,hmm,hw5];all_goals refine nf ?_)|(refine stp ?_;intro K hK)|(apply hK;clear hK K)|refine stn ?_|(refine⟨1000000,_,_,_,hN,rfl,?_⟩)|(refine⟨1000000,_,_,_,a0v 1000000 s1 hs1 2 (by omega),rfl,?_⟩)|(refine⟨1000000,_,_,_,hI,rfl,?_⟩)|refine stq ?_|fail)
  all_goals(try rw[← hm];try simp only[*])
  all_goals first|exact⟨rfl,fun x hx=>by simp only[lN] at hx;subst hx;simp[pin]⟩|(intro x hx;simp only[lN] at hx;subst hx;simp[pin])|fail
theorem c1s:a47 17:=by
 intro s i n hs hi0 hin hn hk
 have hmi:=a1a i n
 have hwn:=w64 (n:=n-1) (by omega)
 obtain⟨s1,he1⟩:∃ s1,s1=a0f s (a0o i n):=⟨_,rfl⟩
 have hs1:s1.ok:=by rw[he1];exact a0j hs _
 have hN:=a0v 1000000 s hs (a0o i n) (by omega)
 rw[hk,← he1] at hN
 rw[← he1]
 have hi:i+1<n:=by
  rcases Decidable.em (i=n-1) with h|h
  ·exfalso;have:=a0p s (n:=a0o i n) (a1a i n).1;rw[show a0o i n=14 from by unfold a0o;rw[decide_eq_true h];rfl] at this hk;omega
  ·omega
 have h5:=a0p s1 (n:=2) (by omega)
 have hs2:=a0j hs1 2
 obtain⟨m,hm⟩:∃ m:Nat,m=(2+a0h s1 2).toNat:=⟨_,rfl⟩
 have hmm:IntKind.i64.wrap (2+a0h s1 2)=(m:Int):=by rw[w64 (by omega)];omega
 have hw5:=w64 (n:=i+1) (by omega)
 have hI:=a2E 1000000 _ hs2 m (by omega) (i+1) n (by omega) (by omega) hn
 unfold a3B
 simp only[Int.reduceEq,decide_true,decide_false,cond_true,cond_false,Bool.or_true,Bool.true_or,Bool.or_false,a3k]
 cases hm0:decide (i=n-1) with
 |false=>
  have hm1:a0o i n=18:=by unfold a0o;rw[hm0];rfl
  rw[hm1] at hN
  refine PCB.ob Tryz.func80 Tryz.ntmps80 Tryz.results80 ?_
  repeat'(first|(simp only[go_sem,zA,zB,zC,zD,zE,zF,zG,reduceCtorEq,zH,zI,zJ,zK,zL,pin,hwn,hm0,hmm,hw5];all_goals refine nf ?_)|(refine stp ?_;intro K hK)|(apply hK;clear hK K)|refine stn ?_|(refine⟨1000000,_,_,_,hN,rfl,?_⟩)|(refine⟨1000000,_,_,_,a0v 1000000 s1 hs1 2 (by omega),rfl,?_⟩)|(refine⟨1000000,_,_,_,hI,rfl,?_⟩)|refine stq ?_|fail)
  all_goals(try rw[← hm];try simp only[*])
  all_goals first|exact⟨rfl,fun x hx=>by simp only[lN] at hx;subst hx;simp[pin]⟩|(intro x hx;simp only[lN] at hx;subst hx;simp[pin])|fail
 |true=>
  have hm1:a0o i n=14:=by unfold a0o;rw[hm0];rfl
  rw[hm1] at hN
  refine PCB.ob Tryz.func80 Tryz.ntmps80 Tryz.results80 ?_
  repeat'(first|(simp only[go_sem,zA,zB,zC,zD,zE,zF,zG,reduceCtorEq,zH,zI,zJ,zK,zL,pin,hwn,hm0,hmm,hw5];all_goals refine nf ?_)|(refine stp ?_;intro K hK)|(apply hK;clear hK K)|refine stn ?_|(refine⟨1000000,_,_,_,hN,rfl,?_⟩)|(refine⟨1000000,_,_,_,a0v 1000000 s1 hs1 2 (by omega),rfl,?_⟩)|(refine⟨1000000,_,_,_,hI,rfl,?_⟩)|refine stq ?_|fail)
  all_goals(try rw[← hm];try simp only[*])
  all_goals first|exact⟨rfl,fun x hx=>by simp only[lN] at hx;subst hx;simp[pin]⟩|(intro x hx;simp only[lN] at hx;subst hx;simp[pin])|fail
theorem c1t (k:Int) (h0:0≤k) (h1:k<18):a47 k:=by
  have hk:k=0∨k=1∨k=2∨k=3∨k=4∨k=5∨k=6∨k=7∨k=8∨k=9∨k=10∨k=11∨k=12∨k=13∨k=14∨k=15∨k=16∨k=17:=by omega
  rcases hk with rfl|rfl|rfl|rfl|rfl|rfl|rfl|rfl|rfl|rfl|rfl|rfl|rfl|rfl|rfl|rfl|rfl|rfl
  · exact c4h
  · exact c4i
  · exact c4j
  · exact c4k
  · exact c4l
  · exact c4m
  · exact c4n
  · exact c4o
  · exact c4p
  · exact c4q
  · exact c1l
  · exact c1m
  · exact c1n
  · exact c1o
  · exact c1p
  · exact c1q
  · exact c1r
  · exact c1s
theorem c4r (s:Src) (hs:s.ok) (i n:Int) (hi0:0≤i) (hin:i<n) (hn:n≤1000):PCB Tryz.prog 80 [Sp pin,I .i64 i,I .i64 n] [(pin,a1d s)] (Nt (a8a i n s).1) [(pin,a1d (a8a i n s).2)]:=by
  have hv:=a0p s (n:=a0o i n) (a1a i n).1
  have:=(a1a i n).2
  exact c1t _ hv.1 (by omega) s i n hs hi0 hin hn rfl
theorem c4s (k:Nat) (s:Src) (hs:s.ok) (i n:Int) (hi0:0≤i) (hin:i<n) (hn:n≤1000):a2f Tryz.prog 80 [Sp k,I .i64 i,I .i64 n] k (a1d s) (Nt (a8a i n s).1) (a1d (a8a i n s).2):=a2f.mk k (c4r s hs i n hi0 hin hn)
end Go.Proofs.YthbcdhfiibpeaaaGreat

