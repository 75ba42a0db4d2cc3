/- Lemmas of the proof. -/
import Derived.Test.YthbcdhfiibpeaaaGreatTm32
open List renaming length_map→lB
open Nat renaming reduceBEq→zA,reduceBNe→zB,reduceAdd→zC,reduceSub→zD,reduceMul→zE,reduceLeDiff→zF,reduceLT→zG,reduceEqDiff→zH
open Int renaming reduceToNat→zI,reduceLE→zJ,reduceLT→zK,reduceEq→zL
open Bool renaming not_eq_true'→zM,not_eq_false'→zN
set_option linter.unusedSimpArgs false
set_option linter.unusedVariables false
set_option maxRecDepth 20000
set_option maxHeartbeats 64000000
namespace Go.Proofs.YthbcdhfiibpeaaaGreat
open Go Go.Sx
def b6P (n:Int):Nat→Nat→Src→List NodeD×Src
  |0,i,s=>([],s)
  |m+1,i,s=>((a8a i n s).1::(b6P n m (i+1) (a8a i n s).2).1,(b6P n m (i+1) (a8a i n s).2).2)
def b2n (n:Nat) (s:Src):List NodeD×Src:=b6P n n 0 s
theorem b5K (n:Int):∀ (m i:Nat) (s:Src),(b6P n m i s).1.length=m
  |0,i,s=>rfl
  |m+1,i,s=>by simp[b6P,b5K n m]
theorem c74 (l:List NodeD) (x:NodeD):l.map a0c++[a0c x]=(l++[x]).map a0c:=by simp
abbrev c6R (m:Nat):Res:= .cells [.own 900 m, .dat (.int .i64 0)]
theorem c4t (s:Src) (hs:s.ok) (n:Nat) (hn:1≤n∧n≤1000):PCB Tryz.prog 44 [Sp pin,I .i64 n] [(pin,a1d s)] (Tt (b2n n s).1 0) [(pin,a1d (b2n n s).2)]:=by
 have hmx:(if (1:Int)>(n:Int) then (1:Int) else (n:Int))=(n:Int):=if_neg (by omega)
 refine PCB.ob Tryz.func44 Tryz.ntmps44 Tryz.results44 ?_
 repeat'(first|(simp only[go_sem,zA,zB,zC,zD,zE,zF,zG,reduceCtorEq,zH,zI,zJ,zK,zL,pin,hmx];all_goals refine nf ?_)|(refine stp ?_;intro K hK)|(apply hK;clear hK K)|refine stn ?_|fail)
 refine AWP.gh (Gh.nilcell 5 0 900 rfl rfl rfl (by simp only[go_sem,zA,zB,zC,zD,zE,zF,zG,reduceCtorEq,zH,zI,zJ,zK,zL]) (by simp only[go_sem,zA,zB,zC,zD,zE,zF,zG,reduceCtorEq,zH,zI,zJ,zK,zL])) ?_
 refine AWP.loopF (X:=Nat×Src×List NodeD) (fun x=>[(6,I .i64 x.1)]) (fun x=>[(1000000,a1d x.2.1),(5,c6R x.2.2.length),(900, .row 8 (x.2.2.map a0c))]) [0,1,4,5] [4] (fun x=>x.1≤n∧x.2.2.length=x.1∧x.2.1.ok∧b2n n s=(x.2.2++(b6P n (n-x.1) x.1 x.2.1).1,(b6P n (n-x.1) x.1 x.2.1).2)) (fun x=>n-x.1) ((0,s,[])) (by refine sts ?_;exact Gh.tt []) ?_ ?_
 ·exact⟨Nat.zero_le _,rfl,hs,rfl⟩
 rintro⟨i,t,acc⟩ ⟨hi,hl,ht,hp⟩
 simp only at hi hl ht hp
 refine sts ?_
 by_cases h3:i=n
 ·subst h3
  rw[Nat.sub_self,b6P,List.append_nil] at hp
  have hlt:decide ((i:Int)<(i:Int))=false:=by simp
  refine AWP.gh (Gh.freeze 900 rfl rfl (by simp only[go_sem,zA,zB,zC,zD,zE,zF,zG,reduceCtorEq,zH,zI,zJ,zK,zL,lB,hl]) (by simp only[go_sem,zA,zB,zC,zD,zE,zF,zG,reduceCtorEq,zH,zI,zJ,zK,zL,lB,hl])) ?_
  simp only[go_sem,zA,zB,zC,zD,zE,zF,zG,reduceCtorEq,zH,zI,zJ,zK,zL,lB,hl]
  repeat'(first|(simp only[go_sem,zA,zB,zC,zD,zE,zF,zG,reduceCtorEq,zH,zI,zJ,zK,zL,pin,hlt];all_goals refine nf ?_)|(refine stp ?_;intro K hK)|(apply hK;clear hK K)|refine stn ?_|(clear hK K))
  all_goals(rw[hp];first|exact⟨rfl,fun x hx=>by simp only[List.mem_singleton] at hx;subst hx;simp[pin]⟩|(intro x hx;simp only[List.mem_singleton] at hx;subst hx;simp[pin]))
 ·have hlt:decide ((i:Int)<(n:Int))=true:=by rw[decide_eq_true_eq];omega
  have hw:IntKind.i64.wrap ((i:Int)+1)=((i+1:Nat):Int):=by rw[w64 (by omega)];rfl
  have hd:n-i=(n-(i+1))+1:=by omega
  rw[hd,b6P] at hp
  repeat'(first|(simp only[go_sem,zA,zB,zC,zD,zE,zF,zG,reduceCtorEq,zH,zI,zJ,zK,zL,pin,hlt,hw,lB,c74];all_goals refine nf ?_)|(refine stp ?_;intro K hK)|(apply hK;clear hK K)|refine stn ?_|(with_reducible (refine⟨(by first|omega|(simp only[List.length_append,lB,List.length_take,List.length_drop,List.length_cons,List.length_nil,List.length_replicate];omega):_≤_),?_⟩))|(refine⟨1000000,_,_,_,c4s 1000000 t ht i n (by omega) (by omega) (by omega),rfl,?_⟩)|(with_reducible refine AWP.genR2 (id:=6) [5,7,9] [1000000,5,900] [1] 9 [1000000,900] mixed (by kernel_rfl) fun K hK=>?_;simp only[Bx.outs,Bx.drop,cond_true,cond_false,Nat.reduceBEq,go_sem])|(clear hK K))
  all_goals(refine⟨(i+1,(a8a i n t).2,acc++[(a8a i n t).1]),by simp only;omega,⟨by simp only;omega,by simp[hl],c1k i n ht,by rw[List.append_assoc];exact hp⟩,Gh.tt [(900,22)]⟩)
end Go.Proofs.YthbcdhfiibpeaaaGreat

