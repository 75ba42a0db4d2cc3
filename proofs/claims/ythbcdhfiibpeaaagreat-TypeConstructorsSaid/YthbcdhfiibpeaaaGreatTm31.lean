/- Lemmas of the proof. -/
import Derived.Test.YthbcdhfiibpeaaaGreatTm14
import Derived.Test.YthbcdhfiibpeaaaGreatTm30
open List renaming length_map→lB
open Nat renaming reduceBEq→zA,reduceBNe→zB,reduceAdd→zC,reduceSub→zD,reduceMul→zE,reduceLeDiff→zF,reduceLT→zG,reduceEqDiff→zH
open Int renaming reduceToNat→zI,reduceLE→zJ,reduceLT→zK,reduceEq→zL
open Bool renaming not_eq_true'→zM,not_eq_false'→zN
set_option linter.unusedSimpArgs false
set_option linter.unusedVariables false
set_option maxRecDepth 20000
set_option maxHeartbeats 64000000
namespace Go.Proofs.YthbcdhfiibpeaaaGreat
open Go Go.Sx
def b36 (a n:Int) (s:Src):Int×Src:=(a+a0h s (n-a),a0f s (n-a))
theorem b8P (a n:Int) (s:Src) (h:s.ok):(b36 a n s).2.ok:=a0j h _
theorem b8Q (s:Src) (hs:s.ok) (m:Nat) (hm:m≤1000) (a n:Int) (ha:0≤a) (han:a<n) (hn:n≤1000):
  PCB Tryz.prog 120 [Sp pin,I .i64 m,I .i64 a,I .i64 n] [(pin,a1d s)] (IsP (a0Q (b36 a n) m s).1) [(pin,a1d (a0Q (b36 a n) m s).2)]:=by
 have hw:IntKind.i64.wrap (n-a)=n-a:=by rw[w64 (by omega)]
 refine PCB.ob Tryz.func120 Tryz.ntmps120 Tryz.results120 ?_
 refine AWP.ghQ ?_
 repeat'(first|(simp only[go_sem,zA,zB,zC,zD,zE,zF,zG,reduceCtorEq,zH,zI,zJ,zK,zL,pin];all_goals refine nf ?_)|(refine stp ?_;intro K hK)|(apply hK;clear hK K)|refine stn ?_|fail)
 refine AWP.gh (Gh.nilrow 9 900 rfl rfl rfl rfl) ?_
 refine AWP.loopF (X:=Nat×Src×List Int) (fun x=>[(0,Sp 1000000),(1,I .i64 x.1),(9, .one (.own 900 x.2.2.length))]) (fun x=>[(1000000,a1d x.2.1),(900, .row 1 (x.2.2.map a0e))]) [2,3] [] (fun x=>x.1+x.2.2.length≤1000∧x.2.1.ok∧a0Q (b36 a n) m s=(x.2.2++(a0Q (b36 a n) x.1 x.2.1).1,(a0Q (b36 a n) x.1 x.2.1).2)) (fun x=>x.1) ((m,s,[])) (by refine sts ?_;exact Gh.tt []) ?_ ?_
 ·exact⟨by simp;exact hm,hs,by simp⟩
 rintro⟨k,t,acc⟩ ⟨hl,ht,hp⟩
 simp only at hl ht hp
 refine sts ?_
 cases k with
 |succ k=>
  rw[a4C] at hp
  have hw2:IntKind.i64.wrap (((k+1:Nat):Int)-1)=(k:Int):=a2a (by omega)
  have hv:=a0p t (n:=n-a) (by omega)
  have hw3:IntKind.i64.wrap (a+a0h t (n-a))=(b36 a n t).1:=by rw[w64 (by omega)];rfl
  repeat'(first|(simp only[go_sem,zA,zB,zC,zD,zE,zF,zG,reduceCtorEq,zH,zI,zJ,zK,zL,pin,lB,a7V,hw,hw2,hw3,b8d];all_goals refine nf ?_)|(refine stp ?_;intro K hK)|(apply hK;clear hK K)|refine stn ?_|(with_reducible (refine⟨(by first|omega|(simp only[List.length_append,lB,List.length_take,List.length_drop,List.length_cons,List.length_nil,List.length_replicate];omega):_≤_),?_⟩))|(refine⟨1000000,_,_,_,a0v 1000000 t ht (n-a) (by omega),rfl,?_⟩)|refine stq ?_|(clear hK K))
  all_goals(refine⟨(k,(b36 a n t).2,acc++[(b36 a n t).1]),by simp only;omega,⟨by simp;omega,b8P a n t ht,hp⟩,Gh.tt [(900,23)]⟩)
 |zero=>
  rw[a0Q,List.append_nil] at hp
  have h0:decide ((0:Int)<((0:Nat):Int))=false:=by simp
  repeat'(first|(simp only[go_sem,zA,zB,zC,zD,zE,zF,zG,reduceCtorEq,zH,zI,zJ,zK,zL,pin,h0];all_goals refine nf ?_)|(refine stp ?_;intro K hK)|(apply hK;clear hK K)|refine stn ?_|(clear hK K))
  refine⟨_,Gh.fz 900,?_⟩
  simp only[go_sem,zA,zB,zC,zD,zE,zF,zG,reduceCtorEq,zH,zI,zJ,zK,zL,lB]
  all_goals(rw[hp];first|exact⟨rfl,fun x hx=>hx⟩|exact fun x hx=>hx)
theorem a2E (k:Nat) (s:Src) (hs:s.ok) (m:Nat) (hm:m≤1000) (a n:Int) (ha:0≤a) (han:a<n) (hn:n≤1000):a2f Tryz.prog 120 [Sp k,I .i64 m,I .i64 a,I .i64 n] k (a1d s) (IsP (a0Q (b36 a n) m s).1) (a1d (a0Q (b36 a n) m s).2):=
  a2f.mk k (b8Q s hs m hm a n ha han hn)
def a1l:List KeyD:=[⟨0,[97]⟩,⟨0,[98]⟩,⟨1,[115]⟩]
def b4I (n:Int) (k:KeyD) (s:Src):List FieldD×Src:=
  bif decide (a0h s 2=1) then ([⟨k,a0h (a0f s 2) n,decide (a0h (a0f (a0f s 2) n) 2=1)⟩],a0f (a0f (a0f s 2) n) 2) else ([],a0f s 2)
def a7u (n:Int):List KeyD→Src→List FieldD×Src
  |[],s=>([],s)
  |k::l,s=>((b4I n k s).1++(a7u n l (b4I n k s).2).1,(a7u n l (b4I n k s).2).2)
def a3a (n:Int) (s:Src):NodeD×Src:=(⟨13,0,0,[],[],(a7u n a1l (a0f (a0f s n) n)).1,a0h s n,a0h (a0f s n) n⟩,(a7u n a1l (a0f (a0f s n) n)).2)
theorem c4g (n:Int) (k:KeyD) {s:Src} (h:s.ok):(b4I n k s).2.ok:=by
  unfold b4I;cases decide (a0h s 2=1)
  · exact a0j h 2
  · exact a0j (a0j (a0j h 2) n) 2
theorem b5J (n:Int):∀ (l:List KeyD) {s:Src},s.ok→(a7u n l s).2.ok
  |[],s,h=>h
  |k::l,s,h=>b5J n l (c4g n k h)
abbrev c72 (n:Int) (s:Src) (m:Nat):Res:= .cells [.dat (.int .i64 13), .dat (.int .i64 0), .dat (.int .i64 0), .dat (.str []), .dat (.nil 1), .own 900 m, .dat (.int .i64 (a0h s n)), .dat (.int .i64 (a0h (a0f s n) n))]
theorem c73 (l:List FieldD) (a:Int) (b:List UInt8) (c:Int) (d:Bool):l.map a0i++[[C.int .i64 a,C.str b,C.int .i64 c,C.bool d]]=(l++[(⟨⟨a,b⟩,c,d⟩:FieldD)]).map a0i:=by rw[List.map_append];rfl
theorem b8R (s:Src) (hs:s.ok) (n:Int) (hn:1≤n∧n≤1000):PCB Tryz.prog 121 [Sp pin,I .i64 n] [(pin,a1d s)] (Nt (a3a n s).1) [(pin,a1d (a3a n s).2)]:=by
 have h1:=a0j hs n
 refine PCB.ob Tryz.func121 Tryz.ntmps121 Tryz.results121 ?_
 repeat'(first|(simp only[go_sem,zA,zB,zC,zD,zE,zF,zG,reduceCtorEq,zH,zI,zJ,zK,zL,pin];all_goals refine nf ?_)|(refine stp ?_;intro K hK)|(apply hK;clear hK K)|refine stn ?_|(refine⟨1000000,_,_,_,a0v 1000000 s hs n (by omega),rfl,?_⟩)|(refine⟨1000000,_,_,_,a0v 1000000 _ h1 n (by omega),rfl,?_⟩)|refine stq ?_|fail)
 refine AWP.gh (Gh.nilcell 5 5 900 rfl rfl rfl (by simp only[go_sem,zA,zB,zC,zD,zE,zF,zG,reduceCtorEq,zH,zI,zJ,zK,zL]) (by simp only[go_sem,zA,zB,zC,zD,zE,zF,zG,reduceCtorEq,zH,zI,zJ,zK,zL])) ?_
 refine AWP.loopF (X:=Nat×Src×List FieldD) (fun x=>[(7,I .i64 x.1)]) (fun x=>[(1000000,a1d x.2.1),(5,c72 n s x.2.2.length),(900, .row 4 (x.2.2.map a0i))]) [0,1,4,5,6] [4] (fun x=>x.1≤3∧x.2.2.length≤x.1∧x.2.1.ok∧a7u n a1l (a0f (a0f s n) n)=(x.2.2++(a7u n (a1l.drop x.1) x.2.1).1,(a7u n (a1l.drop x.1) x.2.1).2)) (fun x=>3-x.1) ((0,a0f (a0f s n) n,[])) (by refine sts ?_;exact Gh.tt []) ?_ ?_
 ·exact⟨Nat.zero_le _,Nat.le_refl _,a0j h1 n,by simp⟩
 rintro⟨i,t,acc⟩ ⟨hi,hl,ht,hp⟩
 simp only at hi hl ht hp
 refine sts ?_
 by_cases h3:i=3
 ·subst h3
  rw[show a1l.drop 3=[] from rfl,a7u,List.append_nil] at hp
  refine AWP.gh (Gh.fz 900) ?_
  simp only[go_sem,zA,zB,zC,zD,zE,zF,zG,reduceCtorEq,zH,zI,zJ,zK,zL,lB]
  repeat'(first|(simp only[go_sem,zA,zB,zC,zD,zE,zF,zG,reduceCtorEq,zH,zI,zJ,zK,zL,pin];all_goals refine nf ?_)|(refine stp ?_;intro K hK)|(apply hK;clear hK K)|refine stn ?_|(clear hK K))
  have hm:a3a n s=(⟨13,0,0,[],[],acc,a0h s n,a0h (a0f s n) n⟩,t):=by unfold a3a;rw[hp]
  all_goals(rw[hm];first|exact⟨rfl,fun x hx=>by simp only[List.mem_singleton] at hx;subst hx;simp[pin]⟩|(intro x hx;simp only[List.mem_singleton] at hx;subst hx;simp[pin]))
 ·have hlt:decide ((i:Int)<3)=true:=by rw[decide_eq_true_eq];omega
  have hlen:a1l.length=3:=rfl
  obtain⟨k,hk⟩:∃ k,a1l[i]?= some k:=⟨a1l[i],List.getElem?_eq_getElem (by omega)⟩
  have hk':=a0n a0k hk
  have hd:a1l.drop i=k::a1l.drop (i+1):=by
   obtain⟨hk,e⟩:=List.getElem?_eq_some_iff.1 hk
   rw[List.drop_eq_getElem_cons hk,e]
  have hw:IntKind.i64.wrap ((i:Int)+1)=((i+1:Nat):Int):=by rw[w64 (by omega)];rfl
  have ht2:=a0j ht 2
  have ht3:=a0j ht2 n
  rw[hd,a7u,← List.append_assoc] at hp
  cases hc:decide (a0h t 2=1)
  ·have hf:b4I n k t=([],a0f t 2):=by unfold b4I;rw[hc];rfl
   rw[hf,List.append_nil] at hp
   repeat'(first|(simp only[go_sem,zA,zB,zC,zD,zE,zF,zG,reduceCtorEq,zH,zI,zJ,zK,zL,pin,hlt,hw,hc];all_goals refine nf ?_)|(refine stp ?_;intro K hK)|(apply hK;clear hK K)|refine stn ?_|(refine⟨1000000,_,_,_,a0v 1000000 t ht 2 (by omega),rfl,?_⟩)|refine stq ?_|(clear hK K))
   all_goals(refine⟨(i+1,a0f t 2,acc),by simp only;omega,⟨by simp only;omega,by simp only;omega,ht2,hp⟩,Gh.tt []⟩)
  ·have hf:b4I n k t=([⟨k,a0h (a0f t 2) n,decide (a0h (a0f (a0f t 2) n) 2=1)⟩],a0f (a0f (a0f t 2) n) 2):=by unfold b4I;rw[hc];rfl
   rw[hf] at hp
   repeat'(first|(simp only[go_sem,zA,zB,zC,zD,zE,zF,zG,reduceCtorEq,zH,zI,zJ,zK,zL,pin,hlt,hw,hc,a0k,lB,c73];all_goals refine nf ?_)|(refine stp ?_;intro K hK)|(apply hK;clear hK K)|refine stn ?_|(with_reducible (refine⟨(by first|omega|(simp only[List.length_append,lB,List.length_take,List.length_drop,List.length_cons,List.length_nil,List.length_replicate];omega):_≤_),?_⟩))|(refine⟨1000000,_,_,_,a0v 1000000 t ht 2 (by omega),rfl,?_⟩)|(refine⟨1000000,_,_,_,a0v 1000000 _ ht2 n (by omega),rfl,?_⟩)|(refine⟨1000000,_,_,_,a0v 1000000 _ ht3 2 (by omega),rfl,?_⟩)|( refine⟨a0k k,hk',?_⟩)|(with_reducible refine AWP.genR2 (id:=7) [8,10,14,16] [1000000,5,900] [1] 16 [1000000,900] mixed (by kernel_rfl) fun K hK=>?_;simp only[Bx.outs,Bx.drop,cond_true,cond_false,Nat.reduceBEq,go_sem])|refine stq ?_|(clear hK K))
   all_goals(refine⟨(i+1,a0f (a0f (a0f t 2) n) 2,acc++[⟨k,a0h (a0f t 2) n,decide (a0h (a0f (a0f t 2) n) 2=1)⟩]),by simp only;omega,⟨by simp only;omega,by simp;omega,a0j ht3 2,hp⟩,Gh.tt [(900,41)]⟩)
theorem b8S (k:Nat) (s:Src) (hs:s.ok) (n:Int) (hn:1≤n∧n≤1000):a2f Tryz.prog 121 [Sp k,I .i64 n] k (a1d s) (Nt (a3a n s).1) (a1d (a3a n s).2):=a2f.mk k (b8R s hs n hn)
end Go.Proofs.YthbcdhfiibpeaaaGreat

