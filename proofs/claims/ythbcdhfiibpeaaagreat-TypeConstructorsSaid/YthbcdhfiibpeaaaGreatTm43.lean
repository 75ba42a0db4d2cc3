/- Lemmas of the proof. -/
import Derived.Test.YthbcdhfiibpeaaaGreatTm42
import Derived.Test.YthbcdhfiibpeaaaGreatTm29
open List renaming length_map→lB,mem_singleton→lN
open Nat renaming reduceBEq→zA,reduceBNe→zB,reduceAdd→zC,reduceSub→zD,reduceMul→zE,reduceLeDiff→zF,reduceLT→zG,reduceEqDiff→zH
open Int renaming reduceToNat→zI,reduceLE→zJ,reduceLT→zK,reduceEq→zL
open Bool renaming not_eq_true'→zM,not_eq_false'→zN
set_option linter.unusedSimpArgs false
set_option linter.unusedVariables false
set_option maxRecDepth 20000
set_option maxHeartbeats 64000000
namespace Go.Proofs.YthbcdhfiibpeaaaGreat
open Go Go.Sx
abbrev c64 (n:Nat):Res:= .cells [.dat (.int .i64 0), .dat (.int .i64 0), .dat (.str []), .own 900 n, .dat (.nil 2), .dat (.nil 9), .dat (.nil 1)]
theorem a8i {α:Type} {l:List α} {i:Nat} {y:α} (hy:l[i]?= some y):l.drop i=y::l.drop (i+1):=by
  obtain⟨hk',e⟩:=List.getElem?_eq_some_iff.1 hy
  rw[List.drop_eq_getElem_cons hk',e]
theorem c1Q (l:List NodeD) (r:Int) (g nx:Int→Src→Val×Src) (h:Nat) (H:b0J l r g (h:Int)) (hg:∀ k s,s.ok→(g k s).2.ok) (hh:h≤1000) (hlen:l.length≤1000) (x:NodeD) (k:Nat) (hx:l[k]?= some x) (hk:x.kind=10) (hki:∀ k∈x.kids,0≤k∧k<(l.length:Int)) (hk2:x.kids.length≤1000) (s:Src) (hs:s.ok):a0W l r (a1o l g nx x) h k s:=by
 have hx':=a0n a0c hx
 have hkl:k<l.length:=(List.getElem?_eq_some_iff.1 hx).1
 have hh0:decide (((h+1:Nat):Int)≤0)=false:=by rw[decide_eq_false_iff_not];omega
 have hk0:decide ((k:Int)<0)=false:=by rw[decide_eq_false_iff_not];omega
 have hk1:decide ((l.length:Int)≤(k:Int))=false:=by rw[decide_eq_false_iff_not];omega
 unfold a0W a1o
 simp only[hk,Int.reduceEq,decide_true,decide_false,cond_true,cond_false]
 have hw:IntKind.i64.wrap (((h+1:Nat):Int)-1)=(h:Int):=by rw[w64 (by omega)];omega
 refine PCB.ob Tryz.func81 Tryz.ntmps81 Tryz.results81 ?_
 repeat'(first|(simp only[go_sem,zA,zB,zC,zD,zE,zF,zG,reduceCtorEq,zH,zI,zJ,zK,zL,pin,hh0,hk0,hk1,hk,lB,a0b];all_goals refine nf ?_)|(refine stp ?_;intro K hK)|(apply hK;clear hK K)|refine stn ?_|(with_reducible refine⟨by omega,a0c x,hx',?_⟩)|fail)
 refine AWP.gh (Gh.nilcell 10 3 900 rfl rfl rfl (by simp only[go_sem,zA,zB,zC,zD,zE,zF,zG,reduceCtorEq,zH,zI,zJ,zK,zL]) (by simp only[go_sem,zA,zB,zC,zD,zE,zF,zG,reduceCtorEq,zH,zI,zJ,zK,zL])) ?_
 refine AWP.lenB 9 4 rfl rfl fun hlen0=>?_
 (try rw[lB] at hlen0)
 refine AWP.range (S:=Src×List Val) (x.kids) a0e (fun i y=>(11,I .i64 (i:Nat))::[]) (fun i y=>[(1000000,a1d y.1),(10,c64 y.2.length),(900, .row 7 (y.2.map a0g))]) [0,3,5,8,9,10] [5,8,9] (fun i y=>Is (a2h g x.kids s) (y.2++(a2h g (x.kids.drop i) y.1).1,(a2h g (x.kids.drop i) y.1).2)∧y.1.ok∧y.2.length=i) ((s,[])) (by refine sts ?_;exact Gh.tt []) ?_ ?_ ?_
 ·exact⟨rfl,hs,rfl⟩
 ·rintro i ⟨t,acc⟩ y hlt hy hy' hbb ⟨hok,ht,hl⟩
  refine sts ?_
  simp only at hok ht hl
  have hik:i<x.kids.length:=(List.getElem?_eq_some_iff.1 hy).1
  have hym:=hki y (List.mem_of_getElem? hy)
  unfold Is at hok
  rw[a8i hy,a8d] at hok
  repeat'(first|(simp only[go_sem,zA,zB,zC,zD,zE,zF,zG,reduceCtorEq,zH,zI,zJ,zK,zL,pin,lB,hbb,hk,hw,a0b,a3y];all_goals refine nf ?_)|(refine stp ?_;intro K hK)|(apply hK;clear hK K)|refine stn ?_|(with_reducible first|refine⟨(by omega:_≤_),a0e y,hy',?_⟩|(refine⟨(by first|omega|(simp only[List.length_append,lB,List.length_take,List.length_drop,List.length_cons,List.length_nil,List.length_replicate];omega):_≤_),?_⟩))|(refine⟨1000000,_,_,_,H.k 1000000 y t ht hym.1 hym.2,rfl,?_⟩)|(with_reducible refine AWP.genR2 (id:=25) [11,13,15] [1000000,10,900] [1] 15 [1000000,900] mixed (by kernel_rfl) fun K hK=>?_;simp only[Bx.outs,Bx.drop,cond_true,cond_false,Nat.reduceBEq,go_sem])|(clear hK K))
  all_goals(rw[a0d hlt hlen0])
  all_goals(refine⟨((g y t).2,acc++[(g y t).1]),?_,Gh.tt [(900,109)]⟩)
  all_goals exact⟨hok,hg _ _ ht,by simp[hl]⟩
 ·rintro⟨t,acc⟩ hbb ⟨hok,ht,hl⟩
  refine sts ?_
  simp only at hok ht hl
  unfold Is at hok
  rw[List.drop_length,a2h,List.append_nil] at hok
  refine AWP.gh (Gh.fz 900) ?_
  simp only[go_sem,zA,zB,zC,zD,zE,zF,zG,reduceCtorEq,zH,zI,zJ,zK,zL,lB]
  repeat'(first|(simp only[go_sem,zA,zB,zC,zD,zE,zF,zG,reduceCtorEq,zH,zI,zJ,zK,zL,pin,lB,hbb,hk];all_goals refine nf ?_)|(refine stp ?_;intro K hK)|(apply hK;clear hK K)|refine stn ?_|(clear hK K))
  all_goals(rw[hok])
  all_goals(first|exact⟨rfl,fun x hx=>by simp only[lN] at hx;subst hx;simp[pin]⟩|exact⟨trivial,fun x hx=>by simp only[lN] at hx;subst hx;simp[pin]⟩|(intro x hx;simp only[lN] at hx;subst hx;simp[pin])|(refine⟨by simp only[Vt,a0a]<;>rfl,fun x hx=>by simp only[lN] at hx;subst hx;simp[pin]⟩)|fail)
theorem c1R (l:List NodeD) (r:Int) (g nx:Int→Src→Val×Src) (h:Nat) (H:b0J l r g (h:Int)) (hg:∀ k s,s.ok→(g k s).2.ok) (hh:h≤1000) (hlen:l.length≤1000) (x:NodeD) (k:Nat) (hx:l[k]?= some x) (hk:x.kind=12) (hki:∀ k∈x.kids,0≤k∧k<(l.length:Int)) (hk2:x.kids.length=2) (s:Src) (hs:s.ok):a0W l r (a1o l g nx x) h k s:=by
 have hx':=a0n a0c hx
 have hkl:k<l.length:=(List.getElem?_eq_some_iff.1 hx).1
 have hh0:decide (((h+1:Nat):Int)≤0)=false:=by rw[decide_eq_false_iff_not];omega
 have hk0:decide ((k:Int)<0)=false:=by rw[decide_eq_false_iff_not];omega
 have hk1:decide ((l.length:Int)≤(k:Int))=false:=by rw[decide_eq_false_iff_not];omega
 unfold a0W a1o
 simp only[hk,Int.reduceEq,decide_true,decide_false,cond_true,cond_false]
 have hw:IntKind.i64.wrap (((h+1:Nat):Int)-1)=(h:Int):=by rw[w64 (by omega)];omega
 refine PCB.ob Tryz.func81 Tryz.ntmps81 Tryz.results81 ?_
 repeat'(first|(simp only[go_sem,zA,zB,zC,zD,zE,zF,zG,reduceCtorEq,zH,zI,zJ,zK,zL,pin,hh0,hk0,hk1,hk,lB,a0b];all_goals refine nf ?_)|(refine stp ?_;intro K hK)|(apply hK;clear hK K)|refine stn ?_|(with_reducible refine⟨by omega,a0c x,hx',?_⟩)|fail)
 refine AWP.gh (Gh.nilcell 10 3 900 rfl rfl rfl (by simp only[go_sem,zA,zB,zC,zD,zE,zF,zG,reduceCtorEq,zH,zI,zJ,zK,zL]) (by simp only[go_sem,zA,zB,zC,zD,zE,zF,zG,reduceCtorEq,zH,zI,zJ,zK,zL])) ?_
 refine AWP.lenB 9 4 rfl rfl fun hlen0=>?_
 (try rw[lB] at hlen0)
 refine AWP.range (S:=Src×List Val) (x.kids) a0e (fun i y=>(11,I .i64 (i:Nat))::[]) (fun i y=>[(1000000,a1d y.1),(10,c64 y.2.length),(900, .row 7 (y.2.map a0g))]) [0,3,5,8,9,10] [5,8,9] (fun i y=>Is (a2h g x.kids s) (y.2++(a2h g (x.kids.drop i) y.1).1,(a2h g (x.kids.drop i) y.1).2)∧y.1.ok∧y.2.length=i) ((s,[])) (by refine sts ?_;exact Gh.tt []) ?_ ?_ ?_
 ·exact⟨rfl,hs,rfl⟩
 ·rintro i ⟨t,acc⟩ y hlt hy hy' hbb ⟨hok,ht,hl⟩
  refine sts ?_
  simp only at hok ht hl
  have hik:i<x.kids.length:=(List.getElem?_eq_some_iff.1 hy).1
  have hym:=hki y (List.mem_of_getElem? hy)
  unfold Is at hok
  rw[a8i hy,a8d] at hok
  repeat'(first|(simp only[go_sem,zA,zB,zC,zD,zE,zF,zG,reduceCtorEq,zH,zI,zJ,zK,zL,pin,lB,hbb,hk,hw,a0b,a3y];all_goals refine nf ?_)|(refine stp ?_;intro K hK)|(apply hK;clear hK K)|refine stn ?_|(with_reducible first|refine⟨(by omega:_≤_),a0e y,hy',?_⟩|(refine⟨(by first|omega|(simp only[List.length_append,lB,List.length_take,List.length_drop,List.length_cons,List.length_nil,List.length_replicate];omega):_≤_),?_⟩))|(refine⟨1000000,_,_,_,H.k 1000000 y t ht hym.1 hym.2,rfl,?_⟩)|(with_reducible refine AWP.genR2 (id:=25) [11,13,15] [1000000,10,900] [1] 15 [1000000,900] mixed (by kernel_rfl) fun K hK=>?_;simp only[Bx.outs,Bx.drop,cond_true,cond_false,Nat.reduceBEq,go_sem])|(clear hK K))
  all_goals(rw[a0d hlt hlen0])
  all_goals(refine⟨((g y t).2,acc++[(g y t).1]),?_,Gh.tt [(900,109)]⟩)
  all_goals exact⟨hok,hg _ _ ht,by simp[hl]⟩
 ·rintro⟨t,acc⟩ hbb ⟨hok,ht,hl⟩
  refine sts ?_
  simp only at hok ht hl
  unfold Is at hok
  rw[List.drop_length,a2h,List.append_nil] at hok
  match acc,hl with
  |[],hl=>simp at hl;omega
  |[_],hl=>simp at hl;omega
  |_::_::_::_,hl=>simp at hl;omega
  |[a,b],hl=>
  have hlen2:([a,b]:List Val).length=2:=rfl
  cases hb7:decide (b.kind=7)
  all_goals
   repeat'(first|(refine atR 31 (Gh.freeze 900 (by rfl) (by rfl) (by simp only[go_sem,zA,zB,zC,zD,zE,zF,zG,reduceCtorEq,zH,zI,zJ,zK,zL,pin,lB,List.map_cons,List.map_nil,hbb,hk,hb7,a0a b,lB,List.length_set,List.length_cons,List.length_nil,Nat.zero_add,Nat.reduceAdd]) (by simp only[go_sem,zA,zB,zC,zD,zE,zF,zG,reduceCtorEq,zH,zI,zJ,zK,zL,pin,lB,List.map_cons,List.map_nil,hbb,hk,hb7,a0a b,lB,List.length_set,List.length_cons,List.length_nil,Nat.zero_add,Nat.reduceAdd])) ?_;simp only[frE,frB,Bx.drop,go_sem,zA,zB,zC,zD,zE,zF,zG,reduceCtorEq,zH,zI,zJ,zK,zL,pin,lB,List.map_cons,List.map_nil,hbb,hk,hb7,a0a b])|(simp only[go_sem,zA,zB,zC,zD,zE,zF,zG,reduceCtorEq,zH,zI,zJ,zK,zL,pin,lB,List.map_cons,List.map_nil,hbb,hk,hb7,a0a b];all_goals refine nf ?_)|(refine stp ?_;intro K hK)|(apply hK;clear hK K)|refine stn ?_|(with_reducible refine⟨_,a28,?_⟩)|(with_reducible refine AWP.segP (id:=30) 4 mixed (by kernel_rfl) fun K hK=>?_;simp only[List.take_succ_cons,List.take_zero,List.drop_succ_cons,List.drop_zero])|(clear hK K))
  all_goals(rw[hok];simp only[a5P,hb7,cond_true,cond_false])
  all_goals(try refine⟨by first|(rw[Vt,a84,a0a b];done)|(rw[Vt,a84,a0a b];rfl)|(rw[Vt,a84];rfl),fun x hx=>by simp only[lN] at hx;subst hx;simp[pin]⟩)
  all_goals(first|exact⟨rfl,fun x hx=>by simp only[lN] at hx;subst hx;simp[pin]⟩|exact⟨trivial,fun x hx=>by simp only[lN] at hx;subst hx;simp[pin]⟩|(intro x hx;simp only[lN] at hx;subst hx;simp[pin])|(refine⟨by simp only[Vt,a0a]<;>rfl,fun x hx=>by simp only[lN] at hx;subst hx;simp[pin]⟩)|fail)
end Go.Proofs.YthbcdhfiibpeaaaGreat

