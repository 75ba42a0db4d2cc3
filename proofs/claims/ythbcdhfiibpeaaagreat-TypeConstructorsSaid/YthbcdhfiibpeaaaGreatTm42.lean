/- Lemmas of the proof. -/
import Derived.Test.YthbcdhfiibpeaaaGreatTm36
open List renaming length_map→lB,mem_singleton→lN
open Nat renaming reduceBEq→zA,reduceBNe→zB,reduceAdd→zC,reduceSub→zD,reduceMul→zE,reduceLeDiff→zF,reduceLT→zG,reduceEqDiff→zH
open Int renaming reduceToNat→zI,reduceLE→zJ,reduceLT→zK,reduceEq→zL
open Bool renaming not_eq_true'→zM,not_eq_false'→zN
set_option linter.unusedSimpArgs false
set_option linter.unusedVariables false
set_option maxRecDepth 20000
set_option maxHeartbeats 64000000
namespace Go.Proofs.YthbcdhfiibpeaaaGreat
open Go Go.Sx
def midV (a b:Int):Int:=IntKind.i64.wrap (a+IntKind.i64.wrap (IntKind.i64.wrap (b.tdiv 2)-IntKind.i64.wrap (a.tdiv 2)))
def b9m (a b:Int):List Int:=[a,b,midV a b]
def a5P:List Val→Val
  |[a,b]=>a0X a (bif decide (b.kind=7) then b else a0Z)
  |l=>⟨7,0,[],l,[],[],[]⟩
def b5Z (l:List NodeD) (v:Val) (k:Int):Val:=bif decide ((l.getD k.toNat (a0G 1)).kind=19) then { v with labels:=a0N (v.labels++[(l.getD k.toNat (a0G 1)).text]) } else v
def b0h (ks:List Int) (s:Src):Int:=ks.getD (a0h s ks.length).toNat 0
def a1o (l:List NodeD) (g nx:Int→Src→Val×Src) (x:NodeD) (s:Src):Val×Src:=
  bif decide (x.kind=3) then (a3h ((b9m x.lo x.hi).getD (a0h s 3).toNat 0),a0f s 3) else
  bif decide (x.kind=4) then (a9Q x.text,s) else
  bif decide (x.kind=5) then (a9Q (b0E s),a0f s 4) else
  bif decide (x.kind=6) then (a6L x.text,s) else
  bif decide (x.kind=7) then (a6L (a7S s),a0f s 4) else
  bif decide (x.kind=8) then (b1e (a0h s 2),a0f s 2) else
  bif decide (x.kind=9) then (a0Z,s) else
  bif decide (x.kind=10) then (a2L (a2h g x.kids s).1,(a2h g x.kids s).2) else
  bif decide (x.kind=12) then (a5P (a2h g x.kids s).1,(a2h g x.kids s).2) else
  bif decide (x.kind=13) then a2c g x s else
  bif decide (x.kind=14) then a2l g x s else
  bif decide (x.kind=16) then nx (b0h x.kids s) (a0f s x.kids.length) else
  bif decide (x.kind=17) then (x.kids.foldl (b5Z l) (nx (b0h x.kids s) (a0f s x.kids.length)).1,(nx (b0h x.kids s) (a0f s x.kids.length)).2) else
  bif decide (x.kind=19) then ({ (a2S s).1 with labels:=a0N [x.text] },(a2S s).2) else b3o 2 s
def a0W (l:List NodeD) (r:Int) (G:Src→Val×Src) (h k:Nat) (s:Src):Prop:=
  PCB Tryz.prog 81 [Sp pin,Tt l r,I .i64 (k:Int),I .i64 ((h+1:Nat):Int)] [(pin,a1d s)] (Vt (G s).1) [(pin,a1d (G s).2)]
theorem b0i (v:Val) (ls:List (List UInt8)) (hl:ls.length≤1000000):PC Tryz.prog 127 [Vt v, .one (.dat (.sl 1 (ls.map Sx.encStr)))] (Vt { v with labels:=a0N ls }):=by
  refine PCB.ob Tryz.func127 Tryz.ntmps127 Tryz.results127 ?_
  repeat'(first|(simp only[go_sem,zA,zB,zC,zD,zE,zF,zG,reduceCtorEq,zH,zI,zJ,zK,zL,a0a,lB];all_goals refine nf ?_)|(refine stp ?_;intro K hK)|(apply hK;clear hK K)|refine stn ?_|(with_reducible refine⟨_,a6c ls hl,?_⟩)|refine stq ?_|fail)
  all_goals(refine a0m ?_;rw[Vt,a0a])
theorem c4D (l:List NodeD) (r:Int) (g nx:Int→Src→Val×Src) (h:Nat) (hh:h≤1000) (hlen:l.length≤1000) (x:NodeD) (k:Nat) (hx:l[k]?= some x) (hk:x.kind=3) (s:Src) (hs:s.ok):a0W l r (a1o l g nx x) h k s:=by
  have hx':=a0n a0c hx
  have hkl:k<l.length:=(List.getElem?_eq_some_iff.1 hx).1
  have hh0:decide (((h+1:Nat):Int)≤0)=false:=by rw[decide_eq_false_iff_not];omega
  have hk0:decide ((k:Int)<0)=false:=by rw[decide_eq_false_iff_not];omega
  have hk1:decide ((l.length:Int)≤(k:Int))=false:=by rw[decide_eq_false_iff_not];omega
  have h3:=a0p s (n:=3) (by omega)
  have hg1:=a3I (fun x=>[C.int .i64 x]) (b9m x.lo x.hi) 0 (v:=a0h s 3) ⟨h3.1,by show _<(3:Int);omega⟩
  unfold a0W a1o
  simp only[hk,Int.reduceEq,decide_true,decide_false,cond_true,cond_false]
  refine PCB.ob Tryz.func81 Tryz.ntmps81 Tryz.results81 ?_
  repeat'(first|(simp only[go_sem,zA,zB,zC,zD,zE,zF,zG,reduceCtorEq,zH,zI,zJ,zK,zL,pin,hh0,hk0,hk1,hk,lB,a0b];all_goals refine nf ?_)|(refine stp ?_;intro K hK)|(apply hK;clear hK K)|refine stn ?_|(with_reducible first|refine⟨by omega,a0c x,hx',?_⟩|refine⟨_,b2d ((b9m x.lo x.hi).getD (a0h s 3).toNat 0),?_⟩)|(refine⟨1000000,_,_,_,a0v 1000000 s hs 3 (by omega),rfl,?_⟩)|( refine⟨by omega,?_⟩)|( refine⟨_,hg1,?_⟩)|(with_reducible refine AWP.genR (id:=7) [16,20] [1000000,8] mixed (by kernel_rfl) fun K hK=>?_;simp only[Bx.outs,Bx.drop,cond_true,cond_false,Nat.reduceBEq,go_sem])|(clear hK K))
  all_goals first|exact⟨rfl,fun x hx=>by simp only[lN] at hx;subst hx;simp[pin]⟩|exact⟨trivial,fun x hx=>by simp only[lN] at hx;subst hx;simp[pin]⟩|(intro x hx;simp only[lN] at hx;subst hx;simp[pin])|(refine⟨by simp only[a0a]<;>rfl,fun x hx=>by simp only[lN] at hx;subst hx;simp[pin]⟩)|fail
theorem c4E (l:List NodeD) (r:Int) (g nx:Int→Src→Val×Src) (h:Nat) (hh:h≤1000) (hlen:l.length≤1000) (x:NodeD) (k:Nat) (hx:l[k]?= some x) (hk:x.kind=4) (s:Src) (hs:s.ok):a0W l r (a1o l g nx x) h k s:=by
  have hx':=a0n a0c hx
  have hkl:k<l.length:=(List.getElem?_eq_some_iff.1 hx).1
  have hh0:decide (((h+1:Nat):Int)≤0)=false:=by rw[decide_eq_false_iff_not];omega
  have hk0:decide ((k:Int)<0)=false:=by rw[decide_eq_false_iff_not];omega
  have hk1:decide ((l.length:Int)≤(k:Int))=false:=by rw[decide_eq_false_iff_not];omega
  unfold a0W a1o
  simp only[hk,Int.reduceEq,decide_true,decide_false,cond_true,cond_false]
  refine PCB.ob Tryz.func81 Tryz.ntmps81 Tryz.results81 ?_
  repeat'(first|(simp only[go_sem,zA,zB,zC,zD,zE,zF,zG,reduceCtorEq,zH,zI,zJ,zK,zL,pin,hh0,hk0,hk1,hk,lB,a0b];all_goals refine nf ?_)|(refine stp ?_;intro K hK)|(apply hK;clear hK K)|refine stn ?_|(with_reducible first|refine⟨by omega,a0c x,hx',?_⟩|refine⟨_,a6M x.text,?_⟩)|refine stq ?_|(clear hK K))
  all_goals first|exact⟨rfl,fun x hx=>by simp only[lN] at hx;subst hx;simp[pin]⟩|exact⟨trivial,fun x hx=>by simp only[lN] at hx;subst hx;simp[pin]⟩|(intro x hx;simp only[lN] at hx;subst hx;simp[pin])|(refine⟨by simp only[a0a]<;>rfl,fun x hx=>by simp only[lN] at hx;subst hx;simp[pin]⟩)|fail
theorem c4F (l:List NodeD) (r:Int) (g nx:Int→Src→Val×Src) (h:Nat) (hh:h≤1000) (hlen:l.length≤1000) (x:NodeD) (k:Nat) (hx:l[k]?= some x) (hk:x.kind=5) (s:Src) (hs:s.ok):a0W l r (a1o l g nx x) h k s:=by
  have hx':=a0n a0c hx
  have hkl:k<l.length:=(List.getElem?_eq_some_iff.1 hx).1
  have hh0:decide (((h+1:Nat):Int)≤0)=false:=by rw[decide_eq_false_iff_not];omega
  have hk0:decide ((k:Int)<0)=false:=by rw[decide_eq_false_iff_not];omega
  have hk1:decide ((l.length:Int)≤(k:Int))=false:=by rw[decide_eq_false_iff_not];omega
  unfold a0W a1o
  simp only[hk,Int.reduceEq,decide_true,decide_false,cond_true,cond_false]
  refine PCB.ob Tryz.func81 Tryz.ntmps81 Tryz.results81 ?_
  repeat'(first|(simp only[go_sem,zA,zB,zC,zD,zE,zF,zG,reduceCtorEq,zH,zI,zJ,zK,zL,pin,hh0,hk0,hk1,hk,lB,a0b];all_goals refine nf ?_)|(refine stp ?_;intro K hK)|(apply hK;clear hK K)|refine stn ?_|(with_reducible first|refine⟨by omega,a0c x,hx',?_⟩|refine⟨_,a6M (b0E s),?_⟩)|(refine⟨1000000,_,_,_,b26 1000000 s hs,rfl,?_⟩)|refine stq ?_|(clear hK K))
  all_goals first|exact⟨rfl,fun x hx=>by simp only[lN] at hx;subst hx;simp[pin]⟩|exact⟨trivial,fun x hx=>by simp only[lN] at hx;subst hx;simp[pin]⟩|(intro x hx;simp only[lN] at hx;subst hx;simp[pin])|(refine⟨by simp only[a0a]<;>rfl,fun x hx=>by simp only[lN] at hx;subst hx;simp[pin]⟩)|fail
theorem c4G (l:List NodeD) (r:Int) (g nx:Int→Src→Val×Src) (h:Nat) (hh:h≤1000) (hlen:l.length≤1000) (x:NodeD) (k:Nat) (hx:l[k]?= some x) (hk:x.kind=6) (s:Src) (hs:s.ok):a0W l r (a1o l g nx x) h k s:=by
  have hx':=a0n a0c hx
  have hkl:k<l.length:=(List.getElem?_eq_some_iff.1 hx).1
  have hh0:decide (((h+1:Nat):Int)≤0)=false:=by rw[decide_eq_false_iff_not];omega
  have hk0:decide ((k:Int)<0)=false:=by rw[decide_eq_false_iff_not];omega
  have hk1:decide ((l.length:Int)≤(k:Int))=false:=by rw[decide_eq_false_iff_not];omega
  unfold a0W a1o
  simp only[hk,Int.reduceEq,decide_true,decide_false,cond_true,cond_false]
  refine PCB.ob Tryz.func81 Tryz.ntmps81 Tryz.results81 ?_
  repeat'(first|(simp only[go_sem,zA,zB,zC,zD,zE,zF,zG,reduceCtorEq,zH,zI,zJ,zK,zL,pin,hh0,hk0,hk1,hk,lB,a0b];all_goals refine nf ?_)|(refine stp ?_;intro K hK)|(apply hK;clear hK K)|refine stn ?_|(with_reducible first|refine⟨by omega,a0c x,hx',?_⟩|refine⟨_,a72 x.text,?_⟩)|refine stq ?_|(clear hK K))
  all_goals first|exact⟨rfl,fun x hx=>by simp only[lN] at hx;subst hx;simp[pin]⟩|exact⟨trivial,fun x hx=>by simp only[lN] at hx;subst hx;simp[pin]⟩|(intro x hx;simp only[lN] at hx;subst hx;simp[pin])|(refine⟨by simp only[a0a]<;>rfl,fun x hx=>by simp only[lN] at hx;subst hx;simp[pin]⟩)|fail
theorem c4H (l:List NodeD) (r:Int) (g nx:Int→Src→Val×Src) (h:Nat) (hh:h≤1000) (hlen:l.length≤1000) (x:NodeD) (k:Nat) (hx:l[k]?= some x) (hk:x.kind=7) (s:Src) (hs:s.ok):a0W l r (a1o l g nx x) h k s:=by
  have hx':=a0n a0c hx
  have hkl:k<l.length:=(List.getElem?_eq_some_iff.1 hx).1
  have hh0:decide (((h+1:Nat):Int)≤0)=false:=by rw[decide_eq_false_iff_not];omega
  have hk0:decide ((k:Int)<0)=false:=by rw[decide_eq_false_iff_not];omega
  have hk1:decide ((l.length:Int)≤(k:Int))=false:=by rw[decide_eq_false_iff_not];omega
  unfold a0W a1o
  simp only[hk,Int.reduceEq,decide_true,decide_false,cond_true,cond_false]
  refine PCB.ob Tryz.func81 Tryz.ntmps81 Tryz.results81 ?_
  repeat'(first|(simp only[go_sem,zA,zB,zC,zD,zE,zF,zG,reduceCtorEq,zH,zI,zJ,zK,zL,pin,hh0,hk0,hk1,hk,lB,a0b];all_goals refine nf ?_)|(refine stp ?_;intro K hK)|(apply hK;clear hK K)|refine stn ?_|(with_reducible first|refine⟨by omega,a0c x,hx',?_⟩|refine⟨_,a72 (a7S s),?_⟩)|(refine⟨1000000,_,_,_,a4q 1000000 s hs,rfl,?_⟩)|refine stq ?_|(clear hK K))
  all_goals first|exact⟨rfl,fun x hx=>by simp only[lN] at hx;subst hx;simp[pin]⟩|exact⟨trivial,fun x hx=>by simp only[lN] at hx;subst hx;simp[pin]⟩|(intro x hx;simp only[lN] at hx;subst hx;simp[pin])|(refine⟨by simp only[a0a]<;>rfl,fun x hx=>by simp only[lN] at hx;subst hx;simp[pin]⟩)|fail
theorem c4I (l:List NodeD) (r:Int) (g nx:Int→Src→Val×Src) (h:Nat) (hh:h≤1000) (hlen:l.length≤1000) (x:NodeD) (k:Nat) (hx:l[k]?= some x) (hk:x.kind=8) (s:Src) (hs:s.ok):a0W l r (a1o l g nx x) h k s:=by
  have hx':=a0n a0c hx
  have hkl:k<l.length:=(List.getElem?_eq_some_iff.1 hx).1
  have hh0:decide (((h+1:Nat):Int)≤0)=false:=by rw[decide_eq_false_iff_not];omega
  have hk0:decide ((k:Int)<0)=false:=by rw[decide_eq_false_iff_not];omega
  have hk1:decide ((l.length:Int)≤(k:Int))=false:=by rw[decide_eq_false_iff_not];omega
  unfold a0W a1o
  simp only[hk,Int.reduceEq,decide_true,decide_false,cond_true,cond_false]
  refine PCB.ob Tryz.func81 Tryz.ntmps81 Tryz.results81 ?_
  repeat'(first|(simp only[go_sem,zA,zB,zC,zD,zE,zF,zG,reduceCtorEq,zH,zI,zJ,zK,zL,pin,hh0,hk0,hk1,hk,lB,a0b];all_goals refine nf ?_)|(refine stp ?_;intro K hK)|(apply hK;clear hK K)|refine stn ?_|(with_reducible first|refine⟨by omega,a0c x,hx',?_⟩|refine⟨_,b5z (a0h s 2),?_⟩)|(refine⟨1000000,_,_,_,a0v 1000000 s hs 2 (by omega),rfl,?_⟩)|refine stq ?_|(clear hK K))
  all_goals first|exact⟨rfl,fun x hx=>by simp only[lN] at hx;subst hx;simp[pin]⟩|exact⟨trivial,fun x hx=>by simp only[lN] at hx;subst hx;simp[pin]⟩|(intro x hx;simp only[lN] at hx;subst hx;simp[pin])|(refine⟨by simp only[a0a]<;>rfl,fun x hx=>by simp only[lN] at hx;subst hx;simp[pin]⟩)|fail
theorem c4J (l:List NodeD) (r:Int) (g nx:Int→Src→Val×Src) (h:Nat) (hh:h≤1000) (hlen:l.length≤1000) (x:NodeD) (k:Nat) (hx:l[k]?= some x) (hk:x.kind=9) (s:Src) (hs:s.ok):a0W l r (a1o l g nx x) h k s:=by
  have hx':=a0n a0c hx
  have hkl:k<l.length:=(List.getElem?_eq_some_iff.1 hx).1
  have hh0:decide (((h+1:Nat):Int)≤0)=false:=by rw[decide_eq_false_iff_not];omega
  have hk0:decide ((k:Int)<0)=false:=by rw[decide_eq_false_iff_not];omega
  have hk1:decide ((l.length:Int)≤(k:Int))=false:=by rw[decide_eq_false_iff_not];omega
  unfold a0W a1o
  simp only[hk,Int.reduceEq,decide_true,decide_false,cond_true,cond_false]
  refine PCB.ob Tryz.func81 Tryz.ntmps81 Tryz.results81 ?_
  repeat'(first|(simp only[go_sem,zA,zB,zC,zD,zE,zF,zG,reduceCtorEq,zH,zI,zJ,zK,zL,pin,hh0,hk0,hk1,hk,lB,a0b];all_goals refine nf ?_)|(refine stp ?_;intro K hK)|(apply hK;clear hK K)|refine stn ?_|(with_reducible first|refine⟨by omega,a0c x,hx',?_⟩|refine⟨_,a28,?_⟩)|refine stq ?_|(clear hK K))
  all_goals first|exact⟨rfl,fun x hx=>by simp only[lN] at hx;subst hx;simp[pin]⟩|exact⟨trivial,fun x hx=>by simp only[lN] at hx;subst hx;simp[pin]⟩|(intro x hx;simp only[lN] at hx;subst hx;simp[pin])|(refine⟨by simp only[a0a]<;>rfl,fun x hx=>by simp only[lN] at hx;subst hx;simp[pin]⟩)|fail
theorem c4K (l:List NodeD) (r:Int) (g nx:Int→Src→Val×Src) (h:Nat) (hh:h≤1000) (hlen:l.length≤1000) (x:NodeD) (k:Nat) (hx:l[k]?= some x) (hk:x.kind=1) (s:Src) (hs:s.ok):a0W l r (a1o l g nx x) h k s:=by
  have hx':=a0n a0c hx
  have hkl:k<l.length:=(List.getElem?_eq_some_iff.1 hx).1
  have hh0:decide (((h+1:Nat):Int)≤0)=false:=by rw[decide_eq_false_iff_not];omega
  have hk0:decide ((k:Int)<0)=false:=by rw[decide_eq_false_iff_not];omega
  have hk1:decide ((l.length:Int)≤(k:Int))=false:=by rw[decide_eq_false_iff_not];omega
  unfold a0W a1o
  simp only[hk,Int.reduceEq,decide_true,decide_false,cond_true,cond_false]
  refine PCB.ob Tryz.func81 Tryz.ntmps81 Tryz.results81 ?_
  repeat'(first|(simp only[go_sem,zA,zB,zC,zD,zE,zF,zG,reduceCtorEq,zH,zI,zJ,zK,zL,pin,hh0,hk0,hk1,hk,lB,a0b];all_goals refine nf ?_)|(refine stp ?_;intro K hK)|(apply hK;clear hK K)|refine stn ?_|(with_reducible refine⟨by omega,a0c x,hx',?_⟩)|(refine⟨1000000,_,_,_,(a2b 2 (by omega)).k 1000000 s hs,rfl,?_⟩)|refine stq ?_|fail)
  all_goals first|exact⟨rfl,fun x hx=>by simp only[lN] at hx;subst hx;simp[pin]⟩|exact⟨trivial,fun x hx=>by simp only[lN] at hx;subst hx;simp[pin]⟩|(intro x hx;simp only[lN] at hx;subst hx;simp[pin])|(refine⟨by simp only[a0a]<;>rfl,fun x hx=>by simp only[lN] at hx;subst hx;simp[pin]⟩)|fail
theorem c4L (l:List NodeD) (r:Int) (g nx:Int→Src→Val×Src) (h:Nat) (hh:h≤1000) (hlen:l.length≤1000) (x:NodeD) (k:Nat) (hx:l[k]?= some x) (hk:x.kind=2) (s:Src) (hs:s.ok):a0W l r (a1o l g nx x) h k s:=by
  have hx':=a0n a0c hx
  have hkl:k<l.length:=(List.getElem?_eq_some_iff.1 hx).1
  have hh0:decide (((h+1:Nat):Int)≤0)=false:=by rw[decide_eq_false_iff_not];omega
  have hk0:decide ((k:Int)<0)=false:=by rw[decide_eq_false_iff_not];omega
  have hk1:decide ((l.length:Int)≤(k:Int))=false:=by rw[decide_eq_false_iff_not];omega
  unfold a0W a1o
  simp only[hk,Int.reduceEq,decide_true,decide_false,cond_true,cond_false]
  refine PCB.ob Tryz.func81 Tryz.ntmps81 Tryz.results81 ?_
  repeat'(first|(simp only[go_sem,zA,zB,zC,zD,zE,zF,zG,reduceCtorEq,zH,zI,zJ,zK,zL,pin,hh0,hk0,hk1,hk,lB,a0b];all_goals refine nf ?_)|(refine stp ?_;intro K hK)|(apply hK;clear hK K)|refine stn ?_|(with_reducible refine⟨by omega,a0c x,hx',?_⟩)|(refine⟨1000000,_,_,_,(a2b 2 (by omega)).k 1000000 s hs,rfl,?_⟩)|refine stq ?_|fail)
  all_goals first|exact⟨rfl,fun x hx=>by simp only[lN] at hx;subst hx;simp[pin]⟩|exact⟨trivial,fun x hx=>by simp only[lN] at hx;subst hx;simp[pin]⟩|(intro x hx;simp only[lN] at hx;subst hx;simp[pin])|(refine⟨by simp only[a0a]<;>rfl,fun x hx=>by simp only[lN] at hx;subst hx;simp[pin]⟩)|fail
theorem c1J (l:List NodeD) (r:Int) (g nx:Int→Src→Val×Src) (h:Nat) (hh:h≤1000) (hlen:l.length≤1000) (x:NodeD) (k:Nat) (hx:l[k]?= some x) (hk:x.kind=11) (s:Src) (hs:s.ok):a0W l r (a1o l g nx x) h k s:=by
  have hx':=a0n a0c hx
  have hkl:k<l.length:=(List.getElem?_eq_some_iff.1 hx).1
  have hh0:decide (((h+1:Nat):Int)≤0)=false:=by rw[decide_eq_false_iff_not];omega
  have hk0:decide ((k:Int)<0)=false:=by rw[decide_eq_false_iff_not];omega
  have hk1:decide ((l.length:Int)≤(k:Int))=false:=by rw[decide_eq_false_iff_not];omega
  unfold a0W a1o
  simp only[hk,Int.reduceEq,decide_true,decide_false,cond_true,cond_false]
  refine PCB.ob Tryz.func81 Tryz.ntmps81 Tryz.results81 ?_
  repeat'(first|(simp only[go_sem,zA,zB,zC,zD,zE,zF,zG,reduceCtorEq,zH,zI,zJ,zK,zL,pin,hh0,hk0,hk1,hk,lB,a0b];all_goals refine nf ?_)|(refine stp ?_;intro K hK)|(apply hK;clear hK K)|refine stn ?_|(with_reducible refine⟨by omega,a0c x,hx',?_⟩)|(refine⟨1000000,_,_,_,(a2b 2 (by omega)).k 1000000 s hs,rfl,?_⟩)|refine stq ?_|fail)
  all_goals first|exact⟨rfl,fun x hx=>by simp only[lN] at hx;subst hx;simp[pin]⟩|exact⟨trivial,fun x hx=>by simp only[lN] at hx;subst hx;simp[pin]⟩|(intro x hx;simp only[lN] at hx;subst hx;simp[pin])|(refine⟨by simp only[a0a]<;>rfl,fun x hx=>by simp only[lN] at hx;subst hx;simp[pin]⟩)|fail
theorem c1K (l:List NodeD) (r:Int) (g nx:Int→Src→Val×Src) (h:Nat) (hh:h≤1000) (hlen:l.length≤1000) (x:NodeD) (k:Nat) (hx:l[k]?= some x) (hk:x.kind=15) (s:Src) (hs:s.ok):a0W l r (a1o l g nx x) h k s:=by
  have hx':=a0n a0c hx
  have hkl:k<l.length:=(List.getElem?_eq_some_iff.1 hx).1
  have hh0:decide (((h+1:Nat):Int)≤0)=false:=by rw[decide_eq_false_iff_not];omega
  have hk0:decide ((k:Int)<0)=false:=by rw[decide_eq_false_iff_not];omega
  have hk1:decide ((l.length:Int)≤(k:Int))=false:=by rw[decide_eq_false_iff_not];omega
  unfold a0W a1o
  simp only[hk,Int.reduceEq,decide_true,decide_false,cond_true,cond_false]
  refine PCB.ob Tryz.func81 Tryz.ntmps81 Tryz.results81 ?_
  repeat'(first|(simp only[go_sem,zA,zB,zC,zD,zE,zF,zG,reduceCtorEq,zH,zI,zJ,zK,zL,pin,hh0,hk0,hk1,hk,lB,a0b];all_goals refine nf ?_)|(refine stp ?_;intro K hK)|(apply hK;clear hK K)|refine stn ?_|(with_reducible refine⟨by omega,a0c x,hx',?_⟩)|(refine⟨1000000,_,_,_,(a2b 2 (by omega)).k 1000000 s hs,rfl,?_⟩)|refine stq ?_|fail)
  all_goals first|exact⟨rfl,fun x hx=>by simp only[lN] at hx;subst hx;simp[pin]⟩|exact⟨trivial,fun x hx=>by simp only[lN] at hx;subst hx;simp[pin]⟩|(intro x hx;simp only[lN] at hx;subst hx;simp[pin])|(refine⟨by simp only[a0a]<;>rfl,fun x hx=>by simp only[lN] at hx;subst hx;simp[pin]⟩)|fail
theorem c1L (l:List NodeD) (r:Int) (g nx:Int→Src→Val×Src) (h:Nat) (hh:h≤1000) (hlen:l.length≤1000) (x:NodeD) (k:Nat) (hx:l[k]?= some x) (hk:x.kind=18) (s:Src) (hs:s.ok):a0W l r (a1o l g nx x) h k s:=by
  have hx':=a0n a0c hx
  have hkl:k<l.length:=(List.getElem?_eq_some_iff.1 hx).1
  have hh0:decide (((h+1:Nat):Int)≤0)=false:=by rw[decide_eq_false_iff_not];omega
  have hk0:decide ((k:Int)<0)=false:=by rw[decide_eq_false_iff_not];omega
  have hk1:decide ((l.length:Int)≤(k:Int))=false:=by rw[decide_eq_false_iff_not];omega
  unfold a0W a1o
  simp only[hk,Int.reduceEq,decide_true,decide_false,cond_true,cond_false]
  refine PCB.ob Tryz.func81 Tryz.ntmps81 Tryz.results81 ?_
  repeat'(first|(simp only[go_sem,zA,zB,zC,zD,zE,zF,zG,reduceCtorEq,zH,zI,zJ,zK,zL,pin,hh0,hk0,hk1,hk,lB,a0b];all_goals refine nf ?_)|(refine stp ?_;intro K hK)|(apply hK;clear hK K)|refine stn ?_|(with_reducible refine⟨by omega,a0c x,hx',?_⟩)|(refine⟨1000000,_,_,_,(a2b 2 (by omega)).k 1000000 s hs,rfl,?_⟩)|refine stq ?_|fail)
  all_goals first|exact⟨rfl,fun x hx=>by simp only[lN] at hx;subst hx;simp[pin]⟩|exact⟨trivial,fun x hx=>by simp only[lN] at hx;subst hx;simp[pin]⟩|(intro x hx;simp only[lN] at hx;subst hx;simp[pin])|(refine⟨by simp only[a0a]<;>rfl,fun x hx=>by simp only[lN] at hx;subst hx;simp[pin]⟩)|fail
theorem c1M (l:List NodeD) (r:Int) (g nx:Int→Src→Val×Src) (h:Nat) (H:b0J l r g (h:Int)) (hg:∀ k s,s.ok→(g k s).2.ok) (hh:h≤1000) (hlen:l.length≤1000) (x:NodeD) (k:Nat) (hx:l[k]?= some x) (hk:x.kind=13) (hf:∀ f∈x.fields,0≤f.node∧f.node<(l.length:Int)) (hfl:x.fields.length≤1000) (h0:0≤x.r0∧x.r0<(l.length:Int)) (h1:0≤x.r1∧x.r1<(l.length:Int)) (s:Src) (hs:s.ok):a0W l r (a1o l g nx x) h k s:=by
  have hx':=a0n a0c hx
  have hkl:k<l.length:=(List.getElem?_eq_some_iff.1 hx).1
  have hh0:decide (((h+1:Nat):Int)≤0)=false:=by rw[decide_eq_false_iff_not];omega
  have hk0:decide ((k:Int)<0)=false:=by rw[decide_eq_false_iff_not];omega
  have hk1:decide ((l.length:Int)≤(k:Int))=false:=by rw[decide_eq_false_iff_not];omega
  have hM:a2f Tryz.prog 125 [Sp 1000000, .st [.sl 8 (l.map a0c), .int .i64 r], .st [.int .i64 13, .int .i64 x.lo, .int .i64 x.hi, .str x.text, .sl 1 (x.kids.map a0e), .sl 4 (x.fields.map a0i), .int .i64 x.r0, .int .i64 x.r1],I .i64 ((h+1:Nat):Int)] 1000000 (a1d s) (Vt (a2c g x s).1) (a1d (a2c g x s).2):=by rw[← hk];exact a2f.mk 1000000 (b85 l r g h H hg hh x hf hfl h0 h1 s hs)
  unfold a0W a1o
  simp only[hk,Int.reduceEq,decide_true,decide_false,cond_true,cond_false]
  refine PCB.ob Tryz.func81 Tryz.ntmps81 Tryz.results81 ?_
  repeat'(first|(simp only[go_sem,zA,zB,zC,zD,zE,zF,zG,reduceCtorEq,zH,zI,zJ,zK,zL,pin,hh0,hk0,hk1,hk,lB,a0b];all_goals refine nf ?_)|(refine stp ?_;intro K hK)|(apply hK;clear hK K)|refine stn ?_|(with_reducible refine⟨by omega,a0c x,hx',?_⟩)|(refine⟨1000000,_,_,_,hM,rfl,?_⟩)|refine stq ?_|(clear hK K))
  all_goals first|exact⟨rfl,fun x hx=>by simp only[lN] at hx;subst hx;simp[pin]⟩|exact⟨trivial,fun x hx=>by simp only[lN] at hx;subst hx;simp[pin]⟩|(intro x hx;simp only[lN] at hx;subst hx;simp[pin])|(refine⟨by simp only[a0a]<;>rfl,fun x hx=>by simp only[lN] at hx;subst hx;simp[pin]⟩)|fail
theorem c1N (l:List NodeD) (r:Int) (g nx:Int→Src→Val×Src) (h:Nat) (H:b0J l r g (h:Int)) (hg:∀ k s,s.ok→(g k s).2.ok) (hh:h≤1000) (hlen:l.length≤1000) (x:NodeD) (k:Nat) (hx:l[k]?= some x) (hk:x.kind=14) (hki:∀ k∈x.kids,0≤k∧k<(l.length:Int)) (hk1:1≤x.kids.length) (hk2:x.kids.length≤1000) (s:Src) (hs:s.ok):a0W l r (a1o l g nx x) h k s:=by
  have hx':=a0n a0c hx
  have hkl:k<l.length:=(List.getElem?_eq_some_iff.1 hx).1
  have hh0:decide (((h+1:Nat):Int)≤0)=false:=by rw[decide_eq_false_iff_not];omega
  have hk0:decide ((k:Int)<0)=false:=by rw[decide_eq_false_iff_not];omega
  have hk1l:decide ((l.length:Int)≤(k:Int))=false:=by rw[decide_eq_false_iff_not];omega
  have hM:a2f Tryz.prog 126 [Sp 1000000, .st [.sl 8 (l.map a0c), .int .i64 r], .st [.int .i64 14, .int .i64 x.lo, .int .i64 x.hi, .str x.text, .sl 1 (x.kids.map a0e), .sl 4 (x.fields.map a0i), .int .i64 x.r0, .int .i64 x.r1],I .i64 ((h+1:Nat):Int)] 1000000 (a1d s) (Vt (a2l g x s).1) (a1d (a2l g x s).2):=by rw[← hk];exact a2f.mk 1000000 (b86 l r g h H hg hh x hki hk1 hk2 s hs)
  unfold a0W a1o
  simp only[hk,Int.reduceEq,decide_true,decide_false,cond_true,cond_false]
  refine PCB.ob Tryz.func81 Tryz.ntmps81 Tryz.results81 ?_
  repeat'(first|(simp only[go_sem,zA,zB,zC,zD,zE,zF,zG,reduceCtorEq,zH,zI,zJ,zK,zL,pin,hh0,hk0,hk1l,hk,lB,a0b];all_goals refine nf ?_)|(refine stp ?_;intro K hK)|(apply hK;clear hK K)|refine stn ?_|(with_reducible refine⟨by omega,a0c x,hx',?_⟩)|(refine⟨1000000,_,_,_,hM,rfl,?_⟩)|refine stq ?_|(clear hK K))
  all_goals first|exact⟨rfl,fun x hx=>by simp only[lN] at hx;subst hx;simp[pin]⟩|exact⟨trivial,fun x hx=>by simp only[lN] at hx;subst hx;simp[pin]⟩|(intro x hx;simp only[lN] at hx;subst hx;simp[pin])|(refine⟨by simp only[a0a]<;>rfl,fun x hx=>by simp only[lN] at hx;subst hx;simp[pin]⟩)|fail
theorem b3C {α:Type} {l:List α} {d:α} {v:Int} (h:0≤v∧v<(l.length:Int)):l.getD v.toNat d∈l:=by
  have hv:v.toNat<l.length:=by omega
  rw[List.getD_eq_getElem?_getD,List.getElem?_eq_getElem hv]
  exact List.getElem_mem hv
theorem c1O (l:List NodeD) (r:Int) (g nx:Int→Src→Val×Src) (h:Nat) (hh:h≤1000) (hlen:l.length≤1000) (x:NodeD) (k:Nat) (hx:l[k]?= some x) (hk:x.kind=16) (hki:∀ k∈x.kids,0≤k∧k<(l.length:Int)) (hkn:1≤x.kids.length) (hk2:x.kids.length≤1000) (Hn:∀ k:Int,k∈x.kids→∀ s:Src,s.ok→PCB Tryz.prog 81 [Sp pin,Tt l r,I .i64 k,I .i64 ((h+1:Nat):Int)] [(pin,a1d s)] (Vt (nx k s).1) [(pin,a1d (nx k s).2)]) (s:Src) (hs:s.ok):a0W l r (a1o l g nx x) h k s:=by
  have hx':=a0n a0c hx
  have hkl:k<l.length:=(List.getElem?_eq_some_iff.1 hx).1
  have hh0:decide (((h+1:Nat):Int)≤0)=false:=by rw[decide_eq_false_iff_not];omega
  have hk0:decide ((k:Int)<0)=false:=by rw[decide_eq_false_iff_not];omega
  have hk1:decide ((l.length:Int)≤(k:Int))=false:=by rw[decide_eq_false_iff_not];omega
  have hv:=a0p s (n:=(x.kids.length:Int)) (by omega)
  have hp:b0h x.kids s∈x.kids:=b3C hv
  have hs2:=a0j hs (x.kids.length:Int)
  have hg1:=a3I a0e x.kids 0 hv
  have hM:=a2f.mk 1000000 (Hn _ hp _ hs2)
  unfold a0W a1o
  simp only[hk,Int.reduceEq,decide_true,decide_false,cond_true,cond_false]
  refine PCB.ob Tryz.func81 Tryz.ntmps81 Tryz.results81 ?_
  repeat'(first|(simp only[go_sem,zA,zB,zC,zD,zE,zF,zG,reduceCtorEq,zH,zI,zJ,zK,zL,pin,hh0,hk0,hk1,hk,lB,a0b];all_goals refine nf ?_)|(refine stp ?_;intro K hK)|(apply hK;clear hK K)|refine stn ?_|(with_reducible refine⟨by omega,a0c x,hx',?_⟩)|(refine⟨1000000,_,_,_,a0v 1000000 s hs (x.kids.length:Int) (by omega),rfl,?_⟩)|( refine⟨(by omega:_≤_),_,hg1,?_⟩)|(refine⟨1000000,_,_,_,hM,rfl,?_⟩)|(with_reducible refine AWP.genR (id:=37) [8,12,13] [1000000,1000000,8] mixed (by kernel_rfl) fun K hK=>?_;simp only[Bx.outs,Bx.drop,cond_true,cond_false,Nat.reduceBEq,go_sem])|(clear hK K))
  all_goals first|exact⟨rfl,fun x hx=>by simp only[lN] at hx;subst hx;simp[pin]⟩|exact⟨trivial,fun x hx=>by simp only[lN] at hx;subst hx;simp[pin]⟩|(intro x hx;simp only[lN] at hx;subst hx;simp[pin])|(refine⟨by simp only[a0a]<;>rfl,fun x hx=>by simp only[lN] at hx;subst hx;simp[pin]⟩)|fail
theorem c1P (l:List NodeD) (r:Int) (g nx:Int→Src→Val×Src) (h:Nat) (hh:h≤1000) (hlen:l.length≤1000) (x:NodeD) (k:Nat) (hx:l[k]?= some x) (hk:x.kind=19) (s:Src) (hs:s.ok):a0W l r (a1o l g nx x) h k s:=by
  have hx':=a0n a0c hx
  have hkl:k<l.length:=(List.getElem?_eq_some_iff.1 hx).1
  have hh0:decide (((h+1:Nat):Int)≤0)=false:=by rw[decide_eq_false_iff_not];omega
  have hk0:decide ((k:Int)<0)=false:=by rw[decide_eq_false_iff_not];omega
  have hk1:decide ((l.length:Int)≤(k:Int))=false:=by rw[decide_eq_false_iff_not];omega
  have hsl:=a3L hs
  have hW:PC Tryz.prog 127 [.st (a0g (a2S s).1), .one (.dat (.sl 1 [[C.str x.text]]))] (Vt { (a2S s).1 with labels:=a0N [x.text] }):=b0i (a2S s).1 [x.text] (by simp)
  unfold a0W a1o
  simp only[hk,Int.reduceEq,decide_true,decide_false,cond_true,cond_false]
  refine PCB.ob Tryz.func81 Tryz.ntmps81 Tryz.results81 ?_
  repeat'(first|(simp only[go_sem,zA,zB,zC,zD,zE,zF,zG,reduceCtorEq,zH,zI,zJ,zK,zL,pin,hh0,hk0,hk1,hk,lB,a0b];all_goals refine nf ?_)|(refine stp ?_;intro K hK)|(apply hK;clear hK K)|refine stn ?_|(with_reducible first|refine⟨by omega,a0c x,hx',?_⟩|refine⟨_,hW,?_⟩)|(refine⟨1000000,_,_,_,a9S 1000000 s hs,rfl,?_⟩)|(with_reducible refine AWP.genR (id:=47) [1,6] [1000000,8] mixed (by kernel_rfl) fun K hK=>?_;simp only[Bx.outs,Bx.drop,cond_true,cond_false,Nat.reduceBEq,go_sem])|(clear hK K))
  all_goals first|exact⟨rfl,fun x hx=>by simp only[lN] at hx;subst hx;simp[pin]⟩|exact⟨trivial,fun x hx=>by simp only[lN] at hx;subst hx;simp[pin]⟩|(intro x hx;simp only[lN] at hx;subst hx;simp[pin])|(refine⟨by simp only[a0a]<;>rfl,fun x hx=>by simp only[lN] at hx;subst hx;simp[pin]⟩)|fail
end Go.Proofs.YthbcdhfiibpeaaaGreat

