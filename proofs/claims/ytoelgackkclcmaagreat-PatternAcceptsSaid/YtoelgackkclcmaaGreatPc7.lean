/- Lemmas. -/
import Derived.Test.YtoelgackkclcmaaGreatPc5
open Go.Proofs.Tryz renaming prog→zP
open List renaming length_map→lB,mem_of_getElem?→lP
open Go.Sx.AWP renaming range→xC,len→xF
set_option linter.unusedSimpArgs false
set_option linter.unusedVariables false
set_option maxRecDepth 20000
set_option maxHeartbeats 64000000
namespace Go.Proofs.YtoelgackkclcmaaGreat
open Go Go.Sx
theorem b1x (a b:ByteArray) (w:World):
  Calls zP 266 #[.string a, .string b] w fun e w'=>e= .returned (.int .i64 (Lib.compareBytes a.data.toList b.data.toList))∧w'=w:=by
 go_enter Tryz.func266,Tryz.ntmps266
 go_wp2
 rw[run_callFunc_extern Tryz.func274 (by kernel_rfl) (by kernel_rfl) (by kernel_rfl) (e:=Extern.BytealgCompare.compare) (by kernel_rfl),Lib.run_compareString]
 simp only[Result.andThen]
 rw[Oper.upon_value]
 go_wp2
 go_ret
 exact⟨rfl,rfl⟩
theorem b6V (a b:List UInt8):PC zP 266 [S a,S b] (I .i64 (Lib.compareBytes a b)):=by
  refine⟨⟨_,Tryz.func266,rfl,rfl⟩,fun M ν w vs hs hr=>?_⟩
  simp only[T.reps,T.rep,Cell.rep,C.rep] at hr
  obtain⟨v1,q,rfl,rfl,v2,u,rfl,rfl,rfl⟩:=hr
  refine Calls.mono (b1x ⟨a.toArray⟩ ⟨b.toArray⟩ w) ?_
  rintro e w' ⟨rfl,rfl⟩
  exact⟨_,M,rfl,Mem.ext.refl _ M,by simp only[T.rep,Cell.rep,C.rep],hs⟩
theorem a1p (a b:List UInt8):PC zP 251 [S a,S b] (I .i64 (Lib.compareBytes a b)):=by
  refine PCB.ob Tryz.func251 Tryz.ntmps251 Tryz.results251 ?_
  repeat'(first|simp only[go_sem]<;>refine nf ?_|refine stp ?_;intro K hK|apply hK;clear hK K|refine stn ?_|(with_reducible refine⟨_,b6V _ _,?_⟩)|refine stq ?_|fail)
  all_goals(first|exact fun _ h=>absurd h zaf|refine a0m ?_)
  all_goals rfl
theorem a8Y:∀ {a b:List UInt8},Lib.compareBytes a b=0↔a=b
 |[],[]=>by simp[Lib.compareBytes]
 |[],_::_=>by simp[Lib.compareBytes]
 |_::_,[]=>by simp[Lib.compareBytes]
 |x::a,y::b=>by
  unfold Lib.compareBytes
  by_cases h1:x<y
  ·simp only[h1,za9]
   constructor
   ·intro h;cases h
   ·intro h;cases h;exact absurd h1 (by simp)
  ·by_cases h2:y<x
   ·simp only[h1,h2,za9,za2]
    constructor
    ·intro h;cases h
    ·intro h;cases h;exact absurd h2 (by simp)
   ·have q:x=y:=UInt8.le_antisymm (UInt8.not_lt.1 h2) (UInt8.not_lt.1 h1)
    subst q
    have ih:= @a8Y a b
    simp only[h1,za2,ih,List.cons.injEq,true_and]
def a1E (a b:Int):Int:=bif decide (a=0) then b else a
def a2O (a b:KeyD):Int:=a1E (a5Q a.kind b.kind) (Lib.compareBytes a.text b.text)
theorem a1i (a b:KeyD):PC zP 236 [.st (a0i a), .st (a0i b)] (I .i64 (a2O a b)):=by
  refine PCB.ob Tryz.func236 Tryz.ntmps236 Tryz.results236 ?_
  cases q:decide (a5Q a.kind b.kind=0)
  repeat'(first|simp only[go_sem,a0i,q]<;>refine nf ?_|refine stp ?_;intro K hK|apply hK;clear hK K|refine stn ?_|(with_reducible first|refine⟨_,a16 _ _,?_⟩|refine⟨_,a1p _ _,?_⟩)|refine stq ?_|clear hK K)
  all_goals(refine a0m ?_;simp only[a2O,a1E,q,zaa,zab])
mutual
def valC:Val→Val→Int
 |⟨kind,num,text,kids,keys,ents,labels⟩,b=>a1E (a5Q kind b.kind) (a1E (a5Q num b.num) (a1E (Lib.compareBytes text b.text) (a1E (a0Q a2O keys b.keys) (a1E (bif decide (a5Q kids.length b.kids.length=0) then b5s kids b.kids else a5Q kids.length b.kids.length)
  (a1E (bif decide (a5Q ents.length b.ents.length=0) then b6W ents b.ents else a5Q ents.length b.ents.length) (a0Q Lib.compareBytes labels b.labels))))))
def b5s:List Val→List Val→Int
 |[],_=>0
 |x::a,l=>match l with
  |[]=>0
  |y::b=>bif decide (valC x y=0) then b5s a b else valC x y
def a7H:List Val×Bool×Val→List Val×Bool×Val→Int
  |(args,fails,result),e=>a1E (bif decide (a5Q args.length e.1.length=0) then b5s args e.1 else a5Q args.length e.1.length) (bif (fails==e.2.1) then valC result e.2.2 else (bif fails then -1 else 1))
def b6W:List (List Val×Bool×Val)→List (List Val×Bool×Val)→Int
 |[],_=>0
 |x::a,l=>match l with
  |[]=>0
  |y::b=>bif decide (a7H x y=0) then b6W a b else a7H x y
end
theorem b3U:∀ a b:List Val,b5s a b=a1D valC a b
  |[],b=>by cases b<;>simp only[b5s,b6W,a1D]
  |x::a,[]=>by simp only[b5s,a1D]
  |x::a,y::b=>by simp only[b5s,a1D,b3U a b]
theorem b8i:∀ a b:List (List Val×Bool×Val),b6W a b=a1D a7H a b
  |[],b=>by cases b<;>simp only[b5s,b6W,a1D]
  |x::a,[]=>by simp only[b6W,a1D]
  |x::a,y::b=>by simp only[b6W,a1D,b8i a b]
theorem a7a (a b:Val):valC a b=a1E (a5Q a.kind b.kind) (a1E (a5Q a.num b.num) (a1E (Lib.compareBytes a.text b.text) (a1E (a0Q a2O a.keys b.keys) (a1E (a0Q valC a.kids b.kids) (a1E (a0Q a7H a.ents b.ents) (a0Q Lib.compareBytes a.labels b.labels)))))):=by
  cases a;simp only[valC,b3U,b8i,a0Q]
theorem a7b (a b:List Val×Bool×Val):a7H a b=a1E (a0Q valC a.1 b.1) (bif (a.2.1==b.2.1) then valC a.2.2 b.2.2 else (bif a.2.1 then -1 else 1)):=by
  obtain⟨x,y,z⟩:=a;simp only[a7H,b3U,a0Q]
theorem a1O (a b:List Val) (h:∀ x∈a,∀ y,PC zP 268 [.st (a0c x), .st (a0c y)] (I .i64 (valC x y))):
  PC zP 267 [.one (.dat (.sl 7 (a.map a0c))), .one (.dat (.sl 7 (b.map a0c)))] (I .i64 (a0Q valC a b)):=by
 refine PCB.ob Tryz.func267 Tryz.ntmps267 Tryz.results267 ?_
 repeat'(first|simp only[go_sem]<;>refine nf ?_|refine stp ?_;intro K hK|apply hK;clear hK K|refine stn ?_|(with_reducible refine⟨_,c12 268 valC a b (fun x hx y _=>h x hx y),?_⟩)|refine stq ?_|fail)
 all_goals(first|exact fun _ h=>absurd h zaf|refine a0m ?_)
 all_goals rfl
theorem a6s (a b:List Val×Bool×Val) (h:∀ x∈a.1,∀ y,PC zP 268 [.st (a0c x), .st (a0c y)] (I .i64 (valC x y))) (h2:∀ y,PC zP 268 [.st (a0c a.2.2), .st (a0c y)] (I .i64 (valC a.2.2 y))):
  PC zP 254 [.st (a0n a), .st (a0n b)] (I .i64 (a7H a b)):=by
 refine PCB.ob Tryz.func254 Tryz.ntmps254 Tryz.results254 ?_
 have h3:=h2 b.2.2
 rw[a0a,a0a] at h3
 cases h0:decide (a0Q valC a.1 b.1=0)
 ·
  repeat'(first|simp only[go_sem,a0A,h0]<;>refine nf ?_|refine stp ?_;intro K hK|apply hK;clear hK K|refine stn ?_|(with_reducible refine⟨_,a1O a.1 b.1 h,?_⟩)|refine stq ?_|clear hK K)
  all_goals(refine a0m ?_;simp only[a7b,a1E,h0,zaa,zab])
 cases hd:(a.2.1==b.2.1)
 ·cases hf:a.2.1
  ·
   rw[hf] at hd
   repeat'(first|simp only[go_sem,a0A,h0,hd,hf]<;>refine nf ?_|refine stp ?_;intro K hK|apply hK;clear hK K|refine stn ?_|(with_reducible refine⟨_,a1O a.1 b.1 h,?_⟩)|refine stq ?_|clear hK K)
   all_goals(refine a0m ?_;simp only[a7b,a1E,h0,hd,hf,zaa,zab,zat,zar])
  ·
   rw[hf] at hd
   repeat'(first|simp only[go_sem,a0A,h0,hd,hf]<;>refine nf ?_|refine stp ?_;intro K hK|apply hK;clear hK K|refine stn ?_|(with_reducible refine⟨_,a1O a.1 b.1 h,?_⟩)|refine stq ?_|clear hK K)
   all_goals(refine a0m ?_;simp only[a7b,a1E,h0,hd,hf,zaa,zab,zat,zar])
 ·
  repeat'(first|simp only[go_sem,a0A,h0,hd]<;>refine nf ?_|refine stp ?_;intro K hK|apply hK;clear hK K|refine stn ?_|(with_reducible first|refine⟨_,a1O a.1 b.1 h,?_⟩|refine⟨_,h3,?_⟩)|refine stq ?_|fail)
  all_goals(refine a0m ?_;simp only[a7b,a1E,h0,hd,zaa,zab,zat,zar])
theorem a5S (a b:Val):PC zP 268 [.st (a0c a), .st (a0c b)] (I .i64 (valC a b)):=by
 have hk:∀ x∈a.kids,∀ y,PC zP 268 [.st (a0c x), .st (a0c y)] (I .i64 (valC x y)):=fun x hx y=>a5S x y
 have he:∀ e∈a.ents,∀ y,PC zP 254 [.st (a0n e), .st (a0n y)] (I .i64 (a7H e y)):=fun e he y=>a6s e y (fun x hx y=>a5S x y) (fun y=>a5S e.2.2 y)
 refine PCB.ob Tryz.func268 Tryz.ntmps268 Tryz.results268 ?_
 cases z1:decide (a5Q a.kind b.kind=0)
 ·
  repeat'(first|simp only[go_sem,a0a,z1]<;>refine nf ?_|refine stp ?_;intro K hK|apply hK;clear hK K|refine stn ?_|(with_reducible refine⟨_,a16 _ _,?_⟩)|refine stq ?_|clear hK K)
  all_goals(refine a0m ?_;simp only[a7a,a1E,z1,zaa,zab])
 cases z2:decide (a5Q a.num b.num=0)
 ·
  repeat'(first|simp only[go_sem,a0a,z1,z2]<;>refine nf ?_|refine stp ?_;intro K hK|apply hK;clear hK K|refine stn ?_|(with_reducible first|refine⟨_,a16 _ _,?_⟩|refine⟨_,a3R _ _,?_⟩)|refine stq ?_|clear hK K)
  all_goals(refine a0m ?_;simp only[a7a,a1E,z1,z2,zaa,zab])
 cases z3:decide (Lib.compareBytes a.text b.text=0)
 ·
  repeat'(first|simp only[go_sem,a0a,z1,z2,z3]<;>refine nf ?_|refine stp ?_;intro K hK|apply hK;clear hK K|refine stn ?_|(with_reducible first|refine⟨_,a16 _ _,?_⟩|refine⟨_,a3R _ _,?_⟩|refine⟨_,a1p _ _,?_⟩)|refine stq ?_|clear hK K)
  all_goals(refine a0m ?_;simp only[a7a,a1E,z1,z2,z3,zaa,zab])
 cases z4:decide (a0Q a2O a.keys b.keys=0)
 ·
  repeat'(first|simp only[go_sem,a0a,z1,z2,z3,z4]<;>refine nf ?_|refine stp ?_;intro K hK|apply hK;clear hK K|refine stn ?_|(with_reducible first|refine⟨_,a16 _ _,?_⟩|refine⟨_,a3R _ _,?_⟩|refine⟨_,a1p _ _,?_⟩|refine⟨_,a8V 236 a2O a.keys b.keys (fun x _ y _=>a1i x y),?_⟩)|refine stq ?_|clear hK K)
  all_goals(refine a0m ?_;simp only[a7a,a1E,z1,z2,z3,z4,zaa,zab])
 cases z5:decide (a0Q valC a.kids b.kids=0)
 ·
  repeat'(first|simp only[go_sem,a0a,z1,z2,z3,z4,z5]<;>refine nf ?_|refine stp ?_;intro K hK|apply hK;clear hK K|refine stn ?_|(with_reducible first|refine⟨_,a16 _ _,?_⟩|refine⟨_,a3R _ _,?_⟩|refine⟨_,a1p _ _,?_⟩|refine⟨_,a8V 236 a2O a.keys b.keys (fun x _ y _=>a1i x y),?_⟩|refine⟨_,a1O a.kids b.kids hk,?_⟩)|refine stq ?_|clear hK K)
  all_goals(refine a0m ?_;simp only[a7a,a1E,z1,z2,z3,z4,z5,zaa,zab])
 cases z6:decide (a0Q a7H a.ents b.ents=0)
 ·
  repeat'(first|simp only[go_sem,a0a,z1,z2,z3,z4,z5,z6]<;>refine nf ?_|refine stp ?_;intro K hK|apply hK;clear hK K|refine stn ?_|(with_reducible first|refine⟨_,a16 _ _,?_⟩|refine⟨_,a3R _ _,?_⟩|refine⟨_,a1p _ _,?_⟩|refine⟨_,a8V 236 a2O a.keys b.keys (fun x _ y _=>a1i x y),?_⟩|refine⟨_,a1O a.kids b.kids hk,?_⟩|refine⟨_,b5k 254 a7H a.ents b.ents (fun x hx y _=>he x hx y),?_⟩)|refine stq ?_|clear hK K)
  all_goals(refine a0m ?_;simp only[a7a,a1E,z1,z2,z3,z4,z5,z6,zaa,zab])
 repeat'(first|simp only[go_sem,a0a,z1,z2,z3,z4,z5,z6]<;>refine nf ?_|refine stp ?_;intro K hK|apply hK;clear hK K|refine stn ?_|(with_reducible first|refine⟨_,a16 _ _,?_⟩|refine⟨_,a3R _ _,?_⟩|refine⟨_,a1p _ _,?_⟩|refine⟨_,a8V 236 a2O a.keys b.keys (fun x _ y _=>a1i x y),?_⟩|refine⟨_,a1O a.kids b.kids hk,?_⟩|refine⟨_,b5k 254 a7H a.ents b.ents (fun x hx y _=>he x hx y),?_⟩|refine⟨_,c13 251 Lib.compareBytes a.labels b.labels (fun x _ y _=>a1p x y),?_⟩)|refine stq ?_|fail)
 all_goals(refine a0m ?_;simp only[a7a,a1E,z1,z2,z3,z4,z5,z6,zaa,zab])
termination_by SizeOf.sizeOf a
decreasing_by
  · cases a;simp only at hx;have:=zc0 hx;simp;omega
  · cases a;simp only at he;have h1:=zc0 he;have h2:=zc0 hx;obtain⟨e1,e2,e3⟩:=e;simp at h1 h2 ⊢; omega
  · cases a;simp only at he;have h1:=zc0 he;obtain⟨e1,e2,e3⟩:=e;simp at h1 ⊢; omega
theorem c8a (a b:Val):PC zP 279 [.st (a0c a), .st (a0c b)] (Bo (decide (valC a b=0))):=by
  refine PCB.ob Tryz.func279 Tryz.ntmps279 Tryz.results279 ?_
  repeat'(first|simp only[go_sem]<;>refine nf ?_|refine stp ?_;intro K hK|apply hK;clear hK K|refine stn ?_|(with_reducible refine⟨_,a5S a b,?_⟩)|refine stq ?_|fail)
  all_goals(first|exact fun _ h=>absurd h zaf|refine a0m ?_)
  all_goals rfl
theorem a6k:∀ a b:List UInt8,Op.bytesLess a b=decide (Lib.compareBytes a b= -1)
 |[],[]=>by simp[Op.bytesLess,Lib.compareBytes]
 |[],_::_=>by simp[Op.bytesLess,Lib.compareBytes]
 |_::_,[]=>by simp[Op.bytesLess,Lib.compareBytes]
 |x::a,y::b=>by
  have ih:=a6k a b
  simp only[Op.bytesLess,Lib.compareBytes]
  by_cases h1:x<y
  ·simp[h1]
  ·by_cases h2:y<x
   ·have u:¬ x=y:=by intro e;subst e;exact h1 h2
    simp[h1,h2,u]
   ·have q:x=y:=UInt8.le_antisymm (UInt8.not_lt.1 h2) (UInt8.not_lt.1 h1)
    simp[h1,h2,q,ih]
theorem a9B:∀ a b:List UInt8,Lib.compareBytes a b= -1∨Lib.compareBytes a b=0∨Lib.compareBytes a b=1
 |[],[]=>by simp[Lib.compareBytes]
 |[],_::_=>by simp[Lib.compareBytes]
 |_::_,[]=>by simp[Lib.compareBytes]
 |x::a,y::b=>by
  have ih:=a9B a b
  simp only[Lib.compareBytes]
  split
  ·simp
  ·split
   ·simp
   ·exact ih
theorem b2O (a b:List UInt8):a9y a b=Lib.compareBytes a b:=by
 unfold a9y
 rw[a6k]
 have hz:= @a8Y a b
 rcases a9B a b with h|h|h
 ·simp[h]
 ·have:=hz.1 h
  simp[h,this]
  have h2:=(@a8Y b b).2 rfl
  simp[h2]
 ·have:¬ a=b:=fun e=>by have:=hz.2 e;omega
  simp[h,this]
theorem b5t (a b:KeyD):a8T a b=a2O a b:=by
 unfold a8T a2O a1E
 rw[b2O]
 have:decide (a5Q a.kind b.kind=0)=decide (a.kind=b.kind):=by
  rw[← zbj];simp[a4f]
 rw[this]
 cases decide (a.kind=b.kind)<;>rfl
theorem b1y (a b:List UInt8):PC zP 146 [S a,S b] (I .i64 (Lib.compareBytes a b)):=by
  rw[← b2O];exact c5B a b
theorem b2P (a b:Int):PC zP 145 [I .i64 a,I .i64 b] (I .i64 (a5Q a b)):=c1Z a b
theorem a5T (a b:KeyD):PC zP 86 [.st (a0i a), .st (a0i b)] (I .i64 (a2O a b)):=by
  rw[← b5t];exact a8U a b
theorem b1z (a b:Int):PC zP 243 [I .i64 a,I .i64 b] (I .i64 (a5Q a b)):=by
  refine PCB.ob Tryz.func243 Tryz.ntmps243 Tryz.results243 ?_
  repeat'(first|simp only[go_sem]<;>refine nf ?_|refine stp ?_;intro K hK|apply hK;clear hK K|refine stn ?_|(with_reducible refine⟨_,b2P _ _,?_⟩)|refine stq ?_|fail)
  all_goals(first|exact fun _ h=>absurd h zaf|refine a0m ?_)
  all_goals rfl
theorem a6l {α:Type} {f:α→α→Int} {a b:List α} {k:Nat} {x y:α} (hx:a[k]?= some x) (hy:b[k]?= some y):
  a1D f (a.drop k) (b.drop k)=bif decide (f x y=0) then a1D f (a.drop (k+1)) (b.drop (k+1)) else f x y:=by
 have h1:=(zak.1 hx)
 have h2:=(zak.1 hy)
 obtain⟨h1,e1⟩:=h1
 obtain⟨h2,e2⟩:=h2
 rw[za8 h1,za8 h2,e1,e2]
 rfl
theorem a7I {α:Type} {f:α→α→Int} {a b:List α}:a1D f (a.drop a.length) (b.drop a.length)=0:=by
  rw[zbw];exact a5R f _
theorem b3V {a b:Nat}:decide (a5Q (a:Int) (b:Int)=0)=decide ((a:Int)=(b:Int)):=by
  rw[← zbj];simp[a4f]
theorem a3i (a b:List Val) (hh:∀ x∈a,∀ y,PC zP 207 [.st (a0c x), .st (a0c y)] (I .i64 (valC x y))):
  PC zP 208 [.one (.dat (.sl 7 (a.map a0c))), .one (.dat (.sl 7 (b.map a0c)))] (I .i64 (a0Q valC a b)):=by
 unfold a0Q
 rw[b3V]
 refine PCB.ob Tryz.func208 Tryz.ntmps208 Tryz.results208 ?_
 cases hl:decide ((a.length:Int)=(b.length:Int)) with
 |false=>
  repeat'(first|simp only[go_sem,lB,hl]<;>refine nf ?_|refine stp ?_;intro K hK|apply hK;clear hK K|refine stn ?_|(with_reducible refine⟨_,b1z _ _,?_⟩)|refine stq ?_|clear hK K)
  all_goals(first|exact fun _ h=>absurd h zaf|refine a0m ?_)
  all_goals rfl
 |true=>
  have ae:a.length=b.length:=by have:=of_decide_eq_true hl;omega
  repeat'(first|simp only[go_sem,lB,hl]<;>refine nf ?_|refine stp ?_;intro K hK|apply hK;clear hK K|refine stn ?_|fail)
  refine xF 0 rfl fun u=>?_
  (try rw[lB] at u)
  refine xC (S:=Unit) (a) a0c (fun k s=>(5,I .i64 (k:Nat))::[]) (fun k s=>[]) [0,1] [] (fun k s=>a1D valC a b=a1D valC (a.drop k) (b.drop k)) (()) (by refine sts ?_;exact Gh.tt []) ?_ ?_ ?_
  ·rfl
  ·intro k s x ad hx aa hb q
   refine sts ?_
   obtain⟨y,hy,ab,_,_⟩:=a1A (enc:=a0c) (show k<b.length by omega)
   rw[a6l hx hy] at q
   cases hz:decide (valC x y=0)<;>simp only[hz,zaa,zab] at q
   ·
    repeat'(first|simp only[go_sem,lB,hb,hz]<;>refine nf ?_|refine stp ?_;intro K hK|apply hK;clear hK K|refine stn ?_|(with_reducible first|refine⟨_,hh x (lP hx) y,?_⟩|refine⟨by omega,a0c x,aa,?_⟩|refine⟨by omega,a0c y,ab,?_⟩)|(refine a0J ?_;intro K hK)|clear hK K)
    all_goals(refine a0m ?_;rw[q])
   ·
    repeat'(first|simp only[go_sem,lB,hb,hz]<;>refine nf ?_|refine stp ?_;intro K hK|apply hK;clear hK K|refine stn ?_|(with_reducible first|refine⟨_,hh x (lP hx) y,?_⟩|refine⟨by omega,a0c x,aa,?_⟩|refine⟨by omega,a0c y,ab,?_⟩)|(refine a0J ?_;intro K hK)|clear hK K)
    all_goals(rw[a0b ad u])
    all_goals(refine⟨(),?_,Gh.tt []⟩)
    all_goals exact q
  ·intro s hb q
   refine sts ?_
   rw[a7I] at q
   repeat'(first|simp only[go_sem,lB,hb]<;>refine nf ?_|refine stp ?_;intro K hK|apply hK;clear hK K|refine stn ?_|clear hK K)
   all_goals(refine a0m ?_;rw[q])
theorem a7c (a b:List Val×Bool×Val) (hh:∀ x∈a.1,∀ y,PC zP 207 [.st (a0c x), .st (a0c y)] (I .i64 (valC x y))) (h2:∀ y,PC zP 207 [.st (a0c a.2.2), .st (a0c y)] (I .i64 (valC a.2.2 y))):
  PC zP 149 [.st (a0n a), .st (a0n b)] (I .i64 (a7H a b)):=by
 have h3:=h2 b.2.2
 rw[a0a,a0a] at h3
 refine PCB.ob Tryz.func149 Tryz.ntmps149 Tryz.results149 ?_
 cases h0:decide (a0Q valC a.1 b.1=0)
 ·
  repeat'(first|simp only[go_sem,a0A,h0]<;>refine nf ?_|refine stp ?_;intro K hK|apply hK;clear hK K|refine stn ?_|(with_reducible refine⟨_,a3i a.1 b.1 hh,?_⟩)|refine stq ?_|clear hK K)
  all_goals(refine a0m ?_;simp only[a7b,a1E,h0,zaa,zab])
 cases hd:(a.2.1==b.2.1)
 ·cases hf:a.2.1
  ·
   rw[hf] at hd
   repeat'(first|simp only[go_sem,a0A,h0,hd,hf]<;>refine nf ?_|refine stp ?_;intro K hK|apply hK;clear hK K|refine stn ?_|(with_reducible refine⟨_,a3i a.1 b.1 hh,?_⟩)|refine stq ?_|clear hK K)
   all_goals(refine a0m ?_;simp only[a7b,a1E,h0,hd,hf,zaa,zab,zat,zar])
  ·
   rw[hf] at hd
   repeat'(first|simp only[go_sem,a0A,h0,hd,hf]<;>refine nf ?_|refine stp ?_;intro K hK|apply hK;clear hK K|refine stn ?_|(with_reducible refine⟨_,a3i a.1 b.1 hh,?_⟩)|refine stq ?_|clear hK K)
   all_goals(refine a0m ?_;simp only[a7b,a1E,h0,hd,hf,zaa,zab,zat,zar])
 ·
  repeat'(first|simp only[go_sem,a0A,h0,hd]<;>refine nf ?_|refine stp ?_;intro K hK|apply hK;clear hK K|refine stn ?_|(with_reducible first|refine⟨_,a3i a.1 b.1 hh,?_⟩|refine⟨_,h3,?_⟩)|refine stq ?_|fail)
  all_goals(refine a0m ?_;simp only[a7b,a1E,h0,hd,zaa,zab,zat,zar])
theorem b3W {a b:Int}:decide (a5Q a b=0)=decide (a=b):=by
  rw[← zbj];simp[a4f]
theorem c4u {a b:List UInt8}:decide (Lib.compareBytes a b=0)=decide (a=b):=by
  rw[← zbj];simp[a8Y]
theorem a2l (a b:Val):PC zP 207 [.st (a0c a), .st (a0c b)] (I .i64 (valC a b)):=by
 have hk:∀ x∈a.kids,∀ y,PC zP 207 [.st (a0c x), .st (a0c y)] (I .i64 (valC x y)):=fun x hx y=>a2l x y
 have he:∀ e∈a.ents,∀ y,PC zP 149 [.st (a0n e), .st (a0n y)] (I .i64 (a7H e y)):=fun e he y=>a7c e y (fun x hx y=>a2l x y) (fun y=>a2l e.2.2 y)
 have hm:=a7a a b
 simp only[a1E,a0Q,b3W,c4u] at hm
 refine PCB.ob Tryz.func207 Tryz.ntmps207 Tryz.results207 ?_
 cases z1:decide (a.kind=b.kind)
 ·
  repeat'(first|simp only[go_sem,a0a,z1]<;>refine nf ?_|refine stp ?_;intro K hK|apply hK;clear hK K|refine stn ?_|(with_reducible refine⟨_,b1z _ _,?_⟩)|refine stq ?_|clear hK K)
  all_goals(refine a0m ?_;simp only[hm,z1,zaa,zab])
 cases z2:decide (a.num=b.num)
 ·
  repeat'(first|simp only[go_sem,a0a,z1,z2]<;>refine nf ?_|refine stp ?_;intro K hK|apply hK;clear hK K|refine stn ?_|(with_reducible refine⟨_,b2P _ _,?_⟩)|refine stq ?_|clear hK K)
  all_goals(refine a0m ?_;simp only[hm,z1,z2,zaa,zab])
 cases z3:decide (a.text=b.text)
 ·
  repeat'(first|simp only[go_sem,a0a,z1,z2,z3]<;>refine nf ?_|refine stp ?_;intro K hK|apply hK;clear hK K|refine stn ?_|(with_reducible refine⟨_,b1y _ _,?_⟩)|refine stq ?_|clear hK K)
  all_goals(refine a0m ?_;simp only[hm,z1,z2,z3,zaa,zab])
 cases z4:decide ((a.keys.length:Int)=(b.keys.length:Int))
 ·
  repeat'(first|simp only[go_sem,a0a,z1,z2,z3,z4,lB]<;>refine nf ?_|refine stp ?_;intro K hK|apply hK;clear hK K|refine stn ?_|(with_reducible refine⟨_,b1z _ _,?_⟩)|refine stq ?_|clear hK K)
  all_goals(refine a0m ?_;simp only[hm,z1,z2,z3,z4,zaa,zab])
  all_goals(simp only[b3W,z4,zab])
 have l4:a.keys.length=b.keys.length:=by have:=of_decide_eq_true z4;omega
 repeat'(first|simp only[go_sem,a0a,z1,z2,z3,z4,lB]<;>refine nf ?_|refine stp ?_;intro K hK|apply hK;clear hK K|refine stn ?_|fail)
 refine AWP.lenB 2 4 rfl rfl fun ag=>?_
 (try rw[lB] at ag)
 refine xC (S:=Unit) (a.keys) a0i (fun k s=>(5,I .i64 (k:Nat))::[]) (fun k s=>[]) [2,3] [2,3] (fun k s=>a1D a2O a.keys b.keys=a1D a2O (a.keys.drop k) (b.keys.drop k)) (()) (by refine sts ?_;exact Gh.tt []) ?_ ?_ ?_
 ·rfl
 ·intro k s x ai hx ab hb q
  refine sts ?_
  obtain⟨y,hy,ad,_,_⟩:=a1A (enc:=a0i) (show k<b.keys.length by omega)
  rw[a6l hx hy] at q
  cases hz:decide (a2O x y=0)<;>simp only[hz,zaa,zab] at q
  ·
   repeat'(first|simp only[go_sem,a0a,lB,hb,hz]<;>refine nf ?_|refine stp ?_;intro K hK|apply hK;clear hK K|refine stn ?_|(with_reducible first|refine⟨_,a5T x y,?_⟩|refine⟨by omega,a0i x,ab,?_⟩|refine⟨by omega,a0i y,ad,?_⟩)|(refine a0J ?_;intro K hK)|clear hK K)
   all_goals(refine a0m ?_;simp only[hm,q,hz,z1,z2,z3,z4,zaa,zab])
  ·
   repeat'(first|simp only[go_sem,a0a,lB,hb,hz]<;>refine nf ?_|refine stp ?_;intro K hK|apply hK;clear hK K|refine stn ?_|(with_reducible first|refine⟨_,a5T x y,?_⟩|refine⟨by omega,a0i x,ab,?_⟩|refine⟨by omega,a0i y,ad,?_⟩)|(refine a0J ?_;intro K hK)|clear hK K)
   all_goals(rw[a0b ai ag])
   all_goals(refine⟨(),?_,Gh.tt []⟩)
   all_goals exact q
 intro s0 ak u
 refine sts ?_
 rw[a7I] at u
 cases z5:decide (a0Q valC a.kids b.kids=0)
 ·
  have aa:=z5
  unfold a0Q at aa
  rw[b3V] at aa
  repeat'(first|simp only[go_sem,a0a,z5,ak,lB]<;>refine nf ?_|refine stp ?_;intro K hK|apply hK;clear hK K|refine stn ?_|(with_reducible refine⟨_,a3i a.kids b.kids hk,?_⟩)|refine stq ?_|clear hK K)
  all_goals(refine a0m ?_;simp only[hm,z1,z2,z3,z4,u,aa,zac,zaa,zab,a0Q,b3V])
 have aa:=z5
 unfold a0Q at aa
 rw[b3V] at aa
 cases z6:decide ((a.ents.length:Int)=(b.ents.length:Int))
 ·
  repeat'(first|simp only[go_sem,a0a,z5,z6,ak,lB]<;>refine nf ?_|refine stp ?_;intro K hK|apply hK;clear hK K|refine stn ?_|(with_reducible first|refine⟨_,a3i a.kids b.kids hk,?_⟩|refine⟨_,b1z _ _,?_⟩)|refine stq ?_|clear hK K)
  all_goals(refine a0m ?_;simp only[hm,z1,z2,z3,z4,u,aa,z6,zac,zaa,zab,b3W])
 have l6:a.ents.length=b.ents.length:=by have:=of_decide_eq_true z6;omega
 repeat'(first|simp only[go_sem,a0a,z5,z6,ak,lB]<;>refine nf ?_|refine stp ?_;intro K hK|apply hK;clear hK K|refine stn ?_|(with_reducible refine⟨_,a3i a.kids b.kids hk,?_⟩)|refine stq ?_|clear hK K)
 refine AWP.lenB 2 5 rfl rfl fun af=>?_
 (try rw[lB] at af)
 refine xC (S:=Unit) (a.ents) a0n (fun k s=>(8,I .i64 (k:Nat))::[]) (fun k s=>[]) [2,3] [2,3] (fun k s=>a1D a7H a.ents b.ents=a1D a7H (a.ents.drop k) (b.ents.drop k)) (()) (by refine sts ?_;exact Gh.tt []) ?_ ?_ ?_
 ·rfl
 ·intro k s x ai hx ab hb q
  refine sts ?_
  obtain⟨y,hy,ad,_,_⟩:=a1A (enc:=a0n) (show k<b.ents.length by omega)
  rw[a6l hx hy] at q
  cases hz:decide (a7H x y=0)<;>simp only[hz,zaa,zab] at q
  ·
   repeat'(first|simp only[go_sem,a0a,lB,hb,hz]<;>refine nf ?_|refine stp ?_;intro K hK|apply hK;clear hK K|refine stn ?_|(with_reducible first|refine⟨_,he x (lP hx) y,?_⟩|refine⟨by omega,a0n x,ab,?_⟩|refine⟨by omega,a0n y,ad,?_⟩)|(refine a0J ?_;intro K hK)|clear hK K)
   all_goals(refine a0m ?_;simp only[hm,q,hz,z1,z2,z3,z4,u,aa,z6,zac,zaa,zab])
  ·
   repeat'(first|simp only[go_sem,a0a,lB,hb,hz]<;>refine nf ?_|refine stp ?_;intro K hK|apply hK;clear hK K|refine stn ?_|(with_reducible first|refine⟨_,he x (lP hx) y,?_⟩|refine⟨by omega,a0n x,ab,?_⟩|refine⟨by omega,a0n y,ad,?_⟩)|(refine a0J ?_;intro K hK)|clear hK K)
   all_goals(rw[a0b ai af])
   all_goals(refine⟨(),?_,Gh.tt []⟩)
   all_goals exact q
 intro s1 al ae
 refine sts ?_
 rw[a7I] at ae
 cases z7:decide ((a.labels.length:Int)=(b.labels.length:Int))
 ·
  repeat'(first|simp only[go_sem,a0a,z7,al,lB]<;>refine nf ?_|refine stp ?_;intro K hK|apply hK;clear hK K|refine stn ?_|(with_reducible refine⟨_,b1z _ _,?_⟩)|refine stq ?_|clear hK K)
  all_goals(refine a0m ?_;simp only[hm,z1,z2,z3,z4,u,aa,z6,ae,z7,zac,zaa,zab])
 have l7:a.labels.length=b.labels.length:=by have:=of_decide_eq_true z7;omega
 repeat'(first|simp only[go_sem,a0a,z7,al,lB]<;>refine nf ?_|refine stp ?_;intro K hK|apply hK;clear hK K|refine stn ?_|clear hK K)
 refine AWP.lenB 2 6 rfl rfl fun ah=>?_
 (try rw[lB] at ah)
 refine xC (S:=Unit) (a.labels) Sx.encStr (fun k s=>(10,I .i64 (k:Nat))::[]) (fun k s=>[]) [2,3] [2,3] (fun k s=>a1D Lib.compareBytes a.labels b.labels=a1D Lib.compareBytes (a.labels.drop k) (b.labels.drop k)) (()) (by refine sts ?_;exact Gh.tt []) ?_ ?_ ?_
 ·rfl
 ·intro k s x ai hx ab hb q
  refine sts ?_
  obtain⟨y,hy,ad,_,_⟩:=a1A (enc:=Sx.encStr) (show k<b.labels.length by omega)
  rw[a6l hx hy] at q
  cases hz:decide (Lib.compareBytes x y=0)<;>simp only[hz,zaa,zab] at q
  ·
   repeat'(first|simp only[go_sem,Sx.encStr,a0a,lB,hb,hz]<;>refine nf ?_|refine stp ?_;intro K hK|apply hK;clear hK K|refine stn ?_|(with_reducible first|refine⟨_,b1y x y,?_⟩|refine⟨by omega,Sx.encStr x,ab,?_⟩|refine⟨by omega,Sx.encStr y,ad,?_⟩)|(refine a0J ?_;intro K hK)|clear hK K)
   all_goals(refine a0m ?_;simp only[hm,q,hz,z1,z2,z3,z4,u,aa,z6,ae,z7,zac,zaa,zab])
  ·
   repeat'(first|simp only[go_sem,Sx.encStr,a0a,lB,hb,hz]<;>refine nf ?_|refine stp ?_;intro K hK|apply hK;clear hK K|refine stn ?_|(with_reducible first|refine⟨_,b1y x y,?_⟩|refine⟨by omega,Sx.encStr x,ab,?_⟩|refine⟨by omega,Sx.encStr y,ad,?_⟩)|(refine a0J ?_;intro K hK)|clear hK K)
   all_goals(rw[a0b ai ah])
   all_goals(refine⟨(),?_,Gh.tt []⟩)
   all_goals exact q
 intro s2 am aj
 refine sts ?_
 rw[a7I] at aj
 repeat'(first|simp only[go_sem,a0a,am,lB]<;>refine nf ?_|refine stp ?_;intro K hK|apply hK;clear hK K|refine stn ?_|clear hK K)
 all_goals(refine a0m ?_;simp only[hm,z1,z2,z3,z4,u,aa,z6,ae,z7,aj,zac,zaa,zab])
termination_by SizeOf.sizeOf a
decreasing_by
  · cases a;simp only at hx;have:=zc0 hx;simp;omega
  · cases a;simp only at he;have h1:=zc0 he;have h2:=zc0 hx;obtain⟨e1,e2,e3⟩:=e;simp at h1 h2 ⊢; omega
  · cases a;simp only at he;have h1:=zc0 he;obtain⟨e1,e2,e3⟩:=e;simp at h1 ⊢; omega
end Go.Proofs.YtoelgackkclcmaaGreat

namespace Go.Proofs.YtoelgackkclcmaaGreat
open Go Go.Sx
inductive Small:Dat→Prop
  |mk (d:Dat) (h1:d.kids.length≤1000000) (h2:d.keys.length≤1000000) (h:∀ k∈d.kids,Small k):Small d
theorem Small.kids {d:Dat} (h:Small d):d.kids.length≤1000000:=by cases h;assumption
theorem Small.keys {d:Dat} (h:Small d):d.keys.length≤1000000:=by cases h;assumption
theorem Small.kid {d:Dat} (h:Small d):∀ k∈d.kids,Small k:=by cases h;assumption
theorem a4y (l:List Val) (x:Val):l.map a0c++[a0c x]=(l++[x]).map a0c:=by simp
def a7L {α:Type} (f:α→α→Int):List α→Bool
 |[]=>true
 |x::l=>match l with
  |[]=>true
  |y::m=>decide (f x y<0)&&a7L f (y::m)
theorem b1A {α:Type} {f:α→α→Int} {l:List α} {k:Nat} {x y:α} (hx:l[k]?= some x) (hy:l[k+1]?= some y):a7L f (l.drop k)=(decide (f x y<0)&&a7L f (l.drop (k+1))):=by
  obtain⟨h1,e1⟩:=zak.1 hx
  obtain⟨h2,e2⟩:=zak.1 hy
  rw[za8 h1,za8 h2,e1,e2]
  rfl
theorem b3X {α:Type} {f:α→α→Int} {l:List α} {k:Nat} (h:l.length≤k+1):a7L f (l.drop k)=true:=by
  have:(l.drop k).length≤1:=by simp;omega
  match l.drop k,this with
  |[],_=>rfl
  |[x],_=>rfl
  |_::_::_,h=>simp at h
theorem c4v (g:FuncId) (f:List UInt8→List UInt8→Int) (l:List (List UInt8)) (hg:∀ x∈l,∀ y∈l,PC zP g [S x,S y] (I .i64 (f x y))):
  PC zP 250 [.one (.dat (.sl 1 (l.map Sx.encStr))), .one (.dat (.fn g))] (Bo (a7L f l)):=by
 refine PCB.ob Tryz.func250 Tryz.ntmps250 Tryz.results250 ?_
 refine xF 0 rfl fun q=>?_
 rw[lB] at q
 repeat'(first|simp only[go_sem,lB]<;>refine nf ?_|refine stp ?_;intro K hK|apply hK;clear hK K|refine stn ?_|fail)
 refine AWP.loopF (X:=Nat) (fun k=>[(5,I .i64 (k+1:Nat))]) (fun _=>[]) [0,1] [] (fun k=>k≤l.length∧a7L f l=a7L f (l.drop k)) (fun k=>l.length-k) (0) (by refine sts ?_;exact Gh.tt []) ?_ ?_
 ·exact⟨zao _,rfl⟩
 rintro k ⟨hk,hp⟩
 refine sts ?_
 by_cases ad:k+1<l.length
 ·obtain⟨y,hy,ae,hb,_⟩:=a1A (enc:=Sx.encStr) ad
  obtain⟨x,hx,aa,_,_⟩:=a1A (enc:=Sx.encStr) (show k<l.length by omega)
  have hw:IntKind.i64.wrap (((k+1:Nat):Int)-1)=(k:Int):=by rw[w64 (by omega)];omega
  have ab:=hg x (lP hx) y (lP hy)
  rw[b1A hx hy] at hp
  cases hz:decide (f x y<0)<;>simp only[hz,zae,zai] at hp
  ·have u:decide (0≤f x y)=true:=by simp at hz ⊢; omega
   repeat'(first|simp only[go_sem,lB,hb,u,hw,Sx.encStr]<;>refine nf ?_|refine stp ?_;intro K hK|apply hK;clear hK K|refine stn ?_|(with_reducible first|refine⟨_,ab,?_⟩|refine⟨by omega,Sx.encStr x,aa,?_⟩|refine⟨by omega,Sx.encStr y,ae,?_⟩)|(refine a0J ?_;intro K hK)|clear hK K)
   all_goals(first|exact lf|(refine a0m ?_;simp only[hp,zb,zaa,zab,zac,zad]<;>rfl))
  ·have u:decide (0≤f x y)=false:=by simp at hz ⊢; omega
   repeat'(first|simp only[go_sem,lB,hb,u,hw,Sx.encStr]<;>refine nf ?_|refine stp ?_;intro K hK|apply hK;clear hK K|refine stn ?_|(with_reducible first|refine⟨_,ab,?_⟩|refine⟨by omega,Sx.encStr x,aa,?_⟩|refine⟨by omega,Sx.encStr y,ae,?_⟩)|(refine a0J ?_;intro K hK)|clear hK K)
   all_goals(rw[a0b ad q])
   all_goals(refine⟨k+1,by omega,⟨by omega,hp⟩,Gh.tt []⟩)
 ·have hb:decide (((k+1:Nat):Int)<(l.length:Int))=false:=by simp;omega
  rw[b3X (by omega)] at hp
  repeat'(first|simp only[go_sem,lB,hb]<;>refine nf ?_|refine stp ?_;intro K hK|apply hK;clear hK K|refine stn ?_|clear hK K)
  all_goals(first|exact lf|(refine a0m ?_;simp only[hp,zb,zaa,zab,zac,zad]<;>rfl))
theorem c4w (g:FuncId) (f:KeyD→KeyD→Int) (l:List (KeyD)) (hg:∀ x∈l,∀ y∈l,PC zP g [T.st (a0i x),T.st (a0i y)] (I .i64 (f x y))):
  PC zP 252 [.one (.dat (.sl 2 (l.map a0i))), .one (.dat (.fn g))] (Bo (a7L f l)):=by
 refine PCB.ob Tryz.func252 Tryz.ntmps252 Tryz.results252 ?_
 refine xF 0 rfl fun q=>?_
 rw[lB] at q
 repeat'(first|simp only[go_sem,lB]<;>refine nf ?_|refine stp ?_;intro K hK|apply hK;clear hK K|refine stn ?_|fail)
 refine AWP.loopF (X:=Nat) (fun k=>[(5,I .i64 (k+1:Nat))]) (fun _=>[]) [0,1] [] (fun k=>k≤l.length∧a7L f l=a7L f (l.drop k)) (fun k=>l.length-k) (0) (by refine sts ?_;exact Gh.tt []) ?_ ?_
 ·exact⟨zao _,rfl⟩
 rintro k ⟨hk,hp⟩
 refine sts ?_
 by_cases ad:k+1<l.length
 ·obtain⟨y,hy,ae,hb,_⟩:=a1A (enc:=a0i) ad
  obtain⟨x,hx,aa,_,_⟩:=a1A (enc:=a0i) (show k<l.length by omega)
  have hw:IntKind.i64.wrap (((k+1:Nat):Int)-1)=(k:Int):=by rw[w64 (by omega)];omega
  have ab:=hg x (lP hx) y (lP hy)
  rw[b1A hx hy] at hp
  cases hz:decide (f x y<0)<;>simp only[hz,zae,zai] at hp
  ·have u:decide (0≤f x y)=true:=by simp at hz ⊢; omega
   repeat'(first|simp only[go_sem,lB,hb,u,hw,zaa]<;>refine nf ?_|refine stp ?_;intro K hK|apply hK;clear hK K|refine stn ?_|(with_reducible first|refine⟨_,ab,?_⟩|refine⟨by omega,a0i x,aa,?_⟩|refine⟨by omega,a0i y,ae,?_⟩)|(refine a0J ?_;intro K hK)|clear hK K)
   all_goals(first|exact lf|(refine a0m ?_;simp only[hp,zb,zaa,zab,zac,zad]<;>rfl))
  ·have u:decide (0≤f x y)=false:=by simp at hz ⊢; omega
   repeat'(first|simp only[go_sem,lB,hb,u,hw,zaa]<;>refine nf ?_|refine stp ?_;intro K hK|apply hK;clear hK K|refine stn ?_|(with_reducible first|refine⟨_,ab,?_⟩|refine⟨by omega,a0i x,aa,?_⟩|refine⟨by omega,a0i y,ae,?_⟩)|(refine a0J ?_;intro K hK)|clear hK K)
   all_goals(rw[a0b ad q])
   all_goals(refine⟨k+1,by omega,⟨by omega,hp⟩,Gh.tt []⟩)
 ·have hb:decide (((k+1:Nat):Int)<(l.length:Int))=false:=by simp;omega
  rw[b3X (by omega)] at hp
  repeat'(first|simp only[go_sem,lB,hb]<;>refine nf ?_|refine stp ?_;intro K hK|apply hK;clear hK K|refine stn ?_|clear hK K)
  all_goals(first|exact lf|(refine a0m ?_;simp only[hp,zb,zaa,zab,zac,zad]<;>rfl))
theorem c4x (g:FuncId) (f:List Val×Bool×Val→List Val×Bool×Val→Int) (l:List (List Val×Bool×Val)) (hg:∀ x∈l,∀ y∈l,PC zP g [T.st (a0n x),T.st (a0n y)] (I .i64 (f x y))):
  PC zP 253 [.one (.dat (.sl 9 (l.map a0n))), .one (.dat (.fn g))] (Bo (a7L f l)):=by
 refine PCB.ob Tryz.func253 Tryz.ntmps253 Tryz.results253 ?_
 refine xF 0 rfl fun q=>?_
 rw[lB] at q
 repeat'(first|simp only[go_sem,lB]<;>refine nf ?_|refine stp ?_;intro K hK|apply hK;clear hK K|refine stn ?_|fail)
 refine AWP.loopF (X:=Nat) (fun k=>[(5,I .i64 (k+1:Nat))]) (fun _=>[]) [0,1] [] (fun k=>k≤l.length∧a7L f l=a7L f (l.drop k)) (fun k=>l.length-k) (0) (by refine sts ?_;exact Gh.tt []) ?_ ?_
 ·exact⟨zao _,rfl⟩
 rintro k ⟨hk,hp⟩
 refine sts ?_
 by_cases ad:k+1<l.length
 ·obtain⟨y,hy,ae,hb,_⟩:=a1A (enc:=a0n) ad
  obtain⟨x,hx,aa,_,_⟩:=a1A (enc:=a0n) (show k<l.length by omega)
  have hw:IntKind.i64.wrap (((k+1:Nat):Int)-1)=(k:Int):=by rw[w64 (by omega)];omega
  have ab:=hg x (lP hx) y (lP hy)
  rw[b1A hx hy] at hp
  cases hz:decide (f x y<0)<;>simp only[hz,zae,zai] at hp
  ·have u:decide (0≤f x y)=true:=by simp at hz ⊢; omega
   repeat'(first|simp only[go_sem,lB,hb,u,hw,zaa]<;>refine nf ?_|refine stp ?_;intro K hK|apply hK;clear hK K|refine stn ?_|(with_reducible first|refine⟨_,ab,?_⟩|refine⟨by omega,a0n x,aa,?_⟩|refine⟨by omega,a0n y,ae,?_⟩)|(refine a0J ?_;intro K hK)|clear hK K)
   all_goals(first|exact lf|(refine a0m ?_;simp only[hp,zb,zaa,zab,zac,zad]<;>rfl))
  ·have u:decide (0≤f x y)=false:=by simp at hz ⊢; omega
   repeat'(first|simp only[go_sem,lB,hb,u,hw,zaa]<;>refine nf ?_|refine stp ?_;intro K hK|apply hK;clear hK K|refine stn ?_|(with_reducible first|refine⟨_,ab,?_⟩|refine⟨by omega,a0n x,aa,?_⟩|refine⟨by omega,a0n y,ae,?_⟩)|(refine a0J ?_;intro K hK)|clear hK K)
   all_goals(rw[a0b ad q])
   all_goals(refine⟨k+1,by omega,⟨by omega,hp⟩,Gh.tt []⟩)
 ·have hb:decide (((k+1:Nat):Int)<(l.length:Int))=false:=by simp;omega
  rw[b3X (by omega)] at hp
  repeat'(first|simp only[go_sem,lB,hb]<;>refine nf ?_|refine stp ?_;intro K hK|apply hK;clear hK K|refine stn ?_|clear hK K)
  all_goals(first|exact lf|(refine a0m ?_;simp only[hp,zb,zaa,zab,zac,zad]<;>rfl))
def a40 (l:List (List UInt8)):Bool:=a7L Lib.compareBytes l&&l.all a0X
theorem a3b {α:Type} {p:α→Bool} {l:List α} {k:Nat} {x:α} (hx:l[k]?= some x):(l.drop k).all p=(p x&&(l.drop (k+1)).all p):=by
  obtain⟨h1,e1⟩:=zak.1 hx
  rw[za8 h1,e1,List.all_cons]
theorem a4m {α:Type} {p:α→Bool} {l:List α}:(l.drop l.length).all p=true:=by rw[zbw];rfl
theorem a1w (l:List (List UInt8)):PC zP 226 [.one (.dat (.sl 1 (l.map Sx.encStr)))] (Bo (a40 l)):=by
 have h1:=c4v 251 Lib.compareBytes l (fun x _ y _=>a1p x y)
 refine PCB.ob Tryz.func226 Tryz.ntmps226 Tryz.results226 ?_
 unfold a40
 cases ha:a7L Lib.compareBytes l
 ·
  repeat'(first|simp only[go_sem,ha]<;>refine nf ?_|refine stp ?_;intro K hK|apply hK;clear hK K|refine stn ?_|(with_reducible refine⟨_,h1,?_⟩)|refine stq ?_|clear hK K)
  all_goals exact lf
 ·
  repeat'(first|simp only[go_sem,ha,lB]<;>refine nf ?_|refine stp ?_;intro K hK|apply hK;clear hK K|refine stn ?_|(with_reducible refine⟨_,h1,?_⟩)|refine stq ?_|fail)
  refine xF 8 rfl fun u=>?_
  (try rw[lB] at u)
  refine xC (S:=Unit) (l) Sx.encStr (fun k s=>(10,I .i64 (k:Nat))::[]) (fun k s=>[]) [8,9] [] (fun k s=>l.all a0X=(l.drop k).all a0X) (()) (by refine sts ?_;exact Gh.tt []) ?_ ?_ ?_
  ·rfl
  ·intro k s x ab hx aa hb q
   refine sts ?_
   rw[a3b hx] at q
   cases hz:a0X x<;>simp only[hz,zae,zai] at q
   ·
    repeat'(first|simp only[go_sem,lB,hb,hz,Sx.encStr]<;>refine nf ?_|refine stp ?_;intro K hK|apply hK;clear hK K|refine stn ?_|(with_reducible first|refine⟨_,a2M x,?_⟩|refine⟨by omega,Sx.encStr x,aa,?_⟩)|refine stq ?_|clear hK K)
    all_goals(first|exact lf|(refine a0m ?_;simp only[q,ha,zb,zaa,zab,zac,zad]<;>rfl))
   ·
    repeat'(first|simp only[go_sem,lB,hb,hz,Sx.encStr]<;>refine nf ?_|refine stp ?_;intro K hK|apply hK;clear hK K|refine stn ?_|(with_reducible first|refine⟨_,a2M x,?_⟩|refine⟨by omega,Sx.encStr x,aa,?_⟩)|refine stq ?_|clear hK K)
    all_goals(rw[a0b ab u])
    all_goals(refine⟨(),?_,Gh.tt []⟩)
    all_goals exact q
  ·intro s hb q
   refine sts ?_
   rw[a4m] at q
   repeat'(first|simp only[go_sem,lB,hb]<;>refine nf ?_|refine stp ?_;intro K hK|apply hK;clear hK K|refine stn ?_|clear hK K)
   all_goals(first|exact lf|(refine a0m ?_;simp only[q,ha,zb,zaa,zab,zac,zad]<;>rfl))
def c5E (v:Val):Bool:=decide ((v.keys.length:Int)=(v.kids.length:Int))&&(a7L a2O v.keys&&v.keys.all a0l)
theorem b9s (v:Val):PC zP 227 [.st (a0c v)] (Bo (c5E v)):=by
 have h1:=c4w 236 a2O v.keys (fun x _ y _=>a1i x y)
 refine PCB.ob Tryz.func227 Tryz.ntmps227 Tryz.results227 ?_
 unfold c5E
 cases hl:decide ((v.keys.length:Int)=(v.kids.length:Int))
 ·
  repeat'(first|simp only[go_sem,a0a,hl,lB]<;>refine nf ?_|refine stp ?_;intro K hK|apply hK;clear hK K|refine stn ?_|clear hK K)
  all_goals exact lf
 cases ha:a7L a2O v.keys
 ·
  repeat'(first|simp only[go_sem,a0a,hl,ha,lB]<;>refine nf ?_|refine stp ?_;intro K hK|apply hK;clear hK K|refine stn ?_|(with_reducible refine⟨_,h1,?_⟩)|refine stq ?_|clear hK K)
  all_goals exact lf
 ·
  repeat'(first|simp only[go_sem,a0a,hl,ha,lB]<;>refine nf ?_|refine stp ?_;intro K hK|apply hK;clear hK K|refine stn ?_|(with_reducible refine⟨_,h1,?_⟩)|refine stq ?_|fail)
  refine xF 19 rfl fun u=>?_
  (try rw[lB] at u)
  refine xC (S:=Unit) (v.keys) a0i (fun k s=>(21,I .i64 (k:Nat))::[]) (fun k s=>[]) [19,20] [] (fun k s=>v.keys.all a0l=(v.keys.drop k).all a0l) (()) (by refine sts ?_;exact Gh.tt []) ?_ ?_ ?_
  ·rfl
  ·intro k s x ab hx aa hb q
   refine sts ?_
   rw[a3b hx] at q
   cases hz:a0l x<;>simp only[hz,zae,zai] at q
   ·
    repeat'(first|simp only[go_sem,lB,hb,hz]<;>refine nf ?_|refine stp ?_;intro K hK|apply hK;clear hK K|refine stn ?_|(with_reducible first|refine⟨_,a2e x,?_⟩|refine⟨by omega,a0i x,aa,?_⟩)|refine stq ?_|clear hK K)
    all_goals(first|exact lf|(refine a0m ?_;simp only[q,ha,zb,zaa,zab,zac,zad]<;>rfl))
   ·
    repeat'(first|simp only[go_sem,lB,hb,hz]<;>refine nf ?_|refine stp ?_;intro K hK|apply hK;clear hK K|refine stn ?_|(with_reducible first|refine⟨_,a2e x,?_⟩|refine⟨by omega,a0i x,aa,?_⟩)|refine stq ?_|clear hK K)
    all_goals(rw[a0b ab u])
    all_goals(refine⟨(),?_,Gh.tt []⟩)
    all_goals exact q
  ·intro s hb q
   refine sts ?_
   rw[a4m] at q
   repeat'(first|simp only[go_sem,lB,hb]<;>refine nf ?_|refine stp ?_;intro K hK|apply hK;clear hK K|refine stn ?_|clear hK K)
   all_goals(first|exact lf|(refine a0m ?_;simp only[q,ha,zb,zaa,zab,zac,zad]<;>rfl))
def a2f:Val:=⟨0,0,[],[],[],[],[]⟩
theorem a42:a0c a2f=[.int .i64 0, .int .i64 0, .str [], .sl 7 [], .sl 2 [], .sl 9 [], .sl 1 []]:=by rw[a0a];rfl
def a7d (v:Val):Bool:=decide (valC v a2f=0)
theorem c4y (v:Val):PC zP 269 [.st (a0c v)] (Bo (a7d v)):=by
  have h1:=c8a v a2f
  rw[a42] at h1
  refine PCB.ob Tryz.func269 Tryz.ntmps269 Tryz.results269 ?_
  repeat'(first|simp only[go_sem]<;>refine nf ?_|refine stp ?_;intro K hK|apply hK;clear hK K|refine stn ?_|(with_reducible refine⟨_,h1,?_⟩)|refine stq ?_|fail)
  all_goals(first|exact fun _ h=>absurd h zaf|refine a0m ?_)
  all_goals rfl
def b5B (e:List Val×Bool×Val) (n:Int):Bool:=decide ((e.1.length:Int)=n)&&(!e.2.1||a7d e.2.2)
theorem a9U (e:List Val×Bool×Val) (n:Int):PC zP 255 [.st (a0n e),I .i64 n] (Bo (b5B e n)):=by
 have h1:=c4y e.2.2
 rw[a0a] at h1
 refine PCB.ob Tryz.func255 Tryz.ntmps255 Tryz.results255 ?_
 unfold b5B
 cases hl:decide ((e.1.length:Int)=n)<;>cases hf:e.2.1
 all_goals
  repeat'(first|simp only[go_sem,a0A,hl,hf,lB]<;>refine nf ?_|refine stp ?_;intro K hK|apply hK;clear hK K|refine stn ?_|(with_reducible refine⟨_,h1,?_⟩)|refine stq ?_|fail)
 all_goals exact lf
def c8O (v:Val):Bool:=!(decide (v.num<0)||(decide (4<v.num)||!a7L a7H v.ents))&&v.ents.all fun e=>b5B e v.num
theorem b1B (v:Val):PC zP 228 [.st (a0c v)] (Bo (c8O v)):=by
 have h1:=c4x 254 a7H v.ents (fun x _ y _=>a6s x y (fun a _ b=>a5S a b) (fun b=>a5S _ b))
 refine PCB.ob Tryz.func228 Tryz.ntmps228 Tryz.results228 ?_
 unfold c8O
 cases hn:decide (v.num<0)
 ·cases hm:decide (4<v.num)
  ·cases ha:a7L a7H v.ents
   ·
    repeat'(first|simp only[go_sem,a0a,hn,hm,ha,lB]<;>refine nf ?_|refine stp ?_;intro K hK|apply hK;clear hK K|refine stn ?_|(with_reducible refine⟨_,h1,?_⟩)|refine stq ?_|clear hK K)
    all_goals exact lf
   ·
    repeat'(first|simp only[go_sem,a0a,hn,hm,ha,lB]<;>refine nf ?_|refine stp ?_;intro K hK|apply hK;clear hK K|refine stn ?_|(with_reducible refine⟨_,h1,?_⟩)|refine stq ?_|fail)
    refine xF 20 rfl fun u=>?_
    (try rw[lB] at u)
    refine xC (S:=Unit) (v.ents) a0n (fun k s=>(22,I .i64 (k:Nat))::[]) (fun k s=>[]) [1,20,21] [1] (fun k s=>(v.ents.all fun e=>b5B e v.num)=((v.ents.drop k).all fun e=>b5B e v.num)) (()) (by simp only[go_sem,a0a];exact Gh.tt []) ?_ ?_ ?_
    ·rfl
    ·intro k s x ab hx aa hb q
     refine sts ?_
     rw[a3b hx] at q
     cases hz:b5B x v.num<;>simp only[hz,zae,zai] at q
     ·
      repeat'(first|simp only[go_sem,lB,hb,hz,a0a]<;>refine nf ?_|refine stp ?_;intro K hK|apply hK;clear hK K|refine stn ?_|(with_reducible first|refine⟨_,a9U x v.num,?_⟩|refine⟨by omega,a0n x,aa,?_⟩)|refine stq ?_|clear hK K)
      all_goals(first|exact lf|(refine a0m ?_;simp only[q,ha,zb,zaa,zab,zac,zad]<;>rfl))
     ·
      repeat'(first|simp only[go_sem,lB,hb,hz,a0a]<;>refine nf ?_|refine stp ?_;intro K hK|apply hK;clear hK K|refine stn ?_|(with_reducible first|refine⟨_,a9U x v.num,?_⟩|refine⟨by omega,a0n x,aa,?_⟩)|refine stq ?_|clear hK K)
      all_goals(rw[a0b ab u])
      all_goals(refine⟨(),?_,Gh.tt []⟩)
      all_goals exact q
    ·intro s hb q
     refine sts ?_
     rw[a4m] at q
     repeat'(first|simp only[go_sem,lB,hb]<;>refine nf ?_|refine stp ?_;intro K hK|apply hK;clear hK K|refine stn ?_|clear hK K)
     all_goals(first|exact lf|(refine a0m ?_;simp only[q,ha,zb,zaa,zab,zac,zad]<;>rfl))
  ·
   repeat'(first|simp only[go_sem,a0a,hn,hm]<;>refine nf ?_|refine stp ?_;intro K hK|apply hK;clear hK K|refine stn ?_|clear hK K)
   all_goals exact lf
 ·
  repeat'(first|simp only[go_sem,a0a,hn]<;>refine nf ?_|refine stp ?_;intro K hK|apply hK;clear hK K|refine stn ?_|clear hK K)
  all_goals exact lf
mutual
def a2q:Val→Nat
  |⟨_,_,_,kids,keys,ents,labels⟩=>1+a20 kids+keys.length+a4p ents+labels.length
def a20:List Val→Nat
  |[]=>0
  |v::l=>a2q v+a20 l
def b9t:List Val×Bool×Val→Nat
  |(a,_,r)=>1+a20 a+a2q r
def a4p:List (List Val×Bool×Val)→Nat
  |[]=>0
  |e::l=>b9t e+a4p l
end
theorem a3E (v:Val):a2q v=1+a20 v.kids+v.keys.length+a4p v.ents+v.labels.length:=by cases v;simp only[a2q]
theorem a7J (e:List Val×Bool×Val):b9t e=1+a20 e.1+a2q e.2.2:=by obtain⟨a,f,r⟩:=e;simp only[b9t]
theorem b1C (v:Val):1≤a2q v:=by rw[a3E];omega
theorem a4H:∀ l:List Val,l.length≤a20 l
  |[]=>by simp[a20]
  |v::l=>by have:=a4H l;have:=b1C v;simp only[a20,List.length_cons];omega
theorem a4I:∀ {l:List Val} {v:Val},v∈l→a2q v≤a20 l
 |w::l,v,h=>by
  simp only[a20]
  rcases zal.1 h with rfl|h
  ·omega
  ·have:=a4I h;omega
theorem b2Q:∀ l:List (List Val×Bool×Val),l.length≤a4p l
  |[]=>by simp[a4p]
  |e::l=>by have:=b2Q l;have:=a7J e;simp only[a4p,List.length_cons];omega
theorem a5U:∀ {l:List (List Val×Bool×Val)} {e:List Val×Bool×Val},e∈l→b9t e≤a4p l
 |w::l,e,h=>by
  simp only[a4p]
  rcases zal.1 h with rfl|h
  ·omega
  ·have:=a5U h;omega
theorem a4z:∀ a b:List Val,a20 (a++b)=a20 a+a20 b
  |[],b=>by simp[a20]
  |v::a,b=>by simp only[List.cons_append,a20,a4z a b];omega
abbrev Sm (v:Val):Prop:=a2q v≤100000000
theorem Sm.kids {v:Val} (h:Sm v):v.kids.length≤100000000:=by unfold Sm at h;have:=a3E v;have:=a4H v.kids;omega
theorem Sm.kid {v:Val} (h:Sm v):∀ k∈v.kids,Sm k:=fun k hk=>by unfold Sm at *; have:=a3E v;have:=a4I hk;omega
theorem Sm.keys {v:Val} (h:Sm v):v.keys.length≤100000000:=by unfold Sm at h;have:=a3E v;omega
def a8Z (e:List Val×Bool×Val):List Val:=bif e.2.1 then e.1 else e.1++[e.2.2]
def partsV (v:Val):List Val:=v.kids++v.ents.flatMap a8Z
theorem b9u (e:List Val×Bool×Val):a20 (a8Z e)≤b9t e:=by
  unfold a8Z;rw[a7J]
  cases e.2.1<;>simp only[zaa,zab,a4z,a20]<;>omega
theorem b1D:∀ l:List (List Val×Bool×Val),a20 (l.flatMap a8Z)≤a4p l
  |[]=>by simp[a20]
  |e::l=>by have:=b1D l;have:=b9u e;simp only[zck,a4z,a4p];omega
theorem b9v (v:Val):a20 (partsV v)+1≤a2q v:=by
  have:=b1D v.ents
  rw[a3E,partsV,a4z];omega
theorem a80 {v p:Val} (h:p∈partsV v):a2q p<a2q v:=by
  have:=b9v v;have:=a4I h;omega
theorem b6X (l:List Val) (hl:l.length≤100000000):PCN zP 229 [.one (.dat (.sl 7 (l.map a0c)))] (.one (.own 0 l.length)) (.row 7 (l.map a0c)):=by
 refine PCN.of_body 7 Tryz.func229 rfl (by decide) Tryz.ntmps229 Tryz.results229 rfl rfl ?_
 refine AWP.ghQ ?_
 repeat'(first|( refine AWP.nilR (e:=41) rfl (by decide) (by decide) rfl (fun q=>?_) ?_)|simp only[go_sem,lB]<;>refine nf ?_|refine stp ?_;intro K hK|apply hK;clear hK K|refine stn ?_|(with_reducible first|(refine Or.inr (show a01 _ 5 _ _ _ _ _ _ from ?_);unfold a01;with_reducible refine Or.inr ?_;simp only[a18,go_sem,lB])|refine⟨(by omega:_≤_),?_⟩)|clear hK K)
 ·refine GhQ.step (Gh.nilrow 2 7 rfl rfl rfl rfl) ?_
  refine⟨_,Gh.refl _,?_⟩
  have:l=[]:=by simpa using q
  subst this
  simp only[go_sem,za6,List.length_nil]
  first|exact⟨rfl,fun x hx=>hx⟩|exact fun x hx=>hx
 ·refine⟨_,Gh.refl _,?_⟩
  simp only[go_sem,lB]
  first|exact⟨rfl,fun x hx=>hx⟩|exact fun x hx=>hx
theorem b5u {l:List (List Val×Bool×Val)} {k:Nat} {x:List Val×Bool×Val} (hx:l[k]?= some x):(l.take (k+1)).flatMap a8Z=(l.take k).flatMap a8Z++a8Z x:=by
  rw[zb8,hx];simp
theorem c4z {l:List (List Val×Bool×Val)} (k:Nat):((l.take k).flatMap a8Z).length≤a4p l:=by
 have h1:=a4H ((l.take k).flatMap a8Z)
 have h2:=b1D (l.take k)
 have h3:∀ (l:List (List Val×Bool×Val)) (k:Nat),a4p (l.take k)≤a4p l:=by
  intro l
  induction l with
  |nil=>intro k;simp
  |cons a l ih=>intro k;cases k with
   |zero=>simp[a4p]
   |succ k=>have:=ih k;simp only[List.take_succ_cons,a4p];omega
 have:=h3 l k
 omega
theorem b5v (l:List Val) (x:Val):l.map a0c++[[.int .i64 x.kind, .int .i64 x.num, .str x.text, .sl 7 (x.kids.map a0c), .sl 2 (x.keys.map a0i), .sl 9 (x.ents.map a0n), .sl 1 (x.labels.map Sx.encStr)]]=(l++[x]).map a0c:=by rw[← a0a];simp
theorem c2g (l m:List Val):l.map a0c++m.map a0c=(l++m).map a0c:=by simp
theorem c8b (v:Val) (hv:Sm v):PC zP 183 [.st (a0c v)] (.one (.dat (.sl 7 ((partsV v).map a0c)))):=by
 have hk:=hv.kids
 have ag:=a3E v
 have ai:=a4H v.kids
 unfold Sm at hv
 refine PCB.ob Tryz.func183 Tryz.ntmps183 Tryz.results183 ?_
 refine AWP.ghQ ?_
 repeat'(first|simp only[go_sem,a0a,lB]<;>refine nf ?_|refine stp ?_;intro K hK|apply hK;clear hK K|refine stn ?_|(with_reducible refine Or.inr (Or.inl ⟨_,_,b6X v.kids hk,?_⟩))|fail)
 refine xF 10 rfl fun q=>?_
 (try rw[lB] at q)
 refine xC (S:=List Val) (v.ents) a0n (fun k s=>(12,I .i64 (k:Nat))::[(3, .one (.own 8 s.length))]) (fun k s=>[(8, .row 7 (s.map a0c))]) [10,11] [] (fun k s=>Is s (v.kids++(v.ents.take k).flatMap a8Z)) (v.kids) (by simp only[go_sem,a0a];exact Gh.tt []) ?_ ?_ ?_
 ·simp[Is]
 ·intro k s x ab hx aa hb u
  refine sts ?_
  have hf:=c4z (l:=v.ents) k
  have ah:b9t x≤a4p v.ents:=a5U (lP hx)
  have af:=a7J x
  have ae:=a4H x.1
  have ad:s.length≤a2q v:=by rw[show s=_ from u,zba];omega
  cases hz:x.2.1
  ·
   repeat'(first|simp only[go_sem,lB,zba,hb,hz,a0a,a0A,c2g,b5v]<;>refine nf ?_|refine stp ?_;intro K hK|apply hK;clear hK K|refine stn ?_|(with_reducible first|refine⟨by omega,a0n x,aa,?_⟩|refine⟨(by omega:_≤_),?_⟩)|refine stq ?_|clear hK K)
   all_goals(rw[a0b ab q])
   all_goals(refine⟨s++x.1++[x.2.2],?_,Gh.tt [(8,27)]⟩)
   rw[Is,b5u hx,show s=_ from u,a8Z,hz];simp
  ·
   repeat'(first|simp only[go_sem,lB,zba,hb,hz,a0a,a0A,c2g]<;>refine nf ?_|refine stp ?_;intro K hK|apply hK;clear hK K|refine stn ?_|(with_reducible first|refine⟨by omega,a0n x,aa,?_⟩|refine⟨(by omega:_≤_),?_⟩)|clear hK K)
   all_goals(rw[a0b ab q])
   all_goals(refine⟨s++x.1,?_,Gh.tt [(8,19)]⟩)
   rw[Is,b5u hx,show s=_ from u,a8Z,hz];simp
 ·intro s hb u
  refine sts ?_
  rw[zbh] at u
  repeat'(first|simp only[go_sem,lB,hb]<;>refine nf ?_|refine stp ?_;intro K hK|apply hK;clear hK K|refine stn ?_|clear hK K)
  refine⟨_,Gh.fz 8,?_⟩
  simp only[go_sem,lB]
  all_goals(first|exact fun _ h=>absurd h zaf|refine a0m ?_)
  all_goals(rw[show s=_ from u];rfl)
inductive NoNodes:Dat→Prop
  |mk (d:Dat) (h:d.nodes=[]) (hk:∀ k∈d.kids,NoNodes k):NoNodes d
theorem NoNodes.nodes {d:Dat} (h:NoNodes d):d.nodes=[]:=by cases h;assumption
theorem NoNodes.kid {d:Dat} (h:NoNodes d):∀ k∈d.kids,NoNodes k:=by cases h;assumption
theorem c5F (x y:KeyD):a6N zP 6 56 (a0i x) (a0i y)=some (decide (x.kind=y.kind)&&(decide (x.text=y.text)&&true)):=by kernel_rfl
theorem d0y (x y:KeyD):(decide (x.kind=y.kind)&&decide (x.text=y.text))=decide (x=y):=by
  obtain⟨a,b⟩:=x;obtain⟨c,d⟩:=y
  rw[← zbj];simp
end Go.Proofs.YtoelgackkclcmaaGreat

