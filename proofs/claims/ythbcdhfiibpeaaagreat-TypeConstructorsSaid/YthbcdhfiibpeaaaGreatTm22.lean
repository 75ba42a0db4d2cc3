/- Lemmas of the proof. -/
import Derived.Test.YthbcdhfiibpeaaaGreatTm12
import Derived.Test.YthbcdhfiibpeaaaGreatTm15
open Go.Proofs.Tryz renaming prog→zP
open List renaming length_append→lA,length_map→lB,length_cons→lC,take_length→lK
open Nat renaming reduceBEq→zA,reduceBNe→zB,reduceAdd→zC,reduceSub→zD,reduceMul→zE,reduceLeDiff→zF,reduceLT→zG,reduceEqDiff→zH
open Int renaming reduceToNat→zI,reduceLE→zJ,reduceLT→zK,reduceEq→zL
open Bool renaming not_eq_true'→zM,not_eq_false'→zN
set_option linter.unusedSimpArgs false
set_option linter.unusedVariables false
set_option maxRecDepth 20000
set_option maxHeartbeats 64000000
namespace Go.Proofs.YthbcdhfiibpeaaaGreat
open Go Go.Sx
def a8A {α:Type} (f:α→α→Int):List α→Bool
 |[]=>true
 |x::l=>match l with
  |[]=>true
  |y::m=>decide (f x y<0)&&a8A f (y::m)
def a12 (l:List (List UInt8)):Bool:=a8A Lib.compareBytes l&&l.all a0A
theorem a37 {α:Type} {p:α→Bool} {l:List α} {k:Nat} {x:α} (hx:l[k]?= some x):(l.drop k).all p=(p x&&(l.drop (k+1)).all p):=by
  obtain⟨h1,e1⟩:=List.getElem?_eq_some_iff.1 hx
  rw[List.drop_eq_getElem_cons h1,e1,List.all_cons]
theorem a5F {α:Type} {p:α→Bool} {l:List α}:(l.drop l.length).all p=true:=by rw[List.drop_length];rfl
def c7C (v:Val):Bool:=decide ((v.keys.length:Int)=(v.kids.length:Int))&&(a8A a4s v.keys&&v.keys.all a0s)
def a1Q:Val:=⟨0,0,[],[],[],[],[]⟩
theorem a4W:a0g a1Q=[.int .i64 0, .int .i64 0, .str [], .sl 7 [], .sl 2 [], .sl 9 [], .sl 1 []]:=by rw[a0a];rfl
def a6K (v:Val):Bool:=decide (valC v a1Q=0)
def b5x (e:List Val×Bool×Val) (n:Int):Bool:=decide ((e.1.length:Int)=n)&&(!e.2.1||a6K e.2.2)
def c7D (v:Val):Bool:=!(decide (v.num<0)||(decide (4<v.num)||!a8A a4t v.ents))&&v.ents.all fun e=>b5x e v.num
mutual
def a1V:Val→Nat
  |⟨_,_,_,kids,keys,ents,labels⟩=>1+a2u kids+keys.length+a9L ents+labels.length
def a2u:List Val→Nat
  |[]=>0
  |v::l=>a1V v+a2u l
def b8p:List Val×Bool×Val→Nat
  |(a,_,r)=>1+a2u a+a1V r
def a9L:List (List Val×Bool×Val)→Nat
  |[]=>0
  |e::l=>b8p e+a9L l
end
theorem a4X (v:Val):a1V v=1+a2u v.kids+v.keys.length+a9L v.ents+v.labels.length:=by cases v;simp only[a1V]
theorem b2c (e:List Val×Bool×Val):b8p e=1+a2u e.1+a1V e.2.2:=by obtain⟨a,f,r⟩:=e;simp only[b8p]
theorem a9M (v:Val):1≤a1V v:=by rw[a4X];omega
theorem b1c:∀ l:List Val,l.length≤a2u l
  |[]=>by simp[a2u]
  |v::l=>by have:=b1c l;have:=a9M v;simp only[a2u,lC];omega
theorem a6b:∀ {l:List Val} {v:Val},v∈l→a1V v≤a2u l
 |w::l,v,h=>by
  simp only[a2u]
  rcases List.mem_cons.1 h with rfl|h
  ·omega
  ·have:=a6b h;omega
theorem a71:∀ {l:List (List Val×Bool×Val)} {e:List Val×Bool×Val},e∈l→b8p e≤a9L l
 |w::l,e,h=>by
  simp only[a9L]
  rcases List.mem_cons.1 h with rfl|h
  ·omega
  ·have:=a71 h;omega
theorem a3z:∀ a b:List Val,a2u (a++b)=a2u a+a2u b
  |[],b=>by simp[a2u]
  |v::a,b=>by simp only[List.cons_append,a2u,a3z a b];omega
abbrev Sm (v:Val):Prop:=a1V v≤100000000
theorem Sm.kids {v:Val} (h:Sm v):v.kids.length≤100000000:=by unfold Sm at h;have:=a4X v;have:=b1c v.kids;omega
theorem Sm.kid {v:Val} (h:Sm v):∀ k∈v.kids,Sm k:=fun k hk=>by unfold Sm at *; have:=a4X v;have:=a6b hk;omega
theorem Sm.keys {v:Val} (h:Sm v):v.keys.length≤100000000:=by unfold Sm at h;have:=a4X v;omega
def b6G (e:List Val×Bool×Val):List Val:=bif e.2.1 then e.1 else e.1++[e.2.2]
def a9N (v:Val):List Val:=v.kids++v.ents.flatMap b6G
theorem b6H (e:List Val×Bool×Val):a2u (b6G e)≤b8p e:=by
  unfold b6G;rw[b2c]
  cases e.2.1<;>simp only[cond_true,cond_false,a3z,a2u]<;>omega
theorem b3f:∀ l:List (List Val×Bool×Val),a2u (l.flatMap b6G)≤a9L l
  |[]=>by simp[a2u]
  |e::l=>by have:=b3f l;have:=b6H e;simp only[List.flatMap_cons,a3z,a9L];omega
theorem b6I (v:Val):a2u (a9N v)+1≤a1V v:=by
  have:=b3f v.ents
  rw[a4X,a9N,a3z];omega
theorem a9O {v p:Val} (h:p∈a9N v):a1V p<a1V v:=by
  have:=b6I v;have:=a6b h;omega
def b0C (k:Int):Bool:=decide (k=1)||(decide (k=4)||decide (k=9))
def a3X (k:Int):Bool:=decide (k=2)||decide (k=3)
def a3Y (k:Int):Bool:=decide (k=6)||(decide (k=7)||decide (k=8))
def a3Z (k:Int):Bool:=decide (k=8)
def a30 (k:Int):Bool:=decide (k=9)
def a1K (k:Int):Bool:=decide (1≤k)&&decide (k≤9)
theorem c71 (k:Int):k=1∨k=2∨k=3∨k=4∨k=5∨k=6∨k=7∨k=8∨k=9∨(decide (k=1)=false∧decide (k=2)=false∧decide (k=3)=false∧decide (k=4)=false∧decide (k=5)=false∧decide (k=6)=false∧decide (k=7)=false∧decide (k=8)=false∧decide (k=9)=false∧a1K k=false):=by
  unfold a1K;simp only[decide_eq_false_iff_not,Bool.and_eq_false_iff];omega
def a9P (v:Val):Int:=(v.kids[1]?.getD a1Q).kind
def a0O (v:Val):Bool:=(!b0C v.kind&&!decide (v.num=0))||((!a3X v.kind&&!decide (v.text=[]))||((!a3Y v.kind&&decide ((0:Int)<v.kids.length))||((!a3Z v.kind&&decide ((0:Int)<v.keys.length))||(!a30 v.kind&&decide ((0:Int)<v.ents.length)))))
def a3t (v:Val):Bool:=
  bif decide (v.kind=2) then decide ((v.text.length:Int)≤64) else
  bif decide (v.kind=3) then a2g v.text else
  bif decide (v.kind=4) then decide (0≤v.num) else
  bif decide (v.kind=6) then decide ((v.kids.length:Int)≤4) else
  bif decide (v.kind=7) then decide ((v.kids.length:Int)=2)&&(decide (a9P v=5)||decide (a9P v=7)) else
  bif decide (v.kind=8) then c7C v else
  bif decide (v.kind=9) then c7D v else true
def a0P (v:Val):Bool:=a1K v.kind&&(a12 v.labels&&(!a0O v&&a3t v))
def goB {α:Type} (f:α→α→Int) (p:α→Bool):Option α→List α→Bool
  |_,[]=>true
  |none,x::l=>p x&&goB f p (some x) l
  |some y,x::l=>p x&&(decide (f y x<0)&&goB f p (some x) l)
def a4z {α:Type} (l:List α):Nat→Option α
  |0=>none
  |k+1=>l[k]?
theorem b5y {α:Type} (f:α→α→Int) (p:α→Bool):∀ (l:List α) (y:α),goB f p (some y) l=(a8A f (y::l)&&l.all p)
 |[],y=>rfl
 |x::l,y=>by
  rw[goB,b5y f p l x,List.all_cons]
  show _=((decide (f y x<0)&&a8A f (x::l))&&_)
  cases p x<;>cases decide (f y x<0)<;>cases a8A f (x::l)<;>cases l.all p<;>rfl
theorem a38 {α:Type} (f:α→α→Int) (p:α→Bool) (l:List α):goB f p none l=(a8A f l&&l.all p):=by
 cases l with
 |nil=>rfl
 |cons x l=>
  rw[goB,b5y,List.all_cons]
  cases p x<;>cases a8A f (x::l)<;>cases l.all p<;>rfl
theorem a4a {α:Type} {f:α→α→Int} {p:α→Bool} {l:List α} {k:Nat} {x:α} (h0:k=0) (hx:l[k]?= some x):goB f p (a4z l k) (l.drop k)=(p x&&goB f p (a4z l (k+1)) (l.drop (k+1))):=by
  subst h0
  cases l with
  |nil=>simp at hx
  |cons y l=>simp at hx;subst hx;rfl
theorem a4b {α:Type} {f:α→α→Int} {p:α→Bool} {l:List α} {k:Nat} {x y:α} (hy:l[k]?= some y) (hx:l[k+1]?= some x):goB f p (a4z l (k+1)) (l.drop (k+1))=(p x&&(decide (f y x<0)&&goB f p (a4z l (k+2)) (l.drop (k+2)))):=by
  obtain⟨h1,e1⟩:=List.getElem?_eq_some_iff.1 hx
  rw[List.drop_eq_getElem_cons h1,e1]
  simp only[a4z,hy,hx]
  rfl
theorem a5G {α:Type} {f:α→α→Int} {p:α→Bool} {l:List α} {o:Option α}:goB f p o (l.drop l.length)=true:=by
  rw[List.drop_length];cases o<;>rfl
theorem a4Y (a b:List UInt8):Op.bytesLess a b=decide (Lib.compareBytes a b<0):=by
  rw[a4T]
  rcases a7Y a b with h|h|h<;>simp[h]
def a0C (v:Val):Bool:=a0P v&&(a9N v).attach.all fun p=>a0C p.1
termination_by a1V v
decreasing_by exact a9O p.2
theorem a80 (v:Val):a0C v=(a0P v&&(a9N v).all a0C):=by
  rw[a0C];congr 1
  rw[← Bool.coe_iff_coe];simp
def a7k (e:List Val×Bool×Val):Bool:=e.1.all a0C&&(e.2.1||a0C e.2.2)
theorem a1p (v:Val):a0C v=(a0P v&&(v.kids.all a0C&&v.ents.all a7k)):=by
 rw[a80,a9N,List.all_append,List.all_flatMap]
 have:∀ e:List Val×Bool×Val,(b6G e).all a0C=a7k e:=by
  intro e
  unfold b6G a7k
  cases e.2.1<;>simp
 simp only[this]
theorem Sm.part {v p:Val} (h:Sm v) (hp:p∈a9N v):Sm p:=by unfold Sm at *; have:=a9O hp;omega
theorem b1d (a b:Val):PC zP 132 [.st (a0g a), .st (a0g b)] (Bo (decide (valC a b=0))):=by
  have h:=a1D a b
  refine PCB.ob Tryz.func132 Tryz.ntmps132 Tryz.results132 ?_
  repeat'(first|(simp only[go_sem,zA,zB,zC,zD,zE,zF,zG,reduceCtorEq,zH,zI,zJ,zK,zL];all_goals refine nf ?_)|(refine stp ?_;intro K hK)|(apply hK;clear hK K)|refine stn ?_|(with_reducible refine⟨_,h,?_⟩)|refine stq ?_|fail)
  all_goals(first|exact fun _ h=>absurd h List.not_mem_nil|refine a0m ?_)
  all_goals rfl
def a3h (n:Int):Val:=⟨1,n,[],[],[],[],[]⟩
def a9Q (s:List UInt8):Val:=⟨2,0,s,[],[],[],[]⟩
def a6L (s:List UInt8):Val:=⟨3,0,s,[],[],[],[]⟩
def b1e (n:Int):Val:=⟨4,n,[],[],[],[],[]⟩
def a0Z:Val:=⟨5,0,[],[],[],[],[]⟩
def a2L (l:List Val):Val:=⟨6,0,[],l,[],[],[]⟩
def a0X (a b:Val):Val:=⟨7,0,[],[a,b],[],[],[]⟩
abbrev Vt (v:Val):T:= .st (a0g v)
theorem b2d (n:Int):PC zP 42 [I .i64 n] (Vt (a3h n)):=by
  refine PCB.ob Tryz.func42 Tryz.ntmps42 Tryz.results42 ?_
  repeat'(first|(simp only[go_sem,zA,zB,zC,zD,zE,zF,zG,reduceCtorEq,zH,zI,zJ,zK,zL];all_goals refine nf ?_)|(refine stp ?_;intro K hK)|(apply hK;clear hK K)|refine stn ?_|fail)
  all_goals(first|exact fun _ h=>absurd h List.not_mem_nil|refine a0m ?_)
  all_goals(rw[Vt,a0a];rfl)
theorem a6M (s:List UInt8):PC zP 122 [S s] (Vt (a9Q s)):=by
  refine PCB.ob Tryz.func122 Tryz.ntmps122 Tryz.results122 ?_
  repeat'(first|(simp only[go_sem,zA,zB,zC,zD,zE,zF,zG,reduceCtorEq,zH,zI,zJ,zK,zL];all_goals refine nf ?_)|(refine stp ?_;intro K hK)|(apply hK;clear hK K)|refine stn ?_|fail)
  all_goals(first|exact fun _ h=>absurd h List.not_mem_nil|refine a0m ?_)
  all_goals(rw[Vt,a0a];rfl)
theorem a72 (s:List UInt8):PC zP 123 [S s] (Vt (a6L s)):=by
  refine PCB.ob Tryz.func123 Tryz.ntmps123 Tryz.results123 ?_
  repeat'(first|(simp only[go_sem,zA,zB,zC,zD,zE,zF,zG,reduceCtorEq,zH,zI,zJ,zK,zL];all_goals refine nf ?_)|(refine stp ?_;intro K hK)|(apply hK;clear hK K)|refine stn ?_|fail)
  all_goals(first|exact fun _ h=>absurd h List.not_mem_nil|refine a0m ?_)
  all_goals(rw[Vt,a0a];rfl)
theorem b5z (n:Int):PC zP 124 [I .i64 n] (Vt (b1e n)):=by
  refine PCB.ob Tryz.func124 Tryz.ntmps124 Tryz.results124 ?_
  repeat'(first|(simp only[go_sem,zA,zB,zC,zD,zE,zF,zG,reduceCtorEq,zH,zI,zJ,zK,zL];all_goals refine nf ?_)|(refine stp ?_;intro K hK)|(apply hK;clear hK K)|refine stn ?_|fail)
  all_goals(first|exact fun _ h=>absurd h List.not_mem_nil|refine a0m ?_)
  all_goals(rw[Vt,a0a];rfl)
theorem a28:PC zP 75 [] (Vt a0Z):=by
  refine PCB.ob Tryz.func75 Tryz.ntmps75 Tryz.results75 ?_
  repeat'(first|(simp only[go_sem,zA,zB,zC,zD,zE,zF,zG,reduceCtorEq,zH,zI,zJ,zK,zL];all_goals refine nf ?_)|(refine stp ?_;intro K hK)|(apply hK;clear hK K)|refine stn ?_|fail)
  all_goals(first|exact fun _ h=>absurd h List.not_mem_nil|refine a0m ?_)
  all_goals(rw[Vt,a0a];rfl)
theorem b5A (l:List Val) (hl:l.length≤100000000):PCN zP 74 [.one (.dat (.sl 7 (l.map a0g)))] (.one (.own 0 l.length)) (.row 7 (l.map a0g)):=by
  refine PCN.of_body 4 Tryz.func74 rfl (by decide) Tryz.ntmps74 Tryz.results74 rfl rfl ?_
  refine AWP.ghQ ?_
  repeat'(first|(simp only[go_sem,zA,zB,zC,zD,zE,zF,zG,reduceCtorEq,zH,zI,zJ,zK,zL,lB];all_goals refine nf ?_)|(refine stp ?_;intro K hK)|(apply hK;clear hK K)|refine stn ?_|(with_reducible refine⟨(by omega:_≤_),?_⟩)|fail)
  refine⟨_,Gh.refl _,?_⟩
  simp only[go_sem,zA,zB,zC,zD,zE,zF,zG,reduceCtorEq,zH,zI,zJ,zK,zL,lB]
  first|exact⟨rfl,fun x hx=>hx⟩|exact fun x hx=>hx
theorem c07 (l:List Val) (hl:l.length≤100000000):PC zP 74 [.one (.dat (.sl 7 (l.map a0g)))] (.one (.dat (.sl 7 (l.map a0g)))):=by
  refine PCB.ob Tryz.func74 Tryz.ntmps74 Tryz.results74 ?_
  refine AWP.ghQ ?_
  repeat'(first|(simp only[go_sem,zA,zB,zC,zD,zE,zF,zG,reduceCtorEq,zH,zI,zJ,zK,zL,lB];all_goals refine nf ?_)|(refine stp ?_;intro K hK)|(apply hK;clear hK K)|refine stn ?_|(with_reducible refine⟨(by omega:_≤_),?_⟩)|fail)
  refine⟨_,Gh.fz 4,?_⟩
  simp only[go_sem,zA,zB,zC,zD,zE,zF,zG,reduceCtorEq,zH,zI,zJ,zK,zL,lB]
  all_goals(first|exact fun _ h=>absurd h List.not_mem_nil|refine a0m ?_)
  all_goals rfl
theorem a73 (l:List Val) (hl:l.length≤100000000):PC zP 30 [.one (.dat (.sl 7 (l.map a0g)))] (Vt (a2L l)):=by
  have h:=c07 l hl
  refine PCB.ob Tryz.func30 Tryz.ntmps30 Tryz.results30 ?_
  repeat'(first|(simp only[go_sem,zA,zB,zC,zD,zE,zF,zG,reduceCtorEq,zH,zI,zJ,zK,zL];all_goals refine nf ?_)|(refine stp ?_;intro K hK)|(apply hK;clear hK K)|refine stn ?_|(with_reducible refine⟨_,h,?_⟩)|refine stq ?_|fail)
  all_goals(first|exact fun _ h=>absurd h List.not_mem_nil|refine a0m ?_)
  all_goals(rw[Vt,a0a];rfl)
theorem a4A (a b:Val):PC zP 31 [Vt a,Vt b] (Vt (a0X a b)):=by
  refine PCB.ob Tryz.func31 Tryz.ntmps31 Tryz.results31 ?_
  repeat'(first|(simp only[go_sem,zA,zB,zC,zD,zE,zF,zG,reduceCtorEq,zH,zI,zJ,zK,zL];all_goals refine nf ?_)|(refine stp ?_;intro K hK)|(apply hK;clear hK K)|refine stn ?_|refine stq ?_|fail)
  all_goals(first|exact fun _ h=>absurd h List.not_mem_nil|refine a0m ?_)
  all_goals(rw[Vt,a0a (a0X a b)];rfl)
def a9R (k:Int) (s:Src):Val×Src:=
  bif decide (k=0) then (a3h (c6e s),a0f s 10) else
  bif decide (k=1) then (a6L (a7S s),a0f s 4) else
  bif decide (k=2) then (a9Q (b0E s),a0f s 4) else
  bif decide (k=3) then (b1e (a0h s 3),a0f s 3) else
  bif decide (k=4) then (a0Z,s) else (a2L [],s)
def a2S (s:Src):Val×Src:=a9R (a0h s 6) (a0f s 6)
theorem c33:PC zP 30 [.one (.dat (.sl 7 []))] (Vt (a2L [])):=by
  have h:=a73 [] (by simp)
  rw[List.map_nil] at h
  exact h
theorem c6B (s:Src) (hs:s.ok):PCB zP 82 [Sp pin] [(pin,a1d s)] (Vt (a2S s).1) [(pin,a1d (a2S s).2)]:=by
 have hv:=a0p s (n:=6) (by omega)
 have hk:a0h s 6=0∨a0h s 6=1∨a0h s 6=2∨a0h s 6=3∨a0h s 6=4∨a0h s 6=5:=by omega
 have hs1:=a0j hs 6
 rcases hk with hk|hk|hk|hk|hk|hk
 all_goals(rw[a2S,hk])
 all_goals
  refine PCB.ob Tryz.func82 Tryz.ntmps82 Tryz.results82 ?_
  repeat'(first|(simp only[go_sem,zA,zB,zC,zD,zE,zF,zG,reduceCtorEq,zH,zI,zJ,zK,zL,pin,hk];all_goals refine nf ?_)|(refine stp ?_;intro K hK)|(apply hK;clear hK K)|refine stn ?_|(with_reducible first|refine⟨_,b2d _,?_⟩|refine⟨_,a72 _,?_⟩|refine⟨_,a6M _,?_⟩|refine⟨_,b5z _,?_⟩|refine⟨_,a28,?_⟩|refine⟨_,c33,?_⟩)|(refine⟨1000000,_,_,_,a0v 1000000 _ (by repeat(first|with_reducible exact hs|with_reducible refine a0j ?_ _)) _ (by omega),rfl,?_⟩)|(refine⟨1000000,_,_,_,c0K 1000000 _ hs1,rfl,?_⟩)|(refine⟨1000000,_,_,_,a4q 1000000 _ hs1,rfl,?_⟩)|(refine⟨1000000,_,_,_,b26 1000000 _ hs1,rfl,?_⟩)|refine stq ?_|(clear hK K))
 all_goals(first|refine⟨rfl,fun x hx=>?_⟩|refine fun x hx=>?_)
 all_goals(simp only[List.mem_singleton] at hx;subst hx;simp[a9R,pin])
theorem a9S (k:Nat) (s:Src) (hs:s.ok):a2f zP 82 [Sp k] k (a1d s) (Vt (a2S s).1) (a1d (a2S s).2):=a2f.mk k (c6B s hs)
theorem c08 (k:Int) {s:Src} (h:s.ok):(a9R k s).2.ok:=by
  unfold a9R
  cases decide (k=0)<;>cases decide (k=1)<;>cases decide (k=2)<;>cases decide (k=3)<;>cases decide (k=4)<;>first|exact h|exact a0j h _
theorem a3L {s:Src} (h:s.ok):(a2S s).2.ok:=c08 _ (a0j h 6)
def labL:List (List UInt8):=[[65],[66],[67]]
def a3M (s:Src):List UInt8:=labL.getD (a0h s 3).toNat []
theorem c34 (s:Src) (hs:s.ok):PCB zP 96 [Sp pin] [(pin,a1d s)] (S (a3M s)) [(pin,a1d (a0f s 3))]:=by
  refine PCB.ob Tryz.func96 Tryz.ntmps96 Tryz.results96 ?_
  have hv:=a0p s (n:=3) (by omega)
  repeat'(first|(simp only[go_sem,zA,zB,zC,zD,zE,zF,zG,reduceCtorEq,zH,zI,zJ,zK,zL,pin];all_goals refine nf ?_)|(refine stp ?_;intro K hK)|(apply hK;clear hK K)|refine stn ?_|(refine⟨1000000,_,_,_,a0v 1000000 s hs 3 (by omega),rfl,?_⟩)|( refine⟨hv.1,[.str (a3M s)],a3I (fun x=>[C.str x]) labL [] hv,?_⟩)|refine stq ?_|fail)
  all_goals exact fun x hx=>hx
theorem b4B (k:Nat) (s:Src) (hs:s.ok):a2f zP 96 [Sp k] k (a1d s) (S (a3M s)) (a1d (a0f s 3)):=a2f.mk k (c34 s hs)
def tw {α:Type} (p:α→Bool):List α→Nat
  |[]=>0
  |x::l=>bif p x then 1+tw p l else 0
theorem a9T {α:Type} {p:α→Bool} {l:List α} {k:Nat} {x:α} (hx:l[k]?= some x):tw p (l.drop k)=bif p x then 1+tw p (l.drop (k+1)) else 0:=by
  obtain⟨h1,e1⟩:=List.getElem?_eq_some_iff.1 hx
  rw[List.drop_eq_getElem_cons h1,e1];rfl
theorem b8q {α:Type} {p:α→Bool} {l:List α}:tw p (l.drop l.length)=0:=by rw[List.drop_length];rfl
def a1L {α:Type} (k:Nat) (x:α) (l:List α):List α:=l.take k++[x]++l.drop k
theorem a13 {α:Type} (k:Nat) (x:α) (l:List α):(a1L k x l).length=l.length+1:=by
  unfold a1L;simp;omega
def a8S (s:List (List UInt8)) (x:List UInt8):List (List UInt8):=
  bif decide (s[tw (fun y=>Op.bytesLess y x) s]?= some x) then s else a1L (tw (fun y=>Op.bytesLess y x) s) x s
def a0N (l:List (List UInt8)):List (List UInt8):=l.foldl a8S []
theorem a2T {α β:Type} {f:β→α→β} {b:β} {l:List α} {k:Nat} {x:α} (hx:l[k]?= some x):(l.take (k+1)).foldl f b=f ((l.take k).foldl f b) x:=by
  rw[List.take_add_one,hx];simp
theorem c09 (s:List (List UInt8)) (x:List UInt8):(a8S s x).length≤s.length+1:=by
  unfold a8S;cases decide (s[tw (fun y=>Op.bytesLess y x) s]?= some x)<;>simp[a13]
theorem a3N {α:Type} (f:α→List C) (l:List α) (k:Nat):List.take k (l.map f)=(l.take k).map f:=by rw[List.map_take]
theorem a4B {α:Type} (f:α→List C) (l:List α) (k:Nat):List.drop k (l.map f)=(l.drop k).map f:=by rw[List.map_drop]
theorem b8r (s:List (List UInt8)) (k:Nat) (x:List UInt8):(List.map Sx.encStr (s.take k)++[[C.str x]])++List.map Sx.encStr (s.drop k)=(a1L k x s).map Sx.encStr:=by
  unfold a1L;simp[Sx.encStr]
theorem b8s (s:List (List UInt8)) (x:List UInt8):(List.map Sx.encStr s++[[C.str x]])++List.map Sx.encStr (s.drop s.length)=(a1L s.length x s).map Sx.encStr:=by
  unfold a1L;simp[Sx.encStr]
theorem a6c (l:List (List UInt8)) (hl:l.length≤1000000):PC zP 73 [.one (.dat (.sl 1 (l.map Sx.encStr)))] (.one (.dat (.sl 1 ((a0N l).map Sx.encStr)))):=by
 refine PCB.ob Tryz.func73 Tryz.ntmps73 Tryz.results73 ?_
 repeat'(first|(simp only[go_sem,zA,zB,zC,zD,zE,zF,zG,reduceCtorEq,zH,zI,zJ,zK,zL,lB];all_goals refine nf ?_)|(refine stp ?_;intro K hK)|(apply hK;clear hK K)|refine stn ?_|fail)
 refine AWP.gh (Gh.nilrow 3 900 rfl rfl rfl rfl) ?_
 refine AWP.gh (Gh.fz 900) ?_
 refine sts ?_
 refine AWP.len 0 rfl fun hlen0=>?_
 (try rw[lB] at hlen0)
 refine AWP.range (S:=List (List UInt8)) (l) Sx.encStr (fun k s=>(4,I .i64 (k:Nat))::[(3, .one (.dat (.sl 1 (s.map Sx.encStr))))]) (fun k s=>[]) [0] [] (fun k s=>Is s ((l.take k).foldl a8S [])∧s.length≤k) ([]) (by refine sts ?_;exact Gh.tt []) ?_ ?_ ?_
 ·exact⟨rfl,Nat.le_refl _⟩
 ·intro k s x hlt hx hx' hb hok
  obtain⟨hok,hsl⟩:=hok
  refine sts ?_
  repeat'(first|(simp only[go_sem,zA,zB,zC,zD,zE,zF,zG,reduceCtorEq,zH,zI,zJ,zK,zL,lB,hb];all_goals refine nf ?_)|(refine stp ?_;intro K hK)|(apply hK;clear hK K)|refine stn ?_|fail)
  refine AWP.loopF (X:=Nat) (fun j=>[(5,I .i64 j)]) (fun j=>[]) [0,3,4] [] (fun j=>j≤s.length∧tw (fun y=>Op.bytesLess y x) s=j+tw (fun y=>Op.bytesLess y x) (s.drop j)) (fun j=>s.length-j) (0) (by refine sts ?_;exact Gh.tt []) ?_ ?_
  ·exact⟨Nat.zero_le _,by simp⟩
  rintro j ⟨hj,hp⟩
  refine sts ?_
  by_cases hjl:j<s.length
  ·obtain⟨y,hy,hy',hbj,_⟩:=a4M (enc:=Sx.encStr) hjl
   rw[a9T hy] at hp
   cases hz:Op.bytesLess y x<;>simp only[hz,cond_true,cond_false,Nat.add_zero] at hp
   ·cases hyx:decide (y=x)
    ·
     repeat'(first|(simp only[go_sem,zA,zB,zC,zD,zE,zF,zG,reduceCtorEq,zH,zI,zJ,zK,zL,lB,hbj,hb,hz,hyx,Sx.encStr,Int.toNat_natCast,List.drop_zero,lK,a3N,a4B,b8r,b8s];all_goals refine nf ?_)|(refine stp ?_;intro K hK)|(apply hK;clear hK K)|refine stn ?_|(with_reducible first|refine⟨by omega,Sx.encStr x,hx',?_⟩|refine⟨by omega,Sx.encStr y,hy',?_⟩|(refine⟨(by first|omega|(simp only[lA,lB,List.length_take,List.length_drop,lC,List.length_nil,List.length_replicate];omega):_≤_),?_⟩))|(with_reducible refine AWP.genR (id:=10) [6,10] [48] mixed (by kernel_rfl) fun K hK=>?_;simp only[Bx.outs,Bx.drop,cond_true,cond_false,Nat.reduceBEq,go_sem])|(refine a0M ?_;intro K hK)|refine stq ?_|(clear hK K))
     all_goals(rw[a0d hlt hlen0])
     all_goals(refine⟨a1L j x s,?_,?_⟩)
     all_goals(try first
      |(refine Gh.trans (Gh.freeze 59 rfl rfl (by simp only[go_sem,zA,zB,zC,zD,zE,zF,zG,reduceCtorEq,zH,zI,zJ,zK,zL,lB,lA]) (by simp only[go_sem,zA,zB,zC,zD,zE,zF,zG,reduceCtorEq,zH,zI,zJ,zK,zL,lB,lA])) ?_;simp only[go_sem,zA,zB,zC,zD,zE,zF,zG,reduceCtorEq,zH,zI,zJ,zK,zL,lB,lA];exact Gh.tt [])
      |(exact Gh.tt []))
     all_goals(refine⟨?_,by rw[a13];omega⟩;rw[Is,a2T hx,← hok,a8S,hp,hy];rw[show decide (some y=some x)=decide (y=x) from by simp,hyx];try rfl)
    ·
     repeat'(first|(simp only[go_sem,zA,zB,zC,zD,zE,zF,zG,reduceCtorEq,zH,zI,zJ,zK,zL,lB,hbj,hb,hz,hyx,Sx.encStr];all_goals refine nf ?_)|(refine stp ?_;intro K hK)|(apply hK;clear hK K)|refine stn ?_|(with_reducible first|refine⟨by omega,Sx.encStr x,hx',?_⟩|refine⟨by omega,Sx.encStr y,hy',?_⟩)|(refine a0M ?_;intro K hK)|(clear hK K))
     all_goals(rw[a0d hlt hlen0])
     all_goals(refine⟨s,?_,Gh.tt []⟩)
     all_goals(refine⟨?_,by omega⟩;rw[Is,a2T hx,← hok,a8S,hp,hy];rw[show decide (some y=some x)=decide (y=x) from by simp,hyx];try rfl)
   ·
    repeat'(first|(simp only[go_sem,zA,zB,zC,zD,zE,zF,zG,reduceCtorEq,zH,zI,zJ,zK,zL,lB,hbj,hz,Sx.encStr];all_goals refine nf ?_)|(refine stp ?_;intro K hK)|(apply hK;clear hK K)|refine stn ?_|(with_reducible first|refine⟨by omega,Sx.encStr x,hx',?_⟩|refine⟨by omega,Sx.encStr y,hy',?_⟩)|(refine a0M ?_;intro K hK)|(clear hK K))
    all_goals(rw[a0d hjl (by omega)])
    all_goals(refine⟨j+1,by omega,⟨by omega,by omega⟩,Gh.tt []⟩)
  ·have hjs:j=s.length:=by omega
   subst hjs
   have hbj:decide ((s.length:Int)<(s.length:Int))=false:=by simp
   rw[b8q,Nat.add_zero] at hp
   have hnone:s[s.length]?= none:=by simp
   repeat'(first|(simp only[go_sem,zA,zB,zC,zD,zE,zF,zG,reduceCtorEq,zH,zI,zJ,zK,zL,lB,hbj,hb,Sx.encStr,Int.toNat_natCast,List.drop_zero,lK,a3N,a4B,b8r,b8s];all_goals refine nf ?_)|(refine stp ?_;intro K hK)|(apply hK;clear hK K)|refine stn ?_|(with_reducible first|refine⟨by omega,Sx.encStr x,hx',?_⟩|(refine⟨(by first|omega|(simp only[lA,lB,List.length_take,List.length_drop,lC,List.length_nil,List.length_replicate];omega):_≤_),?_⟩))|(with_reducible refine AWP.genR (id:=10) [6,10] [48] mixed (by kernel_rfl) fun K hK=>?_;simp only[Bx.outs,Bx.drop,cond_true,cond_false,Nat.reduceBEq,go_sem])|(refine a0M ?_;intro K hK)|refine stq ?_|(clear hK K))
   all_goals(rw[a0d hlt hlen0])
   all_goals(refine⟨a1L s.length x s,?_,?_⟩)
   all_goals(try first
    |(refine Gh.trans (Gh.freeze 59 rfl rfl (by simp only[go_sem,zA,zB,zC,zD,zE,zF,zG,reduceCtorEq,zH,zI,zJ,zK,zL,lB,lA]) (by simp only[go_sem,zA,zB,zC,zD,zE,zF,zG,reduceCtorEq,zH,zI,zJ,zK,zL,lB,lA])) ?_;simp only[go_sem,zA,zB,zC,zD,zE,zF,zG,reduceCtorEq,zH,zI,zJ,zK,zL,lB,lA];exact Gh.tt [])
    |(exact Gh.tt []))
   all_goals(refine⟨?_,by rw[a13];omega⟩;rw[Is,a2T hx,← hok,a8S,hp,hnone];try rfl)
 ·intro s hb hok
  refine sts ?_
  repeat'(first|(simp only[go_sem,zA,zB,zC,zD,zE,zF,zG,reduceCtorEq,zH,zI,zJ,zK,zL,lB,hb];all_goals refine nf ?_)|(refine stp ?_;intro K hK)|(apply hK;clear hK K)|refine stn ?_|(clear hK K))
  all_goals(first|exact fun _ h=>absurd h List.not_mem_nil|refine a0m ?_)
  all_goals(rw[show s=_ from hok.1,lK];rfl)
end Go.Proofs.YthbcdhfiibpeaaaGreat







namespace Go.Proofs.YthbcdhfiibpeaaaGreat
open Go Go.Sx
def a02 (s:Src):List (List UInt8)×Src:=
  bif decide (a0h s 3=1) then
    (bif decide (a0h (a0f (a0f s 3) 3) 2=1) then (a0N [a3M (a0f s 3),a3M (a0f (a0f (a0f s 3) 3) 2)],a0f (a0f (a0f (a0f s 3) 3) 2) 3)
     else (a0N [a3M (a0f s 3)],a0f (a0f (a0f s 3) 3) 2))
  else ([],a0f s 3)
theorem a7l {s:Src} (h:s.ok):(a02 s).2.ok:=by
  unfold a02
  cases decide (a0h s 3=1)<;>cases decide (a0h (a0f (a0f s 3) 3) 2=1)<;>(repeat(first|exact h|refine a0j ?_ _))
theorem c1a (s:Src) (hs:s.ok):PCB zP 56 [Sp pin] [(pin,a1d s)] (.one (.dat (.sl 1 ((a02 s).1.map Sx.encStr)))) [(pin,a1d (a02 s).2)]:=by
  have h0:=a6c [] (by simp)
  have h1:=a6c [a3M (a0f s 3)] (by simp)
  have h2:=a6c [a3M (a0f s 3),a3M (a0f (a0f (a0f s 3) 3) 2)] (by simp)
  simp only[List.map_cons,List.map_nil,Sx.encStr] at h0 h1 h2
  refine PCB.ob Tryz.func56 Tryz.ntmps56 Tryz.results56 ?_
  repeat'(first|(simp only[go_sem,zA,zB,zC,zD,zE,zF,zG,reduceCtorEq,zH,zI,zJ,zK,zL,pin];all_goals refine nf ?_)|(refine stp ?_;intro K hK)|(apply hK;clear hK K)|refine stn ?_|(refine AWP.cnd ?_ ?_<;>intro h<;>(try simp only[zM,zN] at h))|(with_reducible first|refine⟨_,h0,?_⟩|refine⟨_,h1,?_⟩|refine⟨_,h2,?_⟩)|(refine⟨1000000,_,_,_,a0v 1000000 _ (by repeat(first|with_reducible exact hs|with_reducible refine a0j ?_ _)) _ (by omega),rfl,?_⟩)|(refine⟨1000000,_,_,_,b4B 1000000 _ (by repeat(first|with_reducible exact hs|with_reducible refine a0j ?_ _)),rfl,?_⟩)|refine stq ?_|fail)
  all_goals(simp only[a02, *, cond_true,cond_false])
  all_goals(first|refine⟨rfl,fun x hx=>?_⟩|refine⟨trivial,fun x hx=>?_⟩)
  all_goals(simp only[List.mem_singleton] at hx;subst hx;simp[pin])
theorem a81 (k:Nat) (s:Src) (hs:s.ok):a2f zP 56 [Sp k] k (a1d s) (.one (.dat (.sl 1 ((a02 s).1.map Sx.encStr)))) (a1d (a02 s).2):=a2f.mk k (c1a s hs)
abbrev Ent:=List Val×Bool×Val
def b4C (s:List Ent) (k:Nat) (x:Ent):Bool:=match s[k]? with
  |some y=>decide (a4t y x=0)
  |none=>false
def b7t (s:List Ent) (x:Ent):List Ent:=
  bif b4C s (tw (fun y=>decide (a4t y x<0)) s) x then s else a1L (tw (fun y=>decide (a4t y x<0)) s) x s
def a4Z (l:List Ent):List Ent:=l.foldl b7t []
theorem b8t (s:List Ent) (k:Nat) (x:Ent):(List.map a0l (s.take k)++[a0l x])++List.map a0l (s.drop k)=(a1L k x s).map a0l:=by
  unfold a1L;simp
theorem b8u (s:List Ent) (x:Ent):(List.map a0l s++[a0l x])++List.map a0l (s.drop s.length)=(a1L s.length x s).map a0l:=by
  unfold a1L;simp
theorem c1b (a b:Ent):PC zP 133 [.st (a0l a), .st (a0l b)] (I .i64 (a4t a b)):=a5w a b (fun x _ y=>a1D x y) (fun y=>a1D _ y)
theorem b8v (l:List Ent) (hl:l.length≤1000000):PC zP 136 [.one (.dat (.sl 9 (l.map a0l)))] (.one (.dat (.sl 9 ((a4Z l).map a0l)))):=by
 refine PCB.ob Tryz.func136 Tryz.ntmps136 Tryz.results136 ?_
 repeat'(first|(simp only[go_sem,zA,zB,zC,zD,zE,zF,zG,reduceCtorEq,zH,zI,zJ,zK,zL,lB];all_goals refine nf ?_)|(refine stp ?_;intro K hK)|(apply hK;clear hK K)|refine stn ?_|fail)
 refine AWP.gh (Gh.nilrow 3 900 rfl rfl rfl rfl) ?_
 refine AWP.gh (Gh.fz 900) ?_
 refine sts ?_
 refine AWP.len 0 rfl fun hlen0=>?_
 (try rw[lB] at hlen0)
 refine AWP.range (S:=List Ent) (l) a0l (fun k s=>(4,I .i64 (k:Nat))::[(3, .one (.dat (.sl 9 (s.map a0l))))]) (fun k s=>[]) [0] [] (fun k s=>Is s ((l.take k).foldl b7t [])∧s.length≤k) ([]) (by refine sts ?_;exact Gh.tt []) ?_ ?_ ?_
 ·exact⟨rfl,Nat.le_refl _⟩
 ·intro k s x hlt hx hx' hb hok
  obtain⟨hok,hsl⟩:=hok
  refine sts ?_
  repeat'(first|(simp only[go_sem,zA,zB,zC,zD,zE,zF,zG,reduceCtorEq,zH,zI,zJ,zK,zL,lB,hb];all_goals refine nf ?_)|(refine stp ?_;intro K hK)|(apply hK;clear hK K)|refine stn ?_|fail)
  refine AWP.loopF (X:=Nat) (fun j=>[(5,I .i64 j)]) (fun j=>[]) [0,3,4] [] (fun j=>j≤s.length∧tw (fun y=>decide (a4t y x<0)) s=j+tw (fun y=>decide (a4t y x<0)) (s.drop j)) (fun j=>s.length-j) (0) (by refine sts ?_;exact Gh.tt []) ?_ ?_
  ·exact⟨Nat.zero_le _,by simp⟩
  rintro j ⟨hj,hp⟩
  refine sts ?_
  by_cases hjl:j<s.length
  ·obtain⟨y,hy,hy',hbj,_⟩:=a4M (enc:=a0l) hjl
   rw[a9T hy] at hp
   have hcc:=c1b y x
   cases hz:decide (a4t y x<0)<;>simp only[hz,cond_true,cond_false,Nat.add_zero] at hp
   ·cases hyx:decide (a4t y x=0)
    ·
     repeat'(first|(simp only[go_sem,zA,zB,zC,zD,zE,zF,zG,reduceCtorEq,zH,zI,zJ,zK,zL,lB,hbj,hb,hz,hyx,Int.toNat_natCast,List.drop_zero,lK,a3N,a4B,b8t,b8u];all_goals refine nf ?_)|(refine stp ?_;intro K hK)|(apply hK;clear hK K)|refine stn ?_|(with_reducible first|refine⟨_,hcc,?_⟩|refine⟨by omega,a0l x,hx',?_⟩|refine⟨by omega,a0l y,hy',?_⟩|(refine⟨(by first|omega|(simp only[lA,lB,List.length_take,List.length_drop,lC,List.length_nil,List.length_replicate];omega):_≤_),?_⟩))|(with_reducible refine AWP.genR (id:=10) [6,10] [50] mixed (by kernel_rfl) fun K hK=>?_;simp only[Bx.outs,Bx.drop,cond_true,cond_false,Nat.reduceBEq,go_sem])|(refine a0M ?_;intro K hK)|refine stq ?_|(clear hK K))
     all_goals(rw[a0d hlt hlen0])
     all_goals(refine⟨a1L j x s,?_,?_⟩)
     all_goals(try first
      |(refine Gh.trans (Gh.freeze 61 rfl rfl (by simp only[go_sem,zA,zB,zC,zD,zE,zF,zG,reduceCtorEq,zH,zI,zJ,zK,zL,lB,lA]) (by simp only[go_sem,zA,zB,zC,zD,zE,zF,zG,reduceCtorEq,zH,zI,zJ,zK,zL,lB,lA])) ?_;simp only[go_sem,zA,zB,zC,zD,zE,zF,zG,reduceCtorEq,zH,zI,zJ,zK,zL,lB,lA];exact Gh.tt [])
      |(exact Gh.tt []))
     all_goals(refine⟨?_,by rw[a13];omega⟩;rw[Is,a2T hx,← hok,b7t,hp];simp only[b4C,hy,hyx];try rfl)
    ·
     repeat'(first|(simp only[go_sem,zA,zB,zC,zD,zE,zF,zG,reduceCtorEq,zH,zI,zJ,zK,zL,lB,hbj,hb,hz,hyx];all_goals refine nf ?_)|(refine stp ?_;intro K hK)|(apply hK;clear hK K)|refine stn ?_|(with_reducible first|refine⟨_,hcc,?_⟩|refine⟨by omega,a0l x,hx',?_⟩|refine⟨by omega,a0l y,hy',?_⟩)|(refine a0M ?_;intro K hK)|(clear hK K))
     all_goals(rw[a0d hlt hlen0])
     all_goals(refine⟨s,?_,Gh.tt []⟩)
     all_goals(refine⟨?_,by omega⟩;rw[Is,a2T hx,← hok,b7t,hp];simp only[b4C,hy,hyx];try rfl)
   ·
    repeat'(first|(simp only[go_sem,zA,zB,zC,zD,zE,zF,zG,reduceCtorEq,zH,zI,zJ,zK,zL,lB,hbj,hz];all_goals refine nf ?_)|(refine stp ?_;intro K hK)|(apply hK;clear hK K)|refine stn ?_|(with_reducible first|refine⟨_,hcc,?_⟩|refine⟨by omega,a0l x,hx',?_⟩|refine⟨by omega,a0l y,hy',?_⟩)|(refine a0M ?_;intro K hK)|(clear hK K))
    all_goals(rw[a0d hjl (by omega)])
    all_goals(refine⟨j+1,by omega,⟨by omega,by omega⟩,Gh.tt []⟩)
  ·have hjs:j=s.length:=by omega
   subst hjs
   have hbj:decide ((s.length:Int)<(s.length:Int))=false:=by simp
   rw[b8q,Nat.add_zero] at hp
   have hnone:s[s.length]?= none:=by simp
   repeat'(first|(simp only[go_sem,zA,zB,zC,zD,zE,zF,zG,reduceCtorEq,zH,zI,zJ,zK,zL,lB,hbj,hb,Int.toNat_natCast,List.drop_zero,lK,a3N,a4B,b8t,b8u];all_goals refine nf ?_)|(refine stp ?_;intro K hK)|(apply hK;clear hK K)|refine stn ?_|(with_reducible first|refine⟨by omega,a0l x,hx',?_⟩|(refine⟨(by first|omega|(simp only[lA,lB,List.length_take,List.length_drop,lC,List.length_nil,List.length_replicate];omega):_≤_),?_⟩))|(with_reducible refine AWP.genR (id:=10) [6,10] [50] mixed (by kernel_rfl) fun K hK=>?_;simp only[Bx.outs,Bx.drop,cond_true,cond_false,Nat.reduceBEq,go_sem])|(refine a0M ?_;intro K hK)|refine stq ?_|(clear hK K))
   all_goals(rw[a0d hlt hlen0])
   all_goals(refine⟨a1L s.length x s,?_,?_⟩)
   all_goals(try first
    |(refine Gh.trans (Gh.freeze 61 rfl rfl (by simp only[go_sem,zA,zB,zC,zD,zE,zF,zG,reduceCtorEq,zH,zI,zJ,zK,zL,lB,lA]) (by simp only[go_sem,zA,zB,zC,zD,zE,zF,zG,reduceCtorEq,zH,zI,zJ,zK,zL,lB,lA])) ?_;simp only[go_sem,zA,zB,zC,zD,zE,zF,zG,reduceCtorEq,zH,zI,zJ,zK,zL,lB,lA];exact Gh.tt [])
    |(exact Gh.tt []))
   all_goals(refine⟨?_,by rw[a13];omega⟩;rw[Is,a2T hx,← hok,b7t,hp];simp only[b4C,hnone];try rfl)
 ·intro s hb hok
  refine sts ?_
  repeat'(first|(simp only[go_sem,zA,zB,zC,zD,zE,zF,zG,reduceCtorEq,zH,zI,zJ,zK,zL,lB,hb];all_goals refine nf ?_)|(refine stp ?_;intro K hK)|(apply hK;clear hK K)|refine stn ?_|(clear hK K))
  all_goals(first|exact fun _ h=>absurd h List.not_mem_nil|refine a0m ?_)
  all_goals(rw[show s=_ from hok.1,lK];rfl)
end Go.Proofs.YthbcdhfiibpeaaaGreat


