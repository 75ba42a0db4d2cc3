/- Lemmas. -/
import Derived.Test.YtoelgackkclcmaaGreatPc12
set_option linter.unusedSimpArgs false
set_option linter.unusedVariables false
set_option maxRecDepth 20000
set_option maxHeartbeats 64000000
namespace Go.Proofs.YtoelgackkclcmaaGreat
open Go Go.Sx
structure Grd where
  kind:Int
  name:List UInt8
  num:Int
  text:List UInt8
  key:KeyD
  kids:List Grd
mutual
def b1G:Grd→List C
  |⟨kind,name,num,text,key,kids⟩=>[.int .i64 kind, .str name, .int .i64 num, .str text, .int .i64 key.kind, .str key.text, .sl 7 (b9N kids)]
def b9N:List Grd→List (List C)
  |[]=>[]
  |g::l=>b1G g::b9N l
end
theorem b68:∀ l:List Grd,b9N l=l.map b1G
  |[]=>by simp only[b9N,za6]
  |g::l=>by simp only[b9N,zau,b68 l]
theorem a84 (g:Grd):b1G g=[.int .i64 g.kind, .str g.name, .int .i64 g.num, .str g.text, .int .i64 g.key.kind, .str g.key.text, .sl 7 (g.kids.map b1G)]:=by cases g;simp only[b1G,b68]
theorem a94 (x:Grd):b1G x=[.int .i64 x.kind, .str x.name, .int .i64 x.num, .str x.text, .int .i64 x.key.kind, .str x.key.text, .sl 7 (x.kids.map b1G)]:=a84 x
@[go_sem] theorem d0J (x:Grd):a1H 7 (b1G x)=some (b1G x,[]):=by rw[a84];rfl
@[go_sem low] theorem c8Z (x:Grd) (k:Nat):a1H k (b1G x)=a1H k [.int .i64 x.kind, .str x.name, .int .i64 x.num, .str x.text, .int .i64 x.key.kind, .str x.key.text, .sl 7 (x.kids.map b1G)]:=by rw[a94]
@[go_sem] theorem c80 (x:Grd):a1H 7 ((b1G x).map Cell.dat)=some ((b1G x).map Cell.dat,[]):=by rw[a84];rfl
@[go_sem low] theorem c8i (x:Grd) (k:Nat):a1H k ((b1G x).map Cell.dat)=a1H k (([.int .i64 x.kind, .str x.name, .int .i64 x.num, .str x.text, .int .i64 x.key.kind, .str x.key.text, .sl 7 (x.kids.map b1G)]:List C).map Cell.dat):=by rw[a94]
@[go_sem] theorem c81 (x:Grd):(b1G x).map C.soft=b1G x:=by rw[a84];rfl
@[go_sem] theorem d0K (x:Grd):a1Z 7 (b1G x)=true:=by rw[a84];rfl
@[go_sem high] theorem c8j (x:Grd) (n:Nat) (K:T→Prop):a5p false n (b1G x) K=K (.one (.dat (.int .i64 x.kind))):=by rw[a94];rfl
@[go_sem high] theorem c8k (x:Grd) (n:Nat) (K:T→Prop):a5Y false n ((b1G x).map Cell.dat) K=K (.one (.dat (.int .i64 x.kind))):=by rw[a94];rfl
@[go_sem] theorem c82 (x:Grd):a1Z 7 ((b1G x).map Cell.dat)=true:=by rw[a84];rfl
mutual
def c5V:Grd→Nat
  |⟨_,_,_,_,_,kids⟩=>1+b9O kids
def b9O:List Grd→Nat
  |[]=>0
  |g::l=>c5V g+b9O l
end
theorem c5W (g:Grd):c5V g=1+b9O g.kids:=by cases g;simp only[c5V]
theorem b4c:∀ {l:List Grd} {g:Grd},g∈l→c5V g≤b9O l
 |x::l,g,h=>by
  simp only[b9O]
  rcases zal.1 h with rfl|h
  ·omega
  ·have:=b4c h;omega
abbrev GSm (g:Grd):Prop:=c5V g≤100000000
theorem c5X {g k:Grd} (h:k∈g.kids):c5V k<c5V g:=by have:=c5W g;have:=b4c h;omega
theorem GSm.kid {g:Grd} (h:GSm g):∀ k∈g.kids,GSm k:=fun k hk=>by have:=c5X hk;unfold GSm at *; omega
abbrev Gt (g:Grd):T:= .st (b1G g)
def c4J (f:Src→Grd×Src) (d:Nat):Prop:=∀ s:Src,s.ok→PCB Tryz.prog 20 [Sp pin,I .i64 d] [(pin,a00 s)] (Gt (f s).1) [(pin,a00 (f s).2)]
theorem c4J.k {f:Src→Grd×Src} {d:Nat} (H:c4J f d) (k:Nat) (s:Src) (hs:s.ok):a1k Tryz.prog 20 [Sp k,I .i64 d] k (a00 s) (Gt (f s).1) (a00 (f s).2):=a1k.mk k (H s hs)
end Go.Proofs.YtoelgackkclcmaaGreat

