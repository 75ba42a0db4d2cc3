/- Lemmas of the proof. -/
import Derived.Test.YthbcdhfiibpeaaaGreatTm30
import Derived.Test.YthbcdhfiibpeaaaGreatTm28
open Nat renaming reduceBEq→zA,reduceBNe→zB,reduceAdd→zC,reduceSub→zD,reduceMul→zE,reduceLeDiff→zF,reduceLT→zG,reduceEqDiff→zH
open Int renaming reduceToNat→zI,reduceLE→zJ,reduceLT→zK,reduceEq→zL
open Bool renaming not_eq_true'→zM,not_eq_false'→zN
set_option linter.unusedSimpArgs false
set_option linter.unusedVariables false
set_option maxRecDepth 20000
set_option maxHeartbeats 64000000
namespace Go.Proofs.YthbcdhfiibpeaaaGreat
open Go Go.Sx
mutual
def b1q:Val→Bool
  |⟨kind,_,_,kids,_,_,labels⟩=>!(decide (kind=9)||decide ((0:Int)<(labels.length:Int)))&&b0j kids
def b0j:List Val→Bool
  |[]=>true
  |v::l=>b1q v&&b0j l
end
theorem b0k:∀ l:List Val,b0j l=l.all b1q
  |[]=>by simp only[b0j,List.all_nil]
  |v::l=>by simp only[b0j,List.all_cons,b0k l]
theorem b3D (v:Val):b1q v=(!(decide (v.kind=9)||decide ((0:Int)<(v.labels.length:Int)))&&v.kids.all b1q):=by cases v;simp only[b1q,b0k]
theorem a2v (l:List (List UInt8)):(a0N l).length≤l.length:=by
 have h:∀ (l acc:List (List UInt8)),(l.foldl a8S acc).length≤acc.length+l.length:=by
  intro l
  induction l with
  |nil=>intro acc;simp
  |cons x l ih=>
   intro acc
   have h1:=ih (a8S acc x)
   have h2:=c09 acc x
   simp only[List.foldl_cons,List.length_cons]
   omega
 have:=h l []
 simpa [a0N] using this
theorem b7a (s:Src):(a02 s).1.length≤2:=by
 unfold a02
 cases decide (a0h s 3=1)<;>simp only[cond_true,cond_false]
 ·simp
 ·cases decide (a0h (a0f (a0f s 3) 3) 2=1)<;>simp only[cond_true,cond_false]
  ·have:=a2v [a3M (a0f s 3)];simp at this;omega
  ·have:=a2v [a3M (a0f s 3),a3M (a0f (a0f (a0f s 3) 3) 2)];simp at this;omega
def bnd:Nat→Nat
  |0=>1
  |1=>1
  |h+2=>8*(bnd (h+1)+2)+8*(bnd h+2)+20
def c65 (v:Val):Prop:=v.labels=[]∧(b1q v=true→a0C v=true)
theorem b3E {α:Type} {p:α→Prop} {l:List α} {d:α} (hl:∀ x∈l,p x) (hd:p d) (i:Nat):p (l.getD i d):=by
  rw[List.getD_eq_getElem?_getD]
  cases h:l[i]? with
  |none=>exact hd
  |some x=>exact hl x (List.mem_of_getElem? h)
theorem a6O (v:Val) (hk:v.kids=[]) (he:v.ents=[]):a0C v=a0P v:=by
  rw[a1p,hk,he];simp
theorem b2u (k:Int) (s:Src):c65 (a9R k s).1:=by
 have hw:((b0E s).length:Int)≤64:=b3E (p:=fun w:List UInt8=>(w.length:Int)≤64) (by simp[wordL]) (by simp) _
 have ha:a2g (a7S s)=true∨a7S s=[]:=b3E (p:=fun w:List UInt8=>a2g w=true∨w=[]) (by simp only[atomL];intro x hx;simp only[List.mem_cons,List.not_mem_nil,or_false] at hx;left;rcases hx with rfl|rfl|rfl|rfl<;>decide) (.inr rfl) _
 have hal:a7S s≠[]:=by
  have hv:=a0p s (n:=4) (by omega)
  have:(a0h s 4).toNat=0∨(a0h s 4).toNat=1∨(a0h s 4).toNat=2∨(a0h s 4).toNat=3:=by omega
  unfold a7S
  rcases this with h|h|h|h<;>rw[h]<;>simp[atomL]
 have ha':a2g (a7S s)=true:=by rcases ha with h|h;exact h;exact absurd h hal
 have hp:0≤a0h s 3:=(a0p s (by omega)).1
 have hlb:a12 []=true:=rfl
 unfold a9R
 cases decide (k=0)<;>cases decide (k=1)<;>cases decide (k=2)<;>cases decide (k=3)<;>cases decide (k=4)<;>simp only[cond_true,cond_false]<;>
  (refine⟨rfl,fun _=>?_⟩;rw[a6O _ rfl rfl];simp[a0P,a1K,a0O,a3t,b0C,a3X,a3Y,a3Z,a30,a3h,a6L,a9Q,b1e,a0Z,a2L,hlb,hw,ha',hp])
theorem a6l:a0C a0Z=true:=by rw[a6O _ rfl rfl];rfl
theorem a5Q (a b:Val) (hb:b.kind=5∨b.kind=7):a0C (a0X a b)=(a0C a&&a0C b):=by
 rw[a1p]
 have hn:a0P (a0X a b)=true:=by
  have hlb:a12 []=true:=rfl
  rcases hb with h|h<;>simp[a0P,a1K,a0O,a3t,b0C,a3X,a3Y,a3Z,a30,a0X,hlb,a9P,h]
 rw[hn];simp[a0X]
end Go.Proofs.YthbcdhfiibpeaaaGreat

