/- Lemmas of the proof. -/
import Derived.Test.YthbcdhfiibpeaaaGreatTm45
import Derived.Test.YthbcdhfiibpeaaaGreatTm34
open List renaming mem_singleton→lN
open Nat renaming reduceBEq→zA,reduceBNe→zB,reduceAdd→zC,reduceSub→zD,reduceMul→zE,reduceLeDiff→zF,reduceLT→zG,reduceEqDiff→zH
open Int renaming reduceToNat→zI,reduceLE→zJ,reduceLT→zK,reduceEq→zL
open Bool renaming not_eq_true'→zM,not_eq_false'→zN
set_option linter.unusedSimpArgs false
set_option linter.unusedVariables false
set_option maxRecDepth 20000
set_option maxHeartbeats 64000000
namespace Go.Proofs.YthbcdhfiibpeaaaGreat
open Go Go.Sx
theorem c1T {x:NodeD} (h:a0z x=true):1≤x.kind∧x.kind≤19:=by
 rcases Decidable.em (1≤x.kind∧x.kind≤19) with h1|h1
 ·exact h1
 ·exfalso
  have e:∀ i:Int,1≤i→i≤19→decide (x.kind=i)=false:=fun i h2 h3=>by rw[decide_eq_false_iff_not];omega
  unfold a0z at h
  simp only[e 1 (by omega) (by omega),e 2 (by omega) (by omega),e 3 (by omega) (by omega),e 4 (by omega) (by omega),e 5 (by omega) (by omega),e 6 (by omega) (by omega),e 7 (by omega) (by omega),e 8 (by omega) (by omega),e 9 (by omega) (by omega),e 10 (by omega) (by omega),e 11 (by omega) (by omega),e 12 (by omega) (by omega),e 13 (by omega) (by omega),e 14 (by omega) (by omega),e 15 (by omega) (by omega),e 16 (by omega) (by omega),e 17 (by omega) (by omega),e 18 (by omega) (by omega),e 19 (by omega) (by omega),Bool.or_false,cond_false] at h
  cases h
def a6P (l:List NodeD) (g:Int→Src→Val×Src):Nat→Int→Src→Val×Src
  |0,_,s=>a2S s
  |f+1,k,s=>a1o l g (a6P l g f) (l.getD k.toNat (a0G 1)) s
def b0l (p:Val×Src):Val×Src:=bif a0C p.1 then p else a2S p.2
def b7b (l:List NodeD):Nat→Int→Src→Val×Src
  |0,k,s=>b0l (a2S s)
  |h+1,k,s=>b0l (a6P l (b7b l h) l.length k s)
theorem b4X {g:Int→Src→Val×Src} (hg:∀ k s,s.ok→(g k s).2.ok):∀ (fs:List FieldD) (y:b4L),y.1.ok→(c0e g fs y).1.ok
 |[],y,h=>h
 |f::fs,y,h=>by
  rw[c0e]
  cases f.opt&&decide (a0h y.1 2=1)
  ·refine b4X hg fs _ ?_
   cases f.opt
   ·exact hg _ _ h
   ·exact hg _ _ (a0j h 2)
  ·exact b4X hg fs _ (a0j h 2)
theorem b7c {g:Int→Src→Val×Src} (hg:∀ k s,s.ok→(g k s).2.ok) (x:NodeD) {s:Src} (h:s.ok):(a2c g x s).2.ok:=by
  unfold a2c a1U c7I
  have h1:=b4X hg x.fields (s,[],[]) h
  cases decide (a0h (c0e g x.fields (s,[],[])).1 2=1)
  · exact a0j h1 2
  · exact hg _ _ (a0j (a0j h1 2) 2)
theorem b7d {g:Int→Src→Val×Src} (hg:∀ k s,s.ok→(g k s).2.ok) (x:NodeD) {s:Src} (h:s.ok):(a2l g x s).2.ok:=
  a6f (fun s hs=>b4M hg _ hs) _ _ (a0j h 3)
theorem c1U {l:List NodeD} {g nx:Int→Src→Val×Src} (hg:∀ k s,s.ok→(g k s).2.ok) (hn:∀ k s,s.ok→(nx k s).2.ok) (x:NodeD) {s:Src} (h:s.ok):(a1o l g nx x s).2.ok:=by
  unfold a1o
  cases decide (x.kind=3)<;>simp only[cond_true,cond_false]<;>try exact a0j h _
  cases decide (x.kind=4)<;>simp only[cond_true,cond_false]<;>try exact h
  cases decide (x.kind=5)<;>simp only[cond_true,cond_false]<;>try exact a0j h _
  cases decide (x.kind=6)<;>simp only[cond_true,cond_false]<;>try exact h
  cases decide (x.kind=7)<;>simp only[cond_true,cond_false]<;>try exact a0j h _
  cases decide (x.kind=8)<;>simp only[cond_true,cond_false]<;>try exact a0j h _
  cases decide (x.kind=9)<;>simp only[cond_true,cond_false]<;>try exact h
  cases decide (x.kind=10)<;>simp only[cond_true,cond_false]<;>try exact a85 hg _ _ h
  cases decide (x.kind=12)<;>simp only[cond_true,cond_false]<;>try exact a85 hg _ _ h
  cases decide (x.kind=13)<;>simp only[cond_true,cond_false]<;>try exact b7c hg x h
  cases decide (x.kind=14)<;>simp only[cond_true,cond_false]<;>try exact b7d hg x h
  cases decide (x.kind=16)<;>simp only[cond_true,cond_false]<;>try exact hn _ _ (a0j h _)
  cases decide (x.kind=17)<;>simp only[cond_true,cond_false]<;>try exact hn _ _ (a0j h _)
  cases decide (x.kind=19)<;>simp only[cond_true,cond_false]
  · exact b4G 2 s h
  · exact a3L h
theorem b2v {l:List NodeD} {g:Int→Src→Val×Src} (hg:∀ k s,s.ok→(g k s).2.ok):∀ (f:Nat) (k:Int) (s:Src),s.ok→(a6P l g f k s).2.ok
  |0,k,s,h=>a3L h
  |f+1,k,s,h=>c1U hg (b2v hg f) _ h
theorem b9n {p:Val×Src} (h:p.2.ok):(b0l p).2.ok:=by
  unfold b0l
  cases a0C p.1
  · exact a3L h
  · exact h
theorem b2w (l:List NodeD):∀ (h:Nat) (k:Int) (s:Src),s.ok→(b7b l h k s).2.ok
  |0,k,s,hs=>b9n (a3L hs)
  |h+1,k,s,hs=>b9n (b2v (b2w l h) _ _ _ hs)
theorem b3F:∀ (r:List (KeyD×Val)) (ks:List KeyD) (vs:List Val),(a6w r ks vs).1.labels=[]
 |[],ks,vs=>by rw[a6w];rfl
 |(x,v)::r,ks,vs=>by
  rw[a6w]
  cases decide (ks[b6N ks x]?= some x)
  ·exact b3F r _ _
  ·rfl
theorem c1V (ks:List KeyD) (l:List Val):(a83 ks l).1.labels=[]:=by
 unfold a83
 cases decide ((ks.length:Int)=(l.length:Int))
 ·rfl
 ·cases ks.all a0s
  ·rfl
  ·exact b3F _ _ _
theorem c4M (n:Int) (l:List Ent):(fnV n l).1.labels=[]:=by
  unfold fnV
  cases decide (n<0)||decide (4<n)
  · cases l.all (fun e=>b5x e n)<;>rfl
  · rfl
theorem c1W (s:Src):(a2S s).1.labels=[]:=(b2u _ _).1
theorem b4Y (g:Int→Src→Val×Src) (x:NodeD) (s:Src):(a2c g x s).1.labels=[]:=by
  unfold a2c
  cases decide ((a83 (a1U g x s).2.1 (a1U g x s).2.2).2=0)
  · rfl
  · exact c1V _ _
theorem b4Z (g:Int→Src→Val×Src) (x:NodeD) (s:Src):(a2l g x s).1.labels=[]:=by
  unfold a2l
  cases decide ((fnV ((x.kids.length:Int)-1) (a48 g x s).1).2=0)
  · rfl
  · exact c4M _ _
theorem b40 (l:List Val):(a5P l).labels=[]:=by
  match l with
  |[]=>rfl
  |[_]=>rfl
  |[_,_]=>rfl
  |_::_::_::_=>rfl
theorem b3G (l:List NodeD):∀ (ks:List Int) (v:Val),(ks.foldl (b5Z l) v).labels.length≤v.labels.length+ks.length
 |[],v=>Nat.le_refl _
 |k::ks,v=>by
  have h1:=b3G l ks (b5Z l v k)
  have h2:=b50 l v k
  rw[List.foldl_cons,List.length_cons]
  omega
theorem b9o {l:List NodeD} {g nx:Int→Src→Val×Src} {B K:Nat} (hB:2≤B) (hn:∀ k s,(nx k s).1.labels.length≤B) (x:NodeD) (hk:x.kids.length≤K) (s:Src):(a1o l g nx x s).1.labels.length≤B+K:=by
 unfold a1o
 have z:([]:List (List UInt8)).length≤B+K:=Nat.zero_le _
 cases decide (x.kind=3)<;>simp only[cond_true,cond_false]<;>try exact z
 cases decide (x.kind=4)<;>simp only[cond_true,cond_false]<;>try exact z
 cases decide (x.kind=5)<;>simp only[cond_true,cond_false]<;>try exact z
 cases decide (x.kind=6)<;>simp only[cond_true,cond_false]<;>try exact z
 cases decide (x.kind=7)<;>simp only[cond_true,cond_false]<;>try exact z
 cases decide (x.kind=8)<;>simp only[cond_true,cond_false]<;>try exact z
 cases decide (x.kind=9)<;>simp only[cond_true,cond_false]<;>try exact z
 cases decide (x.kind=10)<;>simp only[cond_true,cond_false]<;>try exact z
 cases decide (x.kind=12)<;>simp only[cond_true,cond_false]
 ·cases decide (x.kind=13)<;>simp only[cond_true,cond_false]
  ·cases decide (x.kind=14)<;>simp only[cond_true,cond_false]
   ·cases decide (x.kind=16)<;>simp only[cond_true,cond_false]
    ·cases decide (x.kind=17)<;>simp only[cond_true,cond_false]
     ·cases decide (x.kind=19)<;>simp only[cond_true,cond_false]
      ·have h1:(b3o 2 s).1.labels=(a02 (a5k 2 s).2).1:=rfl
       have:=b7a (a5k 2 s).2
       rw[h1];omega
      ·have:=a2v [x.text]
       simp only[List.length_singleton] at this
       omega
     ·have:=b3G l x.kids (nx (b0h x.kids s) (a0f s x.kids.length)).1
      have:=hn (b0h x.kids s) (a0f s x.kids.length)
      omega
    ·have:=hn (b0h x.kids s) (a0f s x.kids.length)
     omega
   ·rw[b4Z];exact z
  ·rw[b4Y];exact z
 ·rw[b40];exact z
theorem b3H {l:List NodeD} {g:Int→Src→Val×Src} (hl:∀ x∈l,x.kids.length≤10):∀ (f:Nat) (k:Int) (s:Src),(a6P l g f k s).1.labels.length≤2+10*f
 |0,k,s=>by rw[a6P,c1W];exact Nat.zero_le _
 |f+1,k,s=>by
  have hx:(l.getD k.toNat (a0G 1)).kids.length≤10:=by
   rw[List.getD_eq_getElem?_getD]
   cases h:l[k.toNat]? with
   |none=>simp[a0G]
   |some x=>exact hl x (List.mem_of_getElem? h)
  have:=b9o (l:=l) (g:=g) (B:=2+10*f) (K:=10) (by omega) (b3H (g:=g) hl f) _ hx s
  rw[a6P];omega
theorem c4N {l:List NodeD} (r:Int) (hlen:l.length≤1000) (hl:∀ (j:Nat) (x:NodeD),l[j]?= some x→GoodN l.length j x) {g:Int→Src→Val×Src} {h:Nat} (H:b0J l r g (h:Int)) (hg:∀ k s,s.ok→(g k s).2.ok) (hh:h≤1000):
  ∀ (f:Nat) (k:Nat),k<l.length→l.length≤k+f→f≤1000→∀ s:Src,s.ok→a0W l r (a6P l g f (k:Int)) h k s:=by
 have h10:∀ x∈l,x.kids.length≤10:=fun x hx=>by
  obtain⟨j,hj⟩:=List.getElem?_of_mem hx
  exact(hl j x hj).kid
 intro f
 induction f with
 |zero=>intro k hk hf;omega
 |succ f ih=>
  intro k hk hf hf1 s hs
  have hx:l[k]?= some l[k]:=List.getElem?_eq_getElem hk
  obtain⟨x,hxe⟩:∃ x,x=l[k]:=⟨_,rfl⟩
  rw[← hxe] at hx
  have hG:=hl k x hx
  have e:a6P l g (f+1) (k:Int)=a1o l g (a6P l g f) x:=by
   funext s'
   rw[a6P,Int.toNat_natCast,List.getD_eq_getElem?_getD,hx];rfl
  rw[e]
  have hki:∀ y∈x.kids,0≤y∧y<(l.length:Int):=fun y hy=>hG.edge y (List.mem_append_left _ (List.mem_append_left _ hy))
  have hkid:=hG.kid
  have hfld:=hG.fld
  have hv:=hG.kind
  have Hn:a3x x.kind=true→∀ y:Int,y∈x.kids→∀ s:Src,s.ok→PCB Tryz.prog 81 [Sp pin,Tt l r,I .i64 y,I .i64 ((h+1:Nat):Int)] [(pin,a1d s)] (Vt (a6P l g f y s).1) [(pin,a1d (a6P l g f y s).2)]:=by
   intro hb y hy s' hs'
   have h1:=hki y hy
   have h2:=hG.on hb y hy
   have:=ih y.toNat (by omega) (by omega) (by omega) s' hs'
   unfold a0W at this
   rwa[show ((y.toNat:Nat):Int)=y by omega] at this
  have hL:∀ y s,(a6P l g f y s).1.labels.length≤900000:=fun y s=>by have:=b3H (g:=g) h10 f y s;omega
  have hkk:1≤x.kind∧x.kind≤19:=c1T hv
  have hc:x.kind=1∨x.kind=2∨x.kind=3∨x.kind=4∨x.kind=5∨x.kind=6∨x.kind=7∨x.kind=8∨x.kind=9∨x.kind=10∨x.kind=11∨x.kind=12∨x.kind=13∨x.kind=14∨x.kind=15∨x.kind=16∨x.kind=17∨x.kind=18∨x.kind=19:=by omega
  rcases hc with c|c|c|c|c|c|c|c|c|c|c|c|c|c|c|c|c|c|c
  ·exact c4K l r g _ h hh hlen x k hx c s hs
  ·exact c4L l r g _ h hh hlen x k hx c s hs
  ·exact c4D l r g _ h hh hlen x k hx c s hs
  ·exact c4E l r g _ h hh hlen x k hx c s hs
  ·exact c4F l r g _ h hh hlen x k hx c s hs
  ·exact c4G l r g _ h hh hlen x k hx c s hs
  ·exact c4H l r g _ h hh hlen x k hx c s hs
  ·exact c4I l r g _ h hh hlen x k hx c s hs
  ·exact c4J l r g _ h hh hlen x k hx c s hs
  ·exact c1Q l r g _ h H hg hh hlen x k hx c hki (by omega) s hs
  ·exact c1J l r g _ h hh hlen x k hx c s hs
  ·have h2:x.kids.length=2:=by
    unfold a0z at hv
    rw[c] at hv
    simp at hv
    omega
   exact c1R l r g _ h H hg hh hlen x k hx c hki h2 s hs
  ·have hr:∀ y,y=x.r0∨y=x.r1→0≤y∧y<(l.length:Int):=fun y hy=>hG.edge y (by
    unfold edgeL;rw[c]
    rcases hy with rfl|rfl<;>simp)
   refine c1M l r g _ h H hg hh hlen x k hx c (fun fl hfl=>hG.edge _ ?_) (by omega) (hr _ (.inl rfl)) (hr _ (.inr rfl)) s hs
   unfold edgeL
   exact List.mem_append_left _ (List.mem_append_right _ (List.mem_map_of_mem hfl))
  ·have h1:1≤x.kids.length:=by
    unfold a0z at hv
    rw[c] at hv
    simp at hv
    omega
   exact c1N l r g _ h H hg hh hlen x k hx c hki h1 (by omega) s hs
  ·exact c1K l r g _ h hh hlen x k hx c s hs
  ·have h1:1≤x.kids.length:=by
    unfold a0z at hv
    rw[c] at hv
    simp at hv
    omega
   exact c1O l r g _ h hh hlen x k hx c hki h1 (by omega) (Hn (by rw[c];rfl)) s hs
  ·have h1:1≤x.kids.length:=by
    unfold a0z at hv
    rw[c] at hv
    simp at hv
    omega
   exact c1S l r g _ h hh hlen x k hx c hki h1 (by omega) (Hn (by rw[c];rfl)) hL s hs
  ·exact c1L l r g _ h hh hlen x k hx c s hs
  ·exact c1P l r g _ h hh hlen x k hx c s hs
theorem b9p (s:Src):a0C (a2S s).1=true:=by
 refine(b2u (a0h s 6) (a0f s 6)).2 ?_
 unfold a9R
 cases decide (a0h s 6=0)<;>cases decide (a0h s 6=1)<;>cases decide (a0h s 6=2)<;>cases decide (a0h s 6=3)<;>cases decide (a0h s 6=4)<;>simp only[cond_true,cond_false]<;>
  (rw[b3D];simp[a3h,a6L,a9Q,b1e,a0Z,a2L])
theorem b9q (p:Val×Src):a0C (b0l p).1=true:=by
  unfold b0l
  cases h:a0C p.1
  · exact b9p _
  · exact h
theorem b9r (l:List NodeD) (h:Nat) (k:Int) (s:Src):a0C (b7b l h k s).1=true:=by
  cases h<;>exact b9q _
theorem c2K {l:List NodeD} {r k:Int} {h:Nat} {s:Src} {p:Val×Src} (hp:p.2.ok) (H:PCB Tryz.prog 81 [Sp pin,Tt l r,I .i64 k,I .i64 (h:Int)] [(pin,a1d s)] (Vt p.1) [(pin,a1d p.2)]):
  PCB Tryz.prog 46 [Sp pin,Tt l r,I .i64 k,I .i64 (h:Int)] [(pin,a1d s)] (Vt (b0l p).1) [(pin,a1d (b0l p).2)]:=by
 have hV:=a9U p.1
 have hN:a2f Tryz.prog 81 [Sp 1000000, .st [.sl 8 (l.map a0c), .int .i64 r],I .i64 k,I .i64 (h:Int)] 1000000 (a1d s) (Vt p.1) (a1d p.2):=a2f.mk 1000000 H
 rw[Vt,a0a] at hN
 rw[a0a] at hV
 unfold b0l
 cases ht:a0C p.1
 all_goals
  refine PCB.ob Tryz.func46 Tryz.ntmps46 Tryz.results46 ?_
  repeat'(first|(simp only[go_sem,zA,zB,zC,zD,zE,zF,zG,reduceCtorEq,zH,zI,zJ,zK,zL,pin,ht];all_goals refine nf ?_)|(refine stp ?_;intro K hK)|(apply hK;clear hK K)|refine stn ?_|(with_reducible refine⟨_,hV,?_⟩)|(refine⟨1000000,_,_,_,hN,rfl,?_⟩)|(refine⟨1000000,_,_,_,a9S 1000000 p.2 hp,rfl,?_⟩)|refine stq ?_|(clear hK K))
 all_goals first|exact⟨rfl,fun x hx=>by simp only[lN] at hx;subst hx;simp[pin]⟩|exact⟨trivial,fun x hx=>by simp only[lN] at hx;subst hx;simp[pin]⟩|(intro x hx;simp only[lN] at hx;subst hx;simp[pin])|(refine⟨by simp only[Vt,a0a]<;>rfl,fun x hx=>by simp only[lN] at hx;subst hx;simp[pin]⟩)|fail
theorem b9s (l:List NodeD) (r k:Int) (s:Src) (hs:s.ok):PCB Tryz.prog 81 [Sp pin,Tt l r,I .i64 k,I .i64 ((0:Nat):Int)] [(pin,a1d s)] (Vt (a2S s).1) [(pin,a1d (a2S s).2)]:=by
  have h0:decide (((0:Nat):Int)≤0)=true:=rfl
  refine PCB.ob Tryz.func81 Tryz.ntmps81 Tryz.results81 ?_
  repeat'(first|(simp only[go_sem,zA,zB,zC,zD,zE,zF,zG,reduceCtorEq,zH,zI,zJ,zK,zL,pin,h0];all_goals refine nf ?_)|(refine stp ?_;intro K hK)|(apply hK;clear hK K)|refine stn ?_|(refine⟨1000000,_,_,_,a9S 1000000 s hs,rfl,?_⟩)|refine stq ?_|(clear hK K))
  all_goals first|exact fun x hx=>hx|exact⟨rfl,fun x hx=>by simp only[lN] at hx;subst hx;simp[pin]⟩|exact⟨trivial,fun x hx=>by simp only[lN] at hx;subst hx;simp[pin]⟩|(intro x hx;simp only[lN] at hx;subst hx;simp[pin])|(refine⟨by simp only[Vt,a0a]<;>rfl,fun x hx=>by simp only[lN] at hx;subst hx;simp[pin]⟩)|fail
theorem c2L {l:List NodeD} (r:Int) (hlen:l.length≤1000) (hl:∀ (j:Nat) (x:NodeD),l[j]?= some x→GoodN l.length j x):∀ h:Nat,h≤1000→b0J l r (b7b l h) (h:Int)
 |0,_=>fun k s hs _ _=>c2K (a3L hs) (b9s l r k s hs)
 |h+1,hh=>fun k s hs h0 h1=>by
  have:=c4N r hlen hl (c2L r hlen hl h (by omega)) (b2w l h) (by omega) l.length k.toNat (by omega) (by omega) (by omega) s hs
  unfold a0W at this
  rw[show ((k.toNat:Nat):Int)=k by omega] at this
  exact c2K (b2v (b2w l h) _ _ _ hs) this
end Go.Proofs.YthbcdhfiibpeaaaGreat

