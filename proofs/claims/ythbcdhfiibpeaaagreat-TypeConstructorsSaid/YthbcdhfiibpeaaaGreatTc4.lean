/- Lemmas of the proof. -/
import Derived.Test.YthbcdhfiibpeaaaGreatTc1
import Derived.Test.YthbcdhfiibpeaaaGreatTc3
open Go.Proofs.Tryz renaming prog→zP
open List renaming length_map→lB
open Nat renaming reduceBEq→zA,reduceBNe→zB,reduceAdd→zC,reduceSub→zD,reduceMul→zE,reduceLeDiff→zF,reduceLT→zG,reduceEqDiff→zH
open Int renaming reduceToNat→zI,reduceLE→zJ,reduceLT→zK,reduceEq→zL
open Bool renaming not_eq_true'→zM,not_eq_false'→zN
set_option linter.unusedSimpArgs false
set_option linter.unusedVariables false
set_option maxRecDepth 20000
set_option maxHeartbeats 64000000
namespace Go.Proofs.YthbcdhfiibpeaaaGreat
open Go Go.Sx
theorem b4d {l:List Ivl.Rg} (hsz:l.length≤100000):TyS 2 ((Ivl.nf l).map rgT):=by
 have hnl:=Ivl.nf_len l
 exact⟨fun t ht=>by
  obtain⟨r,_,rfl⟩:=List.mem_map.1 ht
  exact⟨a5l _ rfl rfl,by simp[rgT]⟩,by rw[lB];omega⟩
theorem c0x {l:List Ivl.Rg} (hsz:l.length≤100000) (v:Val):a1q v (a5L l)=(decide (v.kind=1)&&c0d l v.num):=by
 unfold a5L
 rw[a8k (b4d hsz),List.any_map]
 have hN:=(Ivl.nf_Nf l).1
 have e:(Ivl.nf l).any (a1q v ∘ rgT)=(Ivl.nf l).any fun r=>decide (v.kind=1)&&(decide (r.lo≤v.num)&&decide (v.num≤r.hi)):=
  a5M fun r hr=>c3s (hN r hr) v
 rw[e]
 have e2:c0d l v.num=c0d (Ivl.nf l) v.num:=by
  have:=Ivl.nf_has l v.num
  rw[← Bool.coe_iff_coe]
  unfold c0d
  simp only[List.any_eq_true,Bool.and_eq_true,decide_eq_true_eq]
  exact this.symm
 rw[e2]
 unfold c0d
 cases decide (v.kind=1) with
 |true=>simp only[Bool.true_and]
 |false=>simp only[Bool.false_and];simp
theorem c3w {l:List Ivl.Rg} (hsz:l.length≤100000):wfP (a5L l).1 (a5L l).2=0:=b2A (b4d hsz)
theorem c0y (s:List (List UInt8)) (x y:List UInt8):y∈a8S s x↔y=x∨y∈s:=by
 unfold a8S
 cases h:decide (s[tw (fun y=>Op.bytesLess y x) s]?= some x) with
 |true=>
  rw[cond_true]
  have:=List.mem_of_getElem? (of_decide_eq_true h)
  exact⟨.inr,fun h=>h.elim (fun e=>e▸this) id⟩
 |false=>
  rw[cond_false]
  unfold a1L
  generalize tw (fun y=>Op.bytesLess y x) s=k
  rw[List.mem_append,List.mem_append,List.mem_singleton]
  constructor
  ·rintro ((h|h)|h)
   ·exact .inr (List.mem_of_mem_take h)
   ·exact .inl h
   ·exact .inr (List.mem_of_mem_drop h)
  ·rintro (h|h)
   ·exact .inl (.inr h)
   ·rw[← List.take_append_drop k s,List.mem_append] at h
    exact h.elim (fun h=> .inl (.inl h)) .inr
theorem b2U:∀ (l s:List (List UInt8)) (y:List UInt8),y∈l.foldl a8S s↔y∈l∨y∈s
 |[],s,y=>by simp
 |x::l,s,y=>by
  rw[List.foldl_cons,b2U l (a8S s x) y,c0y,List.mem_cons]
  constructor
  ·rintro (h|h|h)
   ·exact .inl (.inr h)
   ·exact .inl (.inl h)
   ·exact .inr h
  ·rintro ((h|h)|h)
   ·exact .inr (.inl h)
   ·exact .inl h
   ·exact .inr (.inr h)
theorem b4e (l:List (List UInt8)) (y:List UInt8):y∈a0N l↔y∈l:=by
  unfold a0N;rw[b2U];simp
def c2o (c:Bool) (l:List (List UInt8)) (s:List UInt8):Bool:=(l.any fun t=>decide (t=s)) != c
structure NmK (one all kd:Int):Prop where
  txt:∀ s,a0z (a09 one s)=true→∀ v,a1q v (nmT one s)=(decide (v.kind=kd)&&decide (v.text=s))
  all:∀ v,a1q v ([a0G all],0)=decide (v.kind=kd)
  ok:∀ v,a0C v=true→v.kind=kd→a0z (a09 one v.text)=true
theorem b7P {one all kd:Int} (H:NmK one all kd) (l:List (List UInt8)) (hl:l.length≤1000) (v:Val) (hv:a0C v=true):a1q v (a1e (a1j one l))=(decide (v.kind=kd)&&l.any fun t=>decide (t=v.text)):=by
 rw[a8k (a5s one l (by omega))]
 unfold a1j
 rw[List.any_map]
 have e:((a0N l).filter fun s=>a0z (a09 one s)).any (a1q v ∘ nmT one)=((a0N l).filter fun s=>a0z (a09 one s)).any fun s=>decide (v.kind=kd)&&decide (v.text=s):=
  a5M fun s hs=>H.txt s (List.mem_filter.1 hs).2 v
 rw[e]
 cases hk:decide (v.kind=kd) with
 |false=>simp only[Bool.false_and];simp
 |true=>
  simp only[Bool.true_and]
  have hok:=H.ok v hv (of_decide_eq_true hk)
  rw[← Bool.coe_iff_coe]
  simp only[List.any_eq_true,decide_eq_true_eq,List.mem_filter,b4e]
  constructor
  ·rintro⟨s,⟨h1,_⟩,h2⟩;exact⟨s,h1,h2.symm⟩
  ·rintro⟨s,h1,h2⟩;exact⟨s,⟨h1,by rw[h2];exact hok⟩,h2.symm⟩
theorem b1O (one:Int) (l:List (List UInt8)) (hl:l.length≤1000):TyS 100000 [a1e (a1j one l)]∧TyS 200000 [([a0G (one+1)],0),b7r (a1e (a1j one l))]:=by
 have hS:=a5s one l (by omega)
 have h1:=a2v l
 have hUs:TSm (a1e (a1j one l)).1∧(a1e (a1j one l)).1.length≤10000:=by
  have h2:=List.length_filter_le (fun s=>a0z (a09 one s)) (a0N l)
  unfold a1e
  cases decide (((a1j one l).length:Int)=0)
  ·refine⟨b2Q hS,?_⟩
   have:=(a8b 16 (B:=2) (a1j one l) hS.one).1
   have h3:(a1j one l).length≤l.length:=by unfold a1j;rw[lB];omega
   show (overV 16 _).length≤_
   unfold overV
   rw[List.length_set];omega
  ·exact⟨a5l _ rfl rfl,by simp[a7w]⟩
 have hUl:=hUs.2
 have hN1:TyS 100000 [a1e (a1j one l)]:=b9F hUs.1 (by omega) (by omega)
 have hNl:=b42 (k:=18) hN1
 simp only[List.length_singleton] at hNl
 exact⟨hN1,a9l (a5l _ rfl rfl) (b2Q hN1) (by simp) (by show (overV 18 _).length<_;omega) (by omega)⟩
theorem b2V {one kd:Int} (H:NmK one (one+1) kd) (c:Bool) (l:List (List UInt8)) (hl:l.length≤1000) (v:Val) (hv:a0C v=true):a1q v (a2A one (one+1) c l)=(decide (v.kind=kd)&&c2o c l v.text):=by
 have hm:=b7P H l hl v hv
 obtain⟨s1,s2⟩:=b1O one l hl
 unfold a2A c2o
 cases c with
 |false=>
  rw[cond_false,hm]
  congr 1
  cases (l.any fun t=>decide (t=v.text))<;>rfl
 |true=>
  rw[cond_true,b7C s1 s2,hm,H.all]
  cases decide (v.kind=kd)<;>cases (l.any fun t=>decide (t=v.text))<;>rfl
theorem b5f (one:Int) (c:Bool) (l:List (List UInt8)) (hl:l.length≤1000):wfP (a2A one (one+1) c l).1 (a2A one (one+1) c l).2=0:=by
  obtain⟨s1,s2⟩:=b1O one l hl
  unfold a2A
  cases c
  · exact b2A (a5s one l (by omega))
  · exact c3q s2
theorem nm4:NmK 4 5 2 where
 txt s h v:=b7M h v
 all:=c0u
 ok v hv hk:=by
  rw[a80,a0P,a3t,hk] at hv
  simp only[Int.reduceEq,decide_true,decide_false,cond_true,cond_false,Bool.and_eq_true] at hv
  exact hv.1.2.2.2
theorem nm6:NmK 6 7 3 where
 txt s h v:=b7N h v
 all:=c0v
 ok v hv hk:=by
  rw[a80,a0P,a3t,hk] at hv
  simp only[Int.reduceEq,decide_true,decide_false,cond_true,cond_false,Bool.and_eq_true] at hv
  exact hv.1.2.2.2
def a7O (t:TyD):List NodeD:=[a1b 16 [1,2],a0G 9,a1b 12 [emR 3 t.1 t.2,0]]++(a0x t.1 t.2).map (upN (3:Nat))++[]
theorem b2W (t:TyD):a1O t=(a7O t,0):=by
  unfold a1O a7O
  rw[List.append_nil];rfl
theorem b4f {t:TyD} (h:(a0x t.1 t.2).length≤1000000):Emb (a7O t) (a0x t.1 t.2) 3:=
  Emb.mk_ (pre:=[a1b 16 [1,2],a0G 9,a1b 12 [emR 3 t.1 t.2,0]]) (s:=a0x t.1 t.2) (post:=[]) (by simp;omega)
theorem a7P (t:TyD):(a7O t).length=3+(a0x t.1 t.2).length:=by unfold a7O;simp;omega
theorem c6b {t:TyD} (h:(a0x t.1 t.2).length≤1000000):3≤emR 3 t.1 t.2∧emR 3 t.1 t.2<((a7O t).length:Int):=by
  have hs:=a5a t
  have:=(b4f h).up hs
  rw[a7P]
  have e:emR 3 t.1 t.2=a1M t.1 t.2+((3:Nat):Int):=this
  rw[e];omega
theorem c2p {t:TyD} (h:(a0x t.1 t.2).length≤1000000):wfP (a7O t) 0=0:=by
 have hE:=b4f h
 have hr:=c6b h
 have hlen:=a7P t
 have hs:=a5a t
 obtain⟨R,hR⟩:=Wf.of (a2H t)
 refine b9D (by omega) (by omega) (fun x hx=>?_) (fun j hj=>?_)
 ·unfold a7O at hx
  rw[List.append_nil] at hx
  rcases List.mem_append.1 hx with hx|hx
  ·simp only[List.mem_cons,List.not_mem_nil,or_false] at hx
   rcases hx with rfl|rfl|rfl
   ·show (a1J _&&(a0z _&&([1,2]:List Int).all fun e=>!a3W (a7O t) e))=true
    have e1:a3W (a7O t) 1=false:=by simp only[a3W,Bool.or_eq_false_iff,decide_eq_false_iff_not];omega
    have e2:a3W (a7O t) 2=false:=by simp only[a3W,Bool.or_eq_false_iff,decide_eq_false_iff_not];omega
    simp[e1,e2];exact⟨rfl,rfl⟩
   ·rfl
   ·show (a1J _&&(a0z _&&([emR 3 t.1 t.2,0]:List Int).all fun e=>!a3W (a7O t) e))=true
    have e1:a3W (a7O t) (emR 3 t.1 t.2)=false:=by simp only[a3W,Bool.or_eq_false_iff,decide_eq_false_iff_not];omega
    have e2:a3W (a7O t) 0=false:=by simp only[a3W,Bool.or_eq_false_iff,decide_eq_false_iff_not];omega
    simp[e1,e2];exact⟨rfl,rfl⟩
  ·obtain⟨y,hy,rfl⟩:=List.mem_map.1 hx
   exact b2x hE (hR.kind y hy)
 ·have b1:Gr.Fin (bo (a7O t)) (ks (a7O t)) 1:=Gr.fin_no _ _ rfl
  have b2:Gr.Fin (bo (a7O t)) (ks (a7O t)) 2:=Gr.fin_no _ _ rfl
  rcases Nat.lt_or_ge j 3 with h3|h3
  ·have:j=0∨j=1∨j=2:=by omega
   rcases this with rfl|rfl|rfl
   ·refine Gr.fin_of _ _ fun _ k hk=>?_
    have:ks (a7O t) 0=[1,2]:=rfl
    rw[this] at hk
    simp only[List.mem_cons,List.not_mem_nil,or_false] at hk
    rcases hk with rfl|rfl
    ·exact b1
    ·exact b2
   ·exact b1
   ·exact b2
  ·have:=b9C hE hR (j:=j-3) (by omega) (b2y (a2H t) _ (by omega))
   rwa[show 3+(j-3)=j by omega] at this
theorem c3x {t:TyD} (h:(a0x t.1 t.2).length≤1000000):wfP (a1O t).1 (a1O t).2=0:=by rw[b2W];exact c2p h
theorem b5g {t:TyD} (h:(a0x t.1 t.2).length≤1000000) (v:Val):a1q v (a1O t)=(decide (v.kind=5)||(decide (v.kind=7)&&(decide (v.kids.length=2)&&(a1q (v.kids.getD 0 a0Z) t&&a1q (v.kids.getD 1 a0Z) (a1O t))))):=by
 have hw:=c2p h
 have hlen:=a7P t
 have hr:=c6b h
 have hE:=b4f h
 obtain⟨R,hR⟩:=Wf.of hw
 obtain⟨R2,hR2⟩:=Wf.of (a2H t)
 have hk:∀ p,a4k (a7O t) p (emR 3 t.1 t.2)=a1q p t:=fun p=>b9A hE hR2 p _ (a5a t)
 have m0:∀ p,a4k (a7O t) p 0=a1q p (a1O t):=fun p=>by rw[b2W,a2X hw]
 have m1:a4k (a7O t) v 1=decide (v.kind=5):=by rw[a2s hR (by omega)];rfl
 have m2:a4k (a7O t) v 2=(decide (v.kind=7)&&a2K (a4k (a7O t)) v.kids [emR 3 t.1 t.2,0]):=by rw[a2s hR (by omega)];rfl
 rw[← m0,a2s hR (by omega)]
 show ([1,2]:List Int).any (a4k (a7O t) v)=_
 rw[List.any_cons,List.any_cons,List.any_nil,m1,m2,Bool.or_false]
 congr 2
 unfold a2K
 cases hv:decide (v.kids.length=2)
 ·rw[decide_eq_false_iff_not] at hv
  rw[decide_eq_false (show ¬ ((v.kids.length:Int)=(([emR 3 t.1 t.2,0]:List Int).length:Int)) from fun h=>hv (by simp only[List.length_cons,List.length_nil] at h;omega))];rfl
 ·rw[decide_eq_true_eq] at hv
  obtain⟨p,q,hpq⟩:∃ p q,v.kids=[p,q]:=by
   match hvk:v.kids,hv with
   |[p,q],_=>exact⟨p,q,rfl⟩
  rw[hpq]
  simp[hk,m0]
def a2j (v:Val):Option (List Val):=
 if h:v.kind=7∧v.kids.length=2 then
  match a2j (v.kids[1]'(by omega)) with
  |some l=>some (v.kids[0]'(by omega)::l)
  |none=>none
 else if v.kind=5 then some [] else none
termination_by a1V v
decreasing_by exact a3A (List.getElem_mem _)
def a0E (v:Val):Nat:=if h:v.kind=7∧v.kids.length=2 then a0E (v.kids[1]'(by omega))+1 else 0
termination_by a1V v
decreasing_by exact a3A (List.getElem_mem _)
theorem b2X {t:TyD} (h:(a0x t.1 t.2).length≤1000000) (v:Val):a1q v (a1O t)=match a2j v with|some l=>l.all fun p=>a1q p t|none=>false:=by
 rw[b5g h,a2j]
 by_cases hc:v.kind=7∧v.kids.length=2
 ·rw[dif_pos hc]
  have h1:1<v.kids.length:=by omega
  have h0:0<v.kids.length:=by omega
  have e1:v.kids.getD 1 a0Z=v.kids[1]:=by rw[List.getD_eq_getElem?_getD,List.getElem?_eq_getElem h1];rfl
  have e0:v.kids.getD 0 a0Z=v.kids[0]:=by rw[List.getD_eq_getElem?_getD,List.getElem?_eq_getElem h0];rfl
  rw[e1,e0,b2X h v.kids[1],hc.1,hc.2]
  simp only[Int.reduceEq,decide_false,decide_true,Bool.false_or,Bool.true_and]
  cases a2j v.kids[1] with
  |none=>simp
  |some l=>simp
 ·rw[dif_neg hc]
  have e:(decide (v.kind=7)&&(decide (v.kids.length=2)&&(a1q (v.kids.getD 0 a0Z) t&&a1q (v.kids.getD 1 a0Z) (a1O t))))=false:=by
   rw[← Bool.and_assoc,← Bool.decide_and,decide_eq_false hc];rfl
  rw[e,Bool.or_false]
  by_cases h5:v.kind=5
  ·rw[if_pos h5,h5];rfl
  ·rw[if_neg h5,decide_eq_false h5]
termination_by a1V v
decreasing_by exact a3A (List.getElem_mem _)
theorem b1P {t:TyD} {B:Nat} (h:(a0x t.1 t.2).length≤1000000) (hs:TyS B [t,a1O t]) (v:Val):a1q v (a9k t (a1O t))=(decide (v.kind=7)&&a1q v (a1O t)):=by
 rw[c0w hs,b5g h v]
 cases h7:decide (v.kind=7) with
 |false=>rfl
 |true=>
  have h5:decide (v.kind=5)=false:=by rw[decide_eq_true_eq] at h7;rw[h7];rfl
  rw[h5,Bool.false_or];simp only[Bool.true_and]
theorem a08 {v:Val} (h:v.kind≠7):a0E v=0:=by
  rw[a0E,dif_neg (fun hc=>h hc.1)]
theorem a9m (v:Val) (ls:List (List UInt8)):a0E { v with labels:=ls }=a0E v:=by
  rw[a0E,a0E]
theorem a4n (a b:Val):a0E (a0X a b)=a0E b+1:=by
  rw[a0E,dif_pos ⟨rfl,rfl⟩];rfl
theorem b4g (k:Int) (s:Src):a0E (a9R k s).1=0:=by
 unfold a9R
 cases decide (k=0)<;>simp only[cond_true,cond_false]
 ·cases decide (k=1)<;>simp only[cond_true,cond_false]
  ·cases decide (k=2)<;>simp only[cond_true,cond_false]
   ·cases decide (k=3)<;>simp only[cond_true,cond_false]
    ·cases decide (k=4)<;>simp only[cond_true,cond_false]<;>exact a08 (by decide)
    ·exact a08 (by show (4:Int)≠7;decide)
   ·exact a08 (by show (2:Int)≠7;decide)
  ·exact a08 (by show (3:Int)≠7;decide)
 ·exact a08 (by show (1:Int)≠7;decide)
theorem a16 (s:Src):a0E (a2S s).1=0:=b4g _ _
theorem a9n:∀ (r:List (KeyD×Val)) (ks:List KeyD) (vs:List Val),a0E (a6w r ks vs).1=0
 |[],ks,vs=>by rw[a6w];exact a08 (by show (8:Int)≠7;decide)
 |(x,v)::r,ks,vs=>by
  rw[a6w]
  cases decide (ks[b6N ks x]?= some x)
  ·exact a9n r _ _
  ·exact a08 (by show (0:Int)≠7;decide)
theorem b2Y (ks:List KeyD) (l:List Val):a0E (a83 ks l).1=0:=by
 unfold a83
 cases decide ((ks.length:Int)=(l.length:Int))
 ·exact a08 (by show (0:Int)≠7;decide)
 ·cases ks.all a0s
  ·exact a08 (by show (0:Int)≠7;decide)
  ·exact a9n _ _ _
theorem b5h (n:Int) (l:List Ent):a0E (fnV n l).1=0:=by
 unfold fnV
 cases decide (n<0)||decide (4<n)
 ·cases l.all (fun e=>b5x e n)
  ·exact a08 (by show (0:Int)≠7;decide)
  ·exact a08 (by show (9:Int)≠7;decide)
 ·exact a08 (by show (0:Int)≠7;decide)
theorem b0U (p:Val×Src):a0E (lab p).1=a0E p.1:=a9m _ _
theorem b6o {f0:Src→Val×Src} (big:Bool) (s:Src):a0E (a78 f0 big s).1≤1:=by
 unfold a78
 have z:a0E a0Z≤1:=by rw[a08 (by show (5:Int)≠7;decide)];omega
 cases big
 ·exact z
 ·cases decide (a0h s 2=1)
  ·exact z
  ·show a0E (a0X _ a0Z)≤1
   rw[a4n,a08 (by show (5:Int)≠7;decide)]
   omega
theorem b2Z {f1 f0:Src→Val×Src} (big:Bool) (k:Int) (s:Src):a0E (a2e f1 f0 big k s).1≤2:=by
 unfold a2e
 cases decide (k=1)<;>simp only[cond_true,cond_false]
 ·cases decide (k=2)<;>simp only[cond_true,cond_false]
  ·cases decide (k=3)<;>simp only[cond_true,cond_false]
   ·cases decide (k=4)<;>simp only[cond_true,cond_false]
    ·rw[a16];omega
    ·cases decide ((fnV (a0h s 3) (a0Q (a1E f1 (a0h s 3).toNat) (a0h (a0f s 3) 3).toNat (a0f (a0f s 3) 3)).1).2=0)<;>simp only[cond_true,cond_false]
     ·rw[a16];omega
     ·rw[b5h];omega
   ·cases decide ((a83 (a1W f1 (a0h s 3).toNat (a0f s 3)).1.1 (a1W f1 (a0h s 3).toNat (a0f s 3)).1.2).2=0)<;>simp only[cond_true,cond_false]
    ·rw[a16];omega
    ·rw[b2Y];omega
  ·rw[a4n,b0U]
   have:=b6o (f0:=f0) big s
   omega
 ·rw[a08 (by show (6:Int)≠7;decide)];omega
theorem b4h:∀ (h:Nat) (s:Src),a0E (a5k h s).1≤2
  |0,s=>by rw[a5k,a16];omega
  |1,s=>by rw[a5k,a16];omega
  |h+2,s=>by rw[a5k];exact b2Z _ _ _
theorem b0V (h:Nat) (s:Src):a0E (b3o h s).1≤2:=by unfold b3o;rw[b0U];exact b4h h s
theorem b6p (l:List NodeD) (v:Val) (k:Int):a0E (b5Z l v k)=a0E v:=by
  unfold b5Z
  cases decide ((l.getD k.toNat (a0G 1)).kind=19)
  · rfl
  · exact a9m _ _
theorem a9o (l:List NodeD):∀ (ks:List Int) (v:Val),a0E (ks.foldl (b5Z l) v)=a0E v
  |[],v=>rfl
  |k::ks,v=>by rw[List.foldl_cons,a9o l ks,b6p]
theorem b1Q (g:Int→Src→Val×Src) (x:NodeD) (s:Src):a0E (a2c g x s).1=0:=by
  unfold a2c
  cases decide ((a83 (a1U g x s).2.1 (a1U g x s).2.2).2=0)
  · exact a08 (by show (5:Int)≠7;decide)
  · exact b2Y _ _
theorem b1R (g:Int→Src→Val×Src) (x:NodeD) (s:Src):a0E (a2l g x s).1=0:=by
  unfold a2l
  cases decide ((fnV ((x.kids.length:Int)-1) (a48 g x s).1).2=0)
  · exact a08 (by show (5:Int)≠7;decide)
  · exact b5h _ _
theorem a9p {g:Int→Src→Val×Src} {B:Nat} (hg:∀ k s,a0E (g k s).1≤B):∀ (ks:List Int) (s:Src),∀ x∈(a2h g ks s).1,a0E x≤B
 |[],s,x,h=>by cases h
 |k::ks,s,x,h=>by
  rw[a2h] at h
  rcases List.mem_cons.1 h with rfl|h
  ·exact hg _ _
  ·exact a9p hg ks _ x h
theorem b1S {B:Nat} (l:List Val) (h:∀ x∈l,a0E x≤B):a0E (a5P l)≤B+1:=by
 match l,h with
 |[],_=>
  have:a0E (a5P [])=0:=by rw[a0E,dif_neg (fun hc=>absurd hc.2 (by decide))]
  omega
 |[a],_=>
  have:a0E (a5P [a])=0:=by rw[a0E,dif_neg (fun hc=>absurd hc.2 (by show ¬ (1=2);decide))]
  omega
 |[a,b],h=>
  rw[a5P,a4n]
  have:=h b (by simp)
  cases decide (b.kind=7)
  ·rw[cond_false,a08 (by show (5:Int)≠7;decide)];omega
  ·rw[cond_true];omega
 |a::b::c::r,_=>
  have:a0E (a5P (a::b::c::r))=0:=by rw[a0E,dif_neg (fun hc=>absurd hc.2 (by show ¬ (r.length+3=2);omega))]
  omega
theorem b4i {l:List NodeD} {g nx:Int→Src→Val×Src} {B:Nat} (hB:2≤B) (hg:∀ k s,a0E (g k s).1≤B) (hn:∀ k s,a0E (nx k s).1≤B+1) (x:NodeD) (s:Src):a0E (a1o l g nx x s).1≤B+1:=by
  unfold a1o
  have z:∀ v:Val,v.kind≠7→a0E v≤B+1:=fun v h=>by rw[a08 h];omega
  cases decide (x.kind=3)<;>simp only[cond_true,cond_false]<;>try exact z _ (by show (1:Int)≠7;decide)
  cases decide (x.kind=4)<;>simp only[cond_true,cond_false]<;>try exact z _ (by show (2:Int)≠7;decide)
  cases decide (x.kind=5)<;>simp only[cond_true,cond_false]<;>try exact z _ (by show (2:Int)≠7;decide)
  cases decide (x.kind=6)<;>simp only[cond_true,cond_false]<;>try exact z _ (by show (3:Int)≠7;decide)
  cases decide (x.kind=7)<;>simp only[cond_true,cond_false]<;>try exact z _ (by show (3:Int)≠7;decide)
  cases decide (x.kind=8)<;>simp only[cond_true,cond_false]<;>try exact z _ (by show (4:Int)≠7;decide)
  cases decide (x.kind=9)<;>simp only[cond_true,cond_false]<;>try exact z _ (by show (5:Int)≠7;decide)
  cases decide (x.kind=10)<;>simp only[cond_true,cond_false]<;>try exact z _ (by show (6:Int)≠7;decide)
  cases decide (x.kind=12)<;>simp only[cond_true,cond_false]<;>try exact b1S _ (a9p hg _ _)
  cases decide (x.kind=13)<;>simp only[cond_true,cond_false]<;>try(rw[b1Q];omega)
  cases decide (x.kind=14)<;>simp only[cond_true,cond_false]<;>try(rw[b1R];omega)
  cases decide (x.kind=16)<;>simp only[cond_true,cond_false]<;>try exact hn _ _
  cases decide (x.kind=17)<;>simp only[cond_true,cond_false]<;>try(rw[a9o];exact hn _ _)
  cases decide (x.kind=19)<;>simp only[cond_true,cond_false]
  · exact Nat.le_trans (b0V 2 s) (by omega)
  · rw[a9m,a16];omega
theorem a9q {l:List NodeD} {g:Int→Src→Val×Src} {B:Nat} (hB:2≤B) (hg:∀ k s,a0E (g k s).1≤B):∀ (f:Nat) (k:Int) (s:Src),a0E (a6P l g f k s).1≤B+1
  |0,k,s=>by rw[a6P,a16];omega
  |f+1,k,s=>b4i hB hg (a9q hB hg f) _ s
theorem b0W {p:Val×Src} {B:Nat} (h:a0E p.1≤B):a0E (b0l p).1≤B:=by
  unfold b0l
  cases a0C p.1
  · rw[cond_false,a16];omega
  · exact h
theorem b0X (l:List NodeD):∀ (h:Nat) (k:Int) (s:Src),a0E (b7b l h k s).1≤h+2
  |0,k,s=>b0W (by rw[a16];omega)
  |h+1,k,s=>b0W (a9q (B:=h+2) (by omega) (b0X l h) _ _ _)
theorem b4j {α:Type} {p:α→Bool} {l:List α}:(l.drop l.length).any p=false:=by rw[List.drop_length];rfl
theorem c0z (l:List (List UInt8)) (s:List UInt8):PC zP 78 [.one (.dat (.sl 1 (l.map Sx.encStr))),S s] (Bo (l.any fun t=>decide (t=s))):=by
 refine PCB.ob Tryz.func78 Tryz.ntmps78 Tryz.results78 ?_
 repeat'(first|(simp only[go_sem,zA,zB,zC,zD,zE,zF,zG,reduceCtorEq,zH,zI,zJ,zK,zL,lB];all_goals refine nf ?_)|(refine stp ?_;intro K hK)|(apply hK;clear hK K)|refine stn ?_|(refine AWP.cnd ?_ ?_<;>intro h<;>(try simp only[zM,zN] at h))|(refine⟨fun h=>?_,fun h=>?_⟩<;>(try simp only[zM,zN] at h)<;>try simp only[h])|refine stq ?_|(clear hK K))
 refine AWP.len 0 rfl fun hlen0=>?_
 (try rw[lB] at hlen0)
 refine AWP.range (S:=Unit) (l) Sx.encStr (fun k s=>(5,I .i64 (k:Nat))::[]) (fun k s=>[]) [0,1] [] (fun i y=>(l.any fun t=>decide (t=s))=((l.drop i).any fun t=>decide (t=s))) (()) (by refine sts ?_;exact Gh.tt []) ?_ ?_ ?_
 ·rfl
 ·intro i y t hlt ht ht' hb hok
  refine sts ?_
  rw[a82 ht] at hok
  cases hc:decide (t=s) with
  |true=>
   rw[hc,Bool.true_or] at hok
   repeat'(first|(simp only[go_sem,zA,zB,zC,zD,zE,zF,zG,reduceCtorEq,zH,zI,zJ,zK,zL,lB,hb,hc,a0R];all_goals refine nf ?_)|(refine stp ?_;intro K hK)|(apply hK;clear hK K)|refine stn ?_|(refine AWP.cnd ?_ ?_<;>intro h<;>(try simp only[zM,zN] at h))|(refine⟨fun h=>?_,fun h=>?_⟩<;>(try simp only[zM,zN] at h)<;>try simp only[h])|(with_reducible first|refine⟨(by omega:_≤_),Sx.encStr t,ht',?_⟩|refine⟨Sx.encStr t,ht',?_⟩)|refine stq ?_|(clear hK K))
   all_goals(first|exact fun _ h=>absurd h List.not_mem_nil|(refine a0m ?_;rw[hok]))
  |false=>
   rw[hc,Bool.false_or] at hok
   repeat'(first|(simp only[go_sem,zA,zB,zC,zD,zE,zF,zG,reduceCtorEq,zH,zI,zJ,zK,zL,lB,hb,hc,a0R];all_goals refine nf ?_)|(refine stp ?_;intro K hK)|(apply hK;clear hK K)|refine stn ?_|(refine AWP.cnd ?_ ?_<;>intro h<;>(try simp only[zM,zN] at h))|(refine⟨fun h=>?_,fun h=>?_⟩<;>(try simp only[zM,zN] at h)<;>try simp only[h])|(with_reducible first|refine⟨(by omega:_≤_),Sx.encStr t,ht',?_⟩|refine⟨Sx.encStr t,ht',?_⟩)|refine stq ?_|(clear hK K))
   all_goals(rw[a0d hlt hlen0])
   all_goals(refine⟨(),?_,Gh.tt []⟩)
   all_goals exact hok
 ·intro y hb hok
  refine sts ?_
  rw[b4j] at hok
  repeat'(first|(simp only[go_sem,zA,zB,zC,zD,zE,zF,zG,reduceCtorEq,zH,zI,zJ,zK,zL,lB,hb];all_goals refine nf ?_)|(refine stp ?_;intro K hK)|(apply hK;clear hK K)|refine stn ?_|(refine AWP.cnd ?_ ?_<;>intro h<;>(try simp only[zM,zN] at h))|(refine⟨fun h=>?_,fun h=>?_⟩<;>(try simp only[zM,zN] at h)<;>try simp only[h])|refine stq ?_|(clear hK K))
  all_goals(first|exact fun _ h=>absurd h List.not_mem_nil|(refine a0m ?_;rw[hok]))
theorem b6q (c:Bool) (l:List (List UInt8)) (s:List UInt8):PC zP 39 [.st [.bool c, .sl 1 (l.map Sx.encStr)],S s] (Bo (c2o c l s)):=by
 have h:=c0z l s
 unfold c2o
 obtain⟨a,ha⟩:∃ a,a=l.any fun t=>decide (t=s):=⟨_,rfl⟩
 rw[← ha] at h ⊢
 cases a<;>cases c
 all_goals
  refine PCB.ob Tryz.func39 Tryz.ntmps39 Tryz.results39 ?_
  repeat'(first|(simp only[go_sem,zA,zB,zC,zD,zE,zF,zG,reduceCtorEq,zH,zI,zJ,zK,zL];all_goals refine nf ?_)|(refine stp ?_;intro K hK)|(apply hK;clear hK K)|refine stn ?_|(refine AWP.cnd ?_ ?_<;>intro h<;>(try simp only[zM,zN] at h))|(refine⟨fun h=>?_,fun h=>?_⟩<;>(try simp only[zM,zN] at h)<;>try simp only[h])|(with_reducible refine⟨_,h,?_⟩)|(refine a0M ?_;intro K hK)|refine stq ?_|(clear hK K))
  all_goals(first|exact fun _ h=>absurd h List.not_mem_nil|(refine a0m ?_;rfl))
theorem c0A (l:List Ivl.Rg) (n:Int):PC zP 40 [Sl l,I .i64 n] (Bo (c0d l n)):=by
 unfold c0d
 refine PCB.ob Tryz.func40 Tryz.ntmps40 Tryz.results40 ?_
 repeat'(first|(simp only[go_sem,zA,zB,zC,zD,zE,zF,zG,reduceCtorEq,zH,zI,zJ,zK,zL,lB];all_goals refine nf ?_)|(refine stp ?_;intro K hK)|(apply hK;clear hK K)|refine stn ?_|(refine AWP.cnd ?_ ?_<;>intro h<;>(try simp only[zM,zN] at h))|(refine⟨fun h=>?_,fun h=>?_⟩<;>(try simp only[zM,zN] at h)<;>try simp only[h])|refine stq ?_|(clear hK K))
 refine AWP.len 0 rfl fun hlen0=>?_
 (try rw[lB] at hlen0)
 refine AWP.range (S:=Unit) (l) a3q (fun k s=>(5,I .i64 (k:Nat))::[]) (fun k s=>[]) [0,1] [] (fun i y=>(l.any fun r=>decide (r.lo≤n)&&decide (n≤r.hi))=((l.drop i).any fun r=>decide (r.lo≤n)&&decide (n≤r.hi))) (()) (by refine sts ?_;exact Gh.tt []) ?_ ?_ ?_
 ·rfl
 ·intro i y r hlt hr hr' hb hok
  refine sts ?_
  rw[a82 hr] at hok
  cases h1:decide (r.lo≤n) with
  |false=>
   rw[h1,Bool.false_and,Bool.false_or] at hok
   repeat'(first|(simp only[go_sem,zA,zB,zC,zD,zE,zF,zG,reduceCtorEq,zH,zI,zJ,zK,zL,lB,hb,h1,a4d];all_goals refine nf ?_)|(refine stp ?_;intro K hK)|(apply hK;clear hK K)|refine stn ?_|(refine AWP.cnd ?_ ?_<;>intro h<;>(try simp only[zM,zN] at h))|(refine⟨fun h=>?_,fun h=>?_⟩<;>(try simp only[zM,zN] at h)<;>try simp only[h])|(with_reducible first|refine⟨(by omega:_≤_),a3q r,hr',?_⟩|refine⟨a3q r,hr',?_⟩)|refine stq ?_|(clear hK K))
   all_goals(rw[a0d hlt hlen0])
   all_goals(refine⟨(),?_,Gh.tt []⟩)
   all_goals exact hok
  |true=>
   cases h2:decide (n≤r.hi) with
   |false=>
    rw[h1,h2,Bool.true_and,Bool.false_or] at hok
    repeat'(first|(simp only[go_sem,zA,zB,zC,zD,zE,zF,zG,reduceCtorEq,zH,zI,zJ,zK,zL,lB,hb,h1,h2,a4d];all_goals refine nf ?_)|(refine stp ?_;intro K hK)|(apply hK;clear hK K)|refine stn ?_|(refine AWP.cnd ?_ ?_<;>intro h<;>(try simp only[zM,zN] at h))|(refine⟨fun h=>?_,fun h=>?_⟩<;>(try simp only[zM,zN] at h)<;>try simp only[h])|(with_reducible first|refine⟨(by omega:_≤_),a3q r,hr',?_⟩|refine⟨a3q r,hr',?_⟩)|refine stq ?_|(clear hK K))
    all_goals(rw[a0d hlt hlen0])
    all_goals(refine⟨(),?_,Gh.tt []⟩)
    all_goals exact hok
   |true=>
    rw[h1,h2,Bool.true_and,Bool.true_or] at hok
    repeat'(first|(simp only[go_sem,zA,zB,zC,zD,zE,zF,zG,reduceCtorEq,zH,zI,zJ,zK,zL,lB,hb,h1,h2,a4d];all_goals refine nf ?_)|(refine stp ?_;intro K hK)|(apply hK;clear hK K)|refine stn ?_|(refine AWP.cnd ?_ ?_<;>intro h<;>(try simp only[zM,zN] at h))|(refine⟨fun h=>?_,fun h=>?_⟩<;>(try simp only[zM,zN] at h)<;>try simp only[h])|(with_reducible first|refine⟨(by omega:_≤_),a3q r,hr',?_⟩|refine⟨a3q r,hr',?_⟩)|refine stq ?_|(clear hK K))
    all_goals(first|exact fun _ h=>absurd h List.not_mem_nil|(refine a0m ?_;rw[hok]))
 ·intro y hb hok
  refine sts ?_
  rw[b4j] at hok
  repeat'(first|(simp only[go_sem,zA,zB,zC,zD,zE,zF,zG,reduceCtorEq,zH,zI,zJ,zK,zL,lB,hb];all_goals refine nf ?_)|(refine stp ?_;intro K hK)|(apply hK;clear hK K)|refine stn ?_|(refine AWP.cnd ?_ ?_<;>intro h<;>(try simp only[zM,zN] at h))|(refine⟨fun h=>?_,fun h=>?_⟩<;>(try simp only[zM,zN] at h)<;>try simp only[h])|refine stq ?_|(clear hK K))
  all_goals(first|exact fun _ h=>absurd h List.not_mem_nil|(refine a0m ?_;rw[hok]))
theorem b6r (v:Val) (s:List UInt8):PC zP 27 [Vt v,S s] (Bo (v.labels.any fun t=>decide (t=s))):=by
 refine PCB.ob Tryz.func27 Tryz.ntmps27 Tryz.results27 ?_
 repeat'(first|(simp only[go_sem,zA,zB,zC,zD,zE,zF,zG,reduceCtorEq,zH,zI,zJ,zK,zL,a0a v,lB];all_goals refine nf ?_)|(refine stp ?_;intro K hK)|(apply hK;clear hK K)|refine stn ?_|(refine AWP.cnd ?_ ?_<;>intro h<;>(try simp only[zM,zN] at h))|(refine⟨fun h=>?_,fun h=>?_⟩<;>(try simp only[zM,zN] at h)<;>try simp only[h])|refine stq ?_|(clear hK K))
 refine AWP.lenB 2 6 rfl rfl fun hlen0=>?_
 (try rw[lB] at hlen0)
 refine AWP.range (S:=Unit) (v.labels) Sx.encStr (fun k s=>(5,I .i64 (k:Nat))::[]) (fun k s=>[]) [1,2] [2] (fun i y=>(v.labels.any fun t=>decide (t=s))=((v.labels.drop i).any fun t=>decide (t=s))) (()) (by simp only[go_sem,zA,zB,zC,zD,zE,zF,zG,reduceCtorEq,zH,zI,zJ,zK,zL,a0a v];exact Gh.tt []) ?_ ?_ ?_
 ·rfl
 ·intro i y t hlt ht ht' hb hok
  refine sts ?_
  rw[a82 ht] at hok
  cases hc:decide (t=s) with
  |true=>
   rw[hc,Bool.true_or] at hok
   repeat'(first|(simp only[go_sem,zA,zB,zC,zD,zE,zF,zG,reduceCtorEq,zH,zI,zJ,zK,zL,lB,hb,hc,a0R];all_goals refine nf ?_)|(refine stp ?_;intro K hK)|(apply hK;clear hK K)|refine stn ?_|(refine AWP.cnd ?_ ?_<;>intro h<;>(try simp only[zM,zN] at h))|(refine⟨fun h=>?_,fun h=>?_⟩<;>(try simp only[zM,zN] at h)<;>try simp only[h])|(with_reducible first|refine⟨(by omega:_≤_),Sx.encStr t,ht',?_⟩|refine⟨Sx.encStr t,ht',?_⟩)|refine stq ?_|(clear hK K))
   all_goals(first|exact fun _ h=>absurd h List.not_mem_nil|(refine a0m ?_;rw[hok]))
  |false=>
   rw[hc,Bool.false_or] at hok
   repeat'(first|(simp only[go_sem,zA,zB,zC,zD,zE,zF,zG,reduceCtorEq,zH,zI,zJ,zK,zL,lB,hb,hc,a0R];all_goals refine nf ?_)|(refine stp ?_;intro K hK)|(apply hK;clear hK K)|refine stn ?_|(refine AWP.cnd ?_ ?_<;>intro h<;>(try simp only[zM,zN] at h))|(refine⟨fun h=>?_,fun h=>?_⟩<;>(try simp only[zM,zN] at h)<;>try simp only[h])|(with_reducible first|refine⟨(by omega:_≤_),Sx.encStr t,ht',?_⟩|refine⟨Sx.encStr t,ht',?_⟩)|refine stq ?_|(clear hK K))
   all_goals(rw[a0d hlt hlen0])
   all_goals(refine⟨(),?_,Gh.tt []⟩)
   all_goals exact hok
 ·intro y hb hok
  refine sts ?_
  rw[b4j] at hok
  repeat'(first|(simp only[go_sem,zA,zB,zC,zD,zE,zF,zG,reduceCtorEq,zH,zI,zJ,zK,zL,lB,hb];all_goals refine nf ?_)|(refine stp ?_;intro K hK)|(apply hK;clear hK K)|refine stn ?_|(refine AWP.cnd ?_ ?_<;>intro h<;>(try simp only[zM,zN] at h))|(refine⟨fun h=>?_,fun h=>?_⟩<;>(try simp only[zM,zN] at h)<;>try simp only[h])|refine stq ?_|(clear hK K))
  all_goals(first|exact fun _ h=>absurd h List.not_mem_nil|(refine a0m ?_;rw[hok]))
theorem b7Q (c:Bool) (l:List (List UInt8)) (hl:l.length≤1000):PC zP 34 [.st [.bool c, .sl 1 (l.map Sx.encStr)]] (Yp (a2A 4 5 c l)):=by
  have h:=b7K 4 5 c l hl
  refine PCB.ob Tryz.func34 Tryz.ntmps34 Tryz.results34 ?_
  repeat'(first|(simp only[go_sem,zA,zB,zC,zD,zE,zF,zG,reduceCtorEq,zH,zI,zJ,zK,zL];all_goals refine nf ?_)|(refine stp ?_;intro K hK)|(apply hK;clear hK K)|refine stn ?_|(refine AWP.cnd ?_ ?_<;>intro h<;>(try simp only[zM,zN] at h))|(refine⟨fun h=>?_,fun h=>?_⟩<;>(try simp only[zM,zN] at h)<;>try simp only[h])|(with_reducible refine⟨_,h,?_⟩)|refine stq ?_|(clear hK K))
  all_goals(first|exact fun _ h=>absurd h List.not_mem_nil|(refine a0m ?_;rfl))
theorem c3y (c:Bool) (l:List (List UInt8)) (hl:l.length≤1000):PC zP 35 [.st [.bool c, .sl 1 (l.map Sx.encStr)]] (Yp (a2A 6 7 c l)):=by
  have h:=b7K 6 7 c l hl
  refine PCB.ob Tryz.func35 Tryz.ntmps35 Tryz.results35 ?_
  repeat'(first|(simp only[go_sem,zA,zB,zC,zD,zE,zF,zG,reduceCtorEq,zH,zI,zJ,zK,zL];all_goals refine nf ?_)|(refine stp ?_;intro K hK)|(apply hK;clear hK K)|refine stn ?_|(refine AWP.cnd ?_ ?_<;>intro h<;>(try simp only[zM,zN] at h))|(refine⟨fun h=>?_,fun h=>?_⟩<;>(try simp only[zM,zN] at h)<;>try simp only[h])|(with_reducible refine⟨_,h,?_⟩)|refine stq ?_|(clear hK K))
  all_goals(first|exact fun _ h=>absurd h List.not_mem_nil|(refine a0m ?_;rfl))
def elemsO (v:Val):List Val:=match a2j v with|some l=>l|none=>[]
def a6x (v:Val):Bool:=match a2j v with|some _=>true|none=>false
theorem b0Y {v p q:Val} (hk:v.kind=7) (hv:v.kids=[p,q]):a2j v=(a2j q).map (p:: ·):=by
  obtain⟨kind,num,text,kids,keys,ents,labels⟩:=v
  simp only at hk hv
  subst hk hv
  rw[a2j,dif_pos ⟨rfl,rfl⟩]
  show (match a2j q with|some l=>some (p::l)|none=>none)=_
  cases a2j q<;>rfl
theorem b6s {v p q:Val} (hk:v.kind=7) (hv:v.kids=[p,q]):a0E v=a0E q+1:=by
  obtain⟨kind,num,text,kids,keys,ents,labels⟩:=v
  simp only at hk hv
  subst hk hv
  rw[a0E,dif_pos ⟨rfl,rfl⟩];rfl
theorem b1T {v:Val} (h:¬ (v.kind=7∧v.kids.length=2)):a2j v=if v.kind=5 then some [] else none:=by
  rw[a2j,dif_neg h]
theorem b7R (l:List Val) (x:Val):l.map a0g++[a0g x]=(l++[x]).map a0g:=by simp
theorem b7S (l:List Val) (x:Val):l.map a0g++[[.int .i64 x.kind, .int .i64 x.num, .str x.text, .sl 7 (x.kids.map a0g), .sl 2 (x.keys.map a0k), .sl 9 (x.ents.map a0l), .sl 1 (x.labels.map Sx.encStr)]]=(l++[x]).map a0g:=by
  rw[List.map_append,List.map_cons,List.map_nil,a0a x]
theorem b6t (v:Val) (hv:a0E v≤1000000):PC zP 79 [Vt v] (.tup [.one (.dat (.sl 7 ((elemsO v).map a0g))),Bo (a6x v)]):=by
 refine PCB.ob Tryz.func79 Tryz.ntmps79 Tryz.results79 ?_
 repeat'(first|(simp only[go_sem,zA,zB,zC,zD,zE,zF,zG,reduceCtorEq,zH,zI,zJ,zK,zL,a0a v];all_goals refine nf ?_)|(refine stp ?_;intro K hK)|(apply hK;clear hK K)|refine stn ?_|(refine AWP.cnd ?_ ?_<;>intro h<;>(try simp only[zM,zN] at h))|(refine⟨fun h=>?_,fun h=>?_⟩<;>(try simp only[zM,zN] at h)<;>try simp only[h])|refine stq ?_|(clear hK K))
 refine AWP.gh (Gh.nilrow 4 900 rfl rfl rfl rfl) ?_
 refine AWP.loopF (X:=Val×List Val) (fun y=>[(4, .one (.own 900 y.2.length))]) (fun y=>[(1,c7K y.1),(900, .row 7 (y.2.map a0g))]) [1] [] (fun y=>y.2.length+a0E y.1=a0E v∧a2j v=(a2j y.1).map (y.2++ ·)) (fun y=>a0E y.1) ((v,[])) (by refine sts ?_;exact Gh.tt []) ?_ ?_
 ·refine⟨by simp,?_⟩
  cases a2j v<;>rfl
 rintro⟨x,acc⟩ ⟨hs,he⟩
 simp only at hs he
 refine sts ?_
 cases h7:decide (x.kind=7) with
 |false=>
  have hno:=b1T (v:=x) (fun h=>by rw[decide_eq_false_iff_not] at h7;exact h7 h.1)
  cases h5:decide (x.kind=5) with
  |true=>
   rw[hno,if_pos (of_decide_eq_true h5)] at he
   have e1:elemsO v=acc:=by unfold elemsO;rw[he];simp
   have e2:a6x v=true:=by unfold a6x;rw[he];rfl
   refine AWP.gh (Gh.fz 900) ?_
   simp only[go_sem,zA,zB,zC,zD,zE,zF,zG,reduceCtorEq,zH,zI,zJ,zK,zL,lB]
   repeat'(first|(simp only[go_sem,zA,zB,zC,zD,zE,zF,zG,reduceCtorEq,zH,zI,zJ,zK,zL,lB,h7,h5];all_goals refine nf ?_)|(refine stp ?_;intro K hK)|(apply hK;clear hK K)|refine stn ?_|(refine AWP.cnd ?_ ?_<;>intro h<;>(try simp only[zM,zN] at h))|(refine⟨fun h=>?_,fun h=>?_⟩<;>(try simp only[zM,zN] at h)<;>try simp only[h])|refine stq ?_|(clear hK K))
   all_goals(first|exact fun _ h=>absurd h List.not_mem_nil|(refine a0m ?_;first|(rw[e1,e2];done)|(rw[e1,e2];rfl)))
  |false=>
   rw[hno,if_neg (of_decide_eq_false h5)] at he
   have e1:elemsO v=[]:=by unfold elemsO;rw[he];rfl
   have e2:a6x v=false:=by unfold a6x;rw[he];rfl
   refine AWP.gh (Gh.fz 900) ?_
   simp only[go_sem,zA,zB,zC,zD,zE,zF,zG,reduceCtorEq,zH,zI,zJ,zK,zL,lB]
   repeat'(first|(simp only[go_sem,zA,zB,zC,zD,zE,zF,zG,reduceCtorEq,zH,zI,zJ,zK,zL,lB,h7,h5];all_goals refine nf ?_)|(refine stp ?_;intro K hK)|(apply hK;clear hK K)|refine stn ?_|(refine AWP.cnd ?_ ?_<;>intro h<;>(try simp only[zM,zN] at h))|(refine⟨fun h=>?_,fun h=>?_⟩<;>(try simp only[zM,zN] at h)<;>try simp only[h])|refine stq ?_|(clear hK K))
   all_goals(first|exact fun _ h=>absurd h List.not_mem_nil|(refine a0m ?_;first|(rw[e1,e2];done)|(rw[e1,e2];rfl)))
 |true=>
  have k7:=of_decide_eq_true h7
  have h5:decide (x.kind=5)=false:=by rw[k7];rfl
  cases h2:decide ((x.kids.length:Int)=2) with
  |false=>
   have hno:=b1T (v:=x) (fun h=>by rw[decide_eq_false_iff_not] at h2;omega)
   rw[hno,if_neg (of_decide_eq_false h5)] at he
   have e1:elemsO v=[]:=by unfold elemsO;rw[he];rfl
   have e2:a6x v=false:=by unfold a6x;rw[he];rfl
   refine AWP.gh (Gh.fz 900) ?_
   simp only[go_sem,zA,zB,zC,zD,zE,zF,zG,reduceCtorEq,zH,zI,zJ,zK,zL,lB]
   repeat'(first|(simp only[go_sem,zA,zB,zC,zD,zE,zF,zG,reduceCtorEq,zH,zI,zJ,zK,zL,lB,h7,h2,h5];all_goals refine nf ?_)|(refine stp ?_;intro K hK)|(apply hK;clear hK K)|refine stn ?_|(refine AWP.cnd ?_ ?_<;>intro h<;>(try simp only[zM,zN] at h))|(refine⟨fun h=>?_,fun h=>?_⟩<;>(try simp only[zM,zN] at h)<;>try simp only[h])|refine stq ?_|(clear hK K))
   all_goals(first|exact fun _ h=>absurd h List.not_mem_nil|(refine a0m ?_;first|(rw[e1,e2];done)|(rw[e1,e2];rfl)))
  |true=>
   rw[decide_eq_true_eq] at h2
   obtain⟨p,q,hpq⟩:∃ p q,x.kids=[p,q]:=by
    match hvk:x.kids,(by omega:x.kids.length=2) with
    |[p,q],_=>exact⟨p,q,rfl⟩
   have hp:(x.kids.map a0g)[0]?= some (a0g p):=by rw[hpq];rfl
   have hq:(x.kids.map a0g)[1]?= some (a0g q):=by rw[hpq];rfl
   have hsp:=b6s k7 hpq
   rw[b0Y k7 hpq] at he
   have h2':decide ((x.kids.length:Int)=2)=true:=decide_eq_true h2
   repeat'(first|(simp only[go_sem,zA,zB,zC,zD,zE,zF,zG,reduceCtorEq,zH,zI,zJ,zK,zL,lB,h7,h2',b7R,b7S,a0a q];all_goals refine nf ?_)|(refine stp ?_;intro K hK)|(apply hK;clear hK K)|refine stn ?_|(refine AWP.cnd ?_ ?_<;>intro h<;>(try simp only[zM,zN] at h))|(refine⟨fun h=>?_,fun h=>?_⟩<;>(try simp only[zM,zN] at h)<;>try simp only[h])|(with_reducible first|refine⟨(by omega:_≤_),a0g p,hp,?_⟩|refine⟨a0g p,hp,?_⟩|refine⟨(by omega:_≤_),a0g q,hq,?_⟩|refine⟨a0g q,hq,?_⟩|(refine⟨(by first|omega|(simp only[List.length_append,lB,List.length_take,List.length_drop,List.length_cons,List.length_nil,List.length_replicate];omega):_≤_),?_⟩)|refine⟨by omega,by omega,?_⟩)|refine stq ?_|(clear hK K))
   all_goals(refine⟨(q,acc++[p]),by simp only;omega,⟨by simp only[List.length_append,List.length_singleton];omega,by rw[he];cases a2j q<;>simp⟩,Gh.tt [(900,20)]⟩)
theorem b0Z (v:Val) (hv:a0C v=true):∀ l,a2j v=some l→∀ x∈l,a0C x=true:=by
 by_cases hc:v.kind=7∧v.kids.length=2
 ·obtain⟨p,q,hpq⟩:∃ p q,v.kids=[p,q]:=by
   match hvk:v.kids,hc.2 with
   |[p,q],_=>exact⟨p,q,rfl⟩
  have hq:q∈v.kids:=by rw[hpq];simp
  have hp:p∈v.kids:=by rw[hpq];simp
  rw[a1p,Bool.and_eq_true,Bool.and_eq_true] at hv
  have tq:=List.all_eq_true.1 hv.2.1 q hq
  have tp:=List.all_eq_true.1 hv.2.1 p hp
  have ih:=b0Z q tq
  intro l h x hx
  rw[b0Y hc.1 hpq] at h
  cases hm:a2j q with
  |none=>rw[hm] at h;cases h
  |some m=>
   rw[hm] at h
   have h:=Option.some.inj h
   subst h
   rcases List.mem_cons.1 hx with rfl|hx
   ·exact tp
   ·exact ih m hm x hx
 ·intro l h x hx
  rw[b1T hc] at h
  split at h
  ·have h:=Option.some.inj h;subst h;cases hx
  ·cases h
termination_by a1V v
decreasing_by exact a3A hq
theorem b4k {v:Val} (hv:a0C v=true):∀ x∈elemsO v,a0C x=true:=by
  unfold elemsO
  cases h:a2j v with
  |none=>intro x hx;cases hx
  |some l=>exact b0Z v hv l h
theorem b7T {t:TyD} (h:(a0x t.1 t.2).length≤1000000) (v:Val):a1q v (a1O t)=(a6x v&&(elemsO v).all fun p=>a1q p t):=by
  rw[b2X h]
  unfold a6x elemsO
  cases a2j v<;>simp
theorem b7U (v:Val) (t:TyD) (hv:a0C v=true) (hsp:a0E v≤1000000) (hs:TSm t.1) (hw:wfP t.1 t.2=0) (hl:(a0x t.1 t.2).length≤1000000):
  PC zP 41 [Vt v, .st [.sl 8 (t.1.map a0c), .int .i64 t.2]] (Bo (a1q v (a1O t))):=by
 have hE:=b6t v hsp
 have hE2:=hE
 rw[Vt,a0a v] at hE2
 rw[b7T hl]
 obtain⟨eb,heb⟩:∃ b,b=a6x v:=⟨_,rfl⟩
 have htree:=b4k hv
 obtain⟨l,hle⟩:∃ l,l=elemsO v:=⟨_,rfl⟩
 rw[← heb,← hle] at hE hE2 ⊢
 rw[← hle] at htree
 have hM:∀ x∈l,PC zP 14 [.st (a0g x), .st [.sl 8 (t.1.map a0c), .int .i64 t.2]] (Bo (a1q x t)):=fun x hx=>by
  rw[a0a];exact b1M x t (htree x hx) hs hw rfl
 clear heb hle htree
 refine PCB.ob Tryz.func41 Tryz.ntmps41 Tryz.results41 ?_
 repeat'(first|(simp only[go_sem,zA,zB,zC,zD,zE,zF,zG,reduceCtorEq,zH,zI,zJ,zK,zL,lB];all_goals refine nf ?_)|(refine stp ?_;intro K hK)|(apply hK;clear hK K)|refine stn ?_|(refine AWP.cnd ?_ ?_<;>intro h<;>(try simp only[zM,zN] at h))|(refine⟨fun h=>?_,fun h=>?_⟩<;>(try simp only[zM,zN] at h)<;>try simp only[h])|(with_reducible first|refine⟨_,hE,?_⟩|refine⟨_,hE2,?_⟩)|(refine a0M ?_;intro K hK)|refine stq ?_|(clear hK K))
 refine AWP.len 5 rfl fun hlen0=>?_
 (try rw[lB] at hlen0)
 refine AWP.range (S:=Bool) (l) a0g (fun i b=>(7,I .i64 (i:Nat))::[(6, .one (.dat (.bool b)))]) (fun i b=>[]) [3,5] [2,3] (fun i b=>(eb&&l.all fun p=>a1q p t)=(b&&(l.drop i).all fun p=>a1q p t)) (eb) (by refine sts ?_;exact Gh.tt []) ?_ ?_ ?_
 ·rfl
 ·intro i b p hlt hp hp' hb hok
  refine sts ?_
  have hm:=hM p (List.mem_of_getElem? hp)
  cases b with
  |false=>
   repeat'(first|(simp only[go_sem,zA,zB,zC,zD,zE,zF,zG,reduceCtorEq,zH,zI,zJ,zK,zL,lB,hb];all_goals refine nf ?_)|(refine stp ?_;intro K hK)|(apply hK;clear hK K)|refine stn ?_|(refine AWP.cnd ?_ ?_<;>intro h<;>(try simp only[zM,zN] at h))|(refine⟨fun h=>?_,fun h=>?_⟩<;>(try simp only[zM,zN] at h)<;>try simp only[h])|(refine a0M ?_;intro K hK)|refine stq ?_|(clear hK K))
   all_goals(rw[a0d hlt hlen0])
   all_goals(refine⟨false,?_,Gh.tt []⟩)
   all_goals(rw[hok,Bool.false_and,Bool.false_and])
  |true=>
   rw[a37 hp] at hok
   repeat'(first|(simp only[go_sem,zA,zB,zC,zD,zE,zF,zG,reduceCtorEq,zH,zI,zJ,zK,zL,lB,hb];all_goals refine nf ?_)|(refine stp ?_;intro K hK)|(apply hK;clear hK K)|refine stn ?_|(refine AWP.cnd ?_ ?_<;>intro h<;>(try simp only[zM,zN] at h))|(refine⟨fun h=>?_,fun h=>?_⟩<;>(try simp only[zM,zN] at h)<;>try simp only[h])|(with_reducible first|refine⟨(by omega:_≤_),a0g p,hp',?_⟩|refine⟨a0g p,hp',?_⟩|refine⟨_,hm,?_⟩)|(refine a0M ?_;intro K hK)|refine stq ?_|(clear hK K))
   all_goals(rw[a0d hlt hlen0])
   all_goals(refine⟨(a1q p t),?_,Gh.tt []⟩)
   all_goals(rw[hok,Bool.true_and])
 ·intro b hb hok
  refine sts ?_
  rw[a5F,Bool.and_true] at hok
  repeat'(first|(simp only[go_sem,zA,zB,zC,zD,zE,zF,zG,reduceCtorEq,zH,zI,zJ,zK,zL,lB,hb];all_goals refine nf ?_)|(refine stp ?_;intro K hK)|(apply hK;clear hK K)|refine stn ?_|(refine AWP.cnd ?_ ?_<;>intro h<;>(try simp only[zM,zN] at h))|(refine⟨fun h=>?_,fun h=>?_⟩<;>(try simp only[zM,zN] at h)<;>try simp only[h])|(refine a0M ?_;intro K hK)|refine stq ?_|(clear hK K))
  all_goals(first|exact fun _ h=>absurd h List.not_mem_nil|(refine a0m ?_;rw[hok]))
theorem b5i {ts:List TyD} {B:Nat} (h:TyS B ts):TSm (a1e ts).1:=by
  unfold a1e
  cases decide ((ts.length:Int)=0)
  · exact b2Q h
  · exact a5l _ rfl rfl
theorem c0B {ts:List TyD} {B:Nat} (h:TyS B ts):TSm (a5q ts).1:=by
  unfold a5q
  cases decide ((ts.length:Int)=0)
  · exact b2Q h
  · exact a5l _ rfl rfl
theorem b20 (one:Int) (c:Bool) (l:List (List UInt8)) (hl:l.length≤1000):TSm (a2A one (one+1) c l).1:=by
  obtain⟨s1,s2⟩:=b1O one l hl
  unfold a2A
  cases c
  · exact b5i (a5s one l (by omega))
  · exact c0B s2
theorem c6c (s:List UInt8):TSm (a2z s).1:=by
  unfold a2z
  cases a0A s<;>exact a5l _ rfl rfl
theorem b7V {t:TyD} (h:TSm t.1) (hl:(a0x t.1 t.2).length≤900000):TSm (a1O t).1:=by
 have hs:=b5e h
 rw[b2W]
 refine⟨by show (a7O t).length≤1000000;rw[a7P];omega,fun x hx=>?_,fun x hx=>?_⟩
 all_goals
  simp only[a7O,List.append_nil,List.mem_append,List.mem_cons,List.not_mem_nil,or_false,List.mem_map] at hx
  rcases hx with (rfl|rfl|rfl)|⟨y,hy,rfl⟩
  ·simp[a1b]
  ·simp[a0G]
  ·simp[a1b]
  ·simp only[upN,lB]
   first|exact hs.kids y hy|exact hs.fields y hy
theorem b7W {v w:Val} (hv:a0C v=true) (hw:a0C w=true):a0C (a2L [v,w])=true:=by
  rw[a1p]
  have h1:a0P (a2L [v,w])=true:=rfl
  rw[h1]
  simp[a2L,hv,hw]
theorem c0C {v w:Val} (hv:a0C v=true) (hw:a0C w=true):a0C (a0X w (a5o [v]))=true:=by
  have e:a5o [v]=a0X v a0Z:=rfl
  rw[e,a5Q _ _ (.inr rfl),a5Q _ _ (.inl rfl),hv,hw,a6l];rfl
theorem b7X (l:List Val):a0E (a2L l)=0:=a08 (by show (6:Int)≠7;decide)
theorem b7Y (v w:Val):a0E (a0X w (a5o [v]))=2:=by
  have e:a5o [v]=a0X v a0Z:=rfl
  rw[e,a4n,a4n,a08 (by show (5:Int)≠7;decide)]
theorem b4l (l m:List Int):a0E (a4e l m)≤10:=by
  unfold a4e
  exact Nat.le_trans (b0X _ 4 _ _) (by omega)
structure ConsX (s:List Ivl.Rg) (c:Bool) (nl:List (List UInt8)) (S:List NodeD) (name:List UInt8) (X1 X2 X3 X4 X5 X6 X7:TyD) (x:Val):Prop where
  m1:PC zP 14 [LV x,LT X1] (Bo (decide (x.kind=1)&&c0d s x.num))
  m2:PC zP 14 [LV x,LT X2] (Bo (decide (x.kind=2)&&c2o c nl x.text))
  m3:PC zP 14 [LV x,LT X3] (Bo (decide (x.kind=3)&&c2o c nl x.text))
  m4:PC zP 14 [LV x,LT X4] (Bo (decide (x.kind=6)&&(decide (x.kids.length=2)&&x.kids.all fun p=>a1q p (S,0))))
  m5:PC zP 14 [LV x,LT X5] (Bo (decide (x.kind=7)&&a1q x (a1O (S,0))))
  m6:PC zP 14 [LV x,LT X6] (Bo (a1q x (a1O (S,0))))
  m7:PC zP 14 [LV x,LT X7] (Bo (a0A name&&x.labels.any fun t=>decide (t=name)))
  ml:PC zP 41 [LV x, .st [.sl 8 (S.map a0c), .int .i64 0]] (Bo (a1q x (a1O (S,0))))
  mkid:∀ p∈x.kids,PC zP 14 [LV p, .st [.sl 8 (S.map a0c), .int .i64 0]] (Bo (a1q p (S,0)))
  mb:PC zP 27 [LV x,Go.Sx.S name] (Bo (x.labels.any fun t=>decide (t=name)))
theorem c0D {s:List Ivl.Rg} (hsz:s.length≤1000) (c:Bool) {nl:List (List UInt8)} (hnl:nl.length≤1000) {S:List NodeD} (name:List UInt8) (ss:TSm S) (ws:wfP S 0=0) (ls:S.length≤7) (x:Val) (hx:a0C x=true) (hsp:a0E x≤1000):
  ConsX s c nl S name (a5L s) (a2A 4 5 c nl) (a2A 6 7 c nl) (b7y [(S,0),(S,0)]) (a9k (S,0) (a1O (S,0))) (a1O (S,0)) (a2z name) x:=by
 have hso:(a0x S 0).length≤900000:=by unfold a0x;rw[ws];show S.length≤_;omega
 have s2:TyS 10 [((S,0):TyD),(S,0)]:=a9l ss ss (by simp only;omega) (by simp only;omega) (by omega)
 have sl:=b7V (t:=(S,0)) ss hso
 have hll:(a1O ((S,0):TyD)).1.length=3+(a0x S 0).length:=by rw[b2W];exact a7P _
 have hso2:(a0x S 0).length≤7:=by unfold a0x;rw[ws];exact ls
 have sc:TyS 20 [((S,0):TyD),a1O (S,0)]:=a9l ss sl (by simp only;omega) (by omega) (by omega)
 have ml:=b7U x (S,0) hx (by omega) ss ws (by simp only;omega)
 rw[Vt,a0a] at ml
 have mb:=b6r x name
 rw[Vt,a0a] at mb
 refine⟨b1M x _ hx (b5i (b4d (by omega))) (c3w (by omega)) (c0x (by omega) x),b1M x _ hx (b20 4 c nl hnl) (b5f 4 c nl hnl) (b2V nm4 c nl hnl x hx),b1M x _ hx (b20 6 c nl hnl) (b5f 6 c nl hnl) (b2V nm6 c nl hnl x hx),?_,?_,?_,b1M x _ hx (c6c name) (c58 name) (c3r name x),ml,?_,mb⟩
 ·exact b1M x (b7y [(S,0),(S,0)]) hx (b2Q (k:=10) s2) (c6a s2) (c3u s2 x)
 ·exact b1M x (a9k (S,0) (a1O (S,0))) hx (b2Q (k:=12) sc) (c3v sc) (b1P (by simp only;omega) sc x)
 ·exact b1M x (a1O (S,0)) hx sl (c3x (t:=(S,0)) (by simp only;omega)) rfl
 ·intro p hp
  rw[a1p,Bool.and_eq_true,Bool.and_eq_true] at hx
  exact b1M p (S,0) (List.all_eq_true.1 hx.2.1 p hp) ss ws rfl
end Go.Proofs.YthbcdhfiibpeaaaGreat

