/- Lemmas of the proof. -/
import Derived.Test.YthbcdhfiibpeaaaGreatTm34
import Derived.Test.YthbcdhfiibpeaaaGreatTm41
open List renaming length_map→lB
open Nat renaming reduceBEq→zA,reduceBNe→zB,reduceAdd→zC,reduceSub→zD,reduceMul→zE,reduceLeDiff→zF,reduceLT→zG,reduceEqDiff→zH
open Int renaming reduceToNat→zI,reduceLE→zJ,reduceLT→zK,reduceEq→zL
open Bool renaming not_eq_true'→zM,not_eq_false'→zN
set_option linter.unusedSimpArgs false
set_option linter.unusedVariables false
set_option maxRecDepth 20000
set_option maxHeartbeats 64000000
namespace Go.Proofs.YthbcdhfiibpeaaaGreat
open Go Go.Sx
theorem c2M {b:Nat} {k:Int} {n:Nat} (hk:0≤k∧k<(n:Int)) (hb:b+n≤100000000):upI b k=k+b:=by
  unfold upI;rw[w64 (by omega)]
theorem b1s (q:Val→Int→Bool) (f:Int→Int):∀ (vs:List Val) (ks:List Int),((vs.zip (ks.map f)).all fun p=>q p.1 p.2)=(vs.zip ks).all fun p=>q p.1 (f p.2)
  |[],ks=>by simp
  |v::vs,[]=>by simp
  |v::vs,k::ks=>by simp only[List.map_cons,List.zip_cons_cons,List.all_cons,b1s q f vs ks]
theorem b51 {g g':Val→Int→Bool} {b:Int} {vs:List Val} {ks:List Int} (h:∀ v,∀ k∈ks,g' v (upI b k)=g v k):a2K g' vs (ks.map (upI b))=a2K g vs ks:=by
  unfold a2K
  rw[lB,b1s]
  congr 1
  refine a2G fun p hp=>?_
  obtain⟨a,c⟩:=p
  exact h a c (List.of_mem_zip hp).2
theorem b3J {α β:Type} (f:α→β) (p:β→Bool):∀ (l:List α) (i:Nat),a2p p i (l.map f)=a2p (fun x=>p (f x)) i l
  |[],i=>rfl
  |x::l,i=>by rw[List.map_cons,a2p,a2p,b3J f p l (i+1)]
theorem c1Y (x:NodeD) (b:Int) (k:KeyD) (hk:x.kind=13):a8e (upN b x) k=upI b (a8e x k):=by
 have hf:a2p (fun f:FieldD=>a3i f.key k) 0 (upN b x).fields=a2p (fun f:FieldD=>a3i f.key k) 0 x.fields:=b3J (upF b) _ _ _
 cases h:decide (0≤a2p (fun f:FieldD=>a3i f.key k) 0 x.fields) with
 |true=>
  obtain⟨i,f,h1,h2,_⟩:=a86 _ x.fields 0 (of_decide_eq_true h)
  rw[Nat.zero_add] at h1
  rw[a87 h1 h2]
  have h3:(upN b x).fields[i]?= some (upF b f):=by show (x.fields.map (upF b))[i]?= _;rw[List.getElem?_map,h2];rfl
  rw[a87 (by rw[hf,h1]) h3];rfl
 |false=>
  rw[a88 h,a88 (by rw[hf];exact h)]
  simp only[upN,hk,decide_true,cond_true]
  cases decide (k.kind=0)<;>rfl
theorem b9w (f:Int→Int) {l:List Int} (h:l≠[]):a4F (l.map f)=f (a4F l):=by
  unfold a4F
  have h1:l.length-1<l.length:=by have:=List.length_pos_iff.2 h;omega
  rw[lB,List.getD_eq_getElem?_getD,List.getD_eq_getElem?_getD,List.getElem?_map,List.getElem?_eq_getElem h1];rfl
theorem b9x (x:NodeD) (b:Int):edgeL (upN b x)=(edgeL x).map (upI b):=by
  unfold edgeL upN
  simp only[List.map_append,List.map_map]
  cases decide (x.kind=13)<;>rfl
theorem b9y {g g':Val→Int→Bool} {x:NodeD} {v:Val} {b:Int} (h:∀ p,∀ k∈edgeL x,g' p (upI b k)=g p k) (hk:a3x x.kind=true∨x.kind=14→x.kids≠[]):memN g' (upN b x) v=memN g x v:=by
 have hkid:∀ p,∀ k∈x.kids,g' p (upI b k)=g p k:=fun p k hk=>h p k (a2m hk)
 have hms:a2K g' v.kids (upN b x).kids=a2K g v.kids x.kids:=b51 hkid
 have e:(upN b x).kind=x.kind:=rfl
 have e1:(upN b x).lo=x.lo:=rfl
 have e2:(upN b x).hi=x.hi:=rfl
 have e3:(upN b x).text=x.text:=rfl
 unfold memN
 rw[e,e1,e2,e3,hms]
 by_cases h13:x.kind=13
 ·rw[h13]
  simp only[Int.reduceEq,decide_false,cond_false,decide_true,cond_true]
  congr 1
  unfold b2q
  congr 1
  ·show ((x.fields.map (upF b)).all _)=_
   rw[List.all_map];rfl
  ·refine a2G fun p hp=>?_
   rw[c1Y x b p.1 h13]
   exact h p.2 _ (a8f h13 p.1)
 by_cases h14:x.kind=14
 ·have hne:=hk (.inr h14)
  rw[h14]
  simp only[Int.reduceEq,decide_false,cond_false,decide_true,cond_true]
  congr 1
  unfold b6R
  have ek:(upN b x).kids=x.kids.map (upI b):=rfl
  rw[ek,lB]
  congr 1
  refine a2G fun e he=>?_
  unfold b4N
  rw[lB,← List.map_take,b9w _ hne,b51 fun p k hk=>hkid p k (List.mem_of_mem_take hk),hkid e.2.2 _ (b5R hne)]
 have ek:(upN b x).kids=x.kids.map (upI b):=rfl
 by_cases h16:x.kind=16
 ·rw[h16]
  simp only[Int.reduceEq,decide_false,cond_false,decide_true,cond_true]
  rw[ek,List.any_map]
  exact a5M fun k hk=>hkid v k hk
 by_cases h17:x.kind=17
 ·rw[h17]
  simp only[Int.reduceEq,decide_false,cond_false,decide_true,cond_true]
  rw[ek,List.all_map]
  exact a2G fun k hk=>hkid v k hk
 by_cases h18:x.kind=18
 ·have hne:=hk (.inl (by rw[h18];rfl))
  rw[h18]
  simp only[Int.reduceEq,decide_false,cond_false,decide_true,cond_true]
  have:(x.kids.map (upI b)).getD 0 0=upI b (x.kids.getD 0 0):=by
   cases hkk:x.kids with
   |nil=>exact absurd hkk hne
   |cons a t=>rfl
  rw[ek,this,hkid v _ (a96 hne)]
 simp only[h13,h14,h16,h17,h18,decide_false,cond_false]
structure Emb (L s:List NodeD) (b:Nat):Prop where
  at_:∀ j,j<s.length→L[b+j]?= (s[j]?).map (upN b)
  len:b+s.length≤L.length
  big:L.length≤10000000
theorem Emb.mk_ {pre s post:List NodeD} (h:(pre++s.map (upN pre.length)++post).length≤10000000):Emb (pre++s.map (upN pre.length)++post) s pre.length where
 at_:=fun j hj=>by
  rw[List.append_assoc,List.getElem?_append_right (by omega),Nat.add_sub_cancel_left,List.getElem?_append_left (by rw[lB];exact hj),List.getElem?_map]
 len:=by simp
 big:=h
theorem Emb.up {L s:List NodeD} {b:Nat} (h:Emb L s b) {k:Int} (hk:0≤k∧k<(s.length:Int)):upI b k=k+b:=by
  have:=h.len;have:=h.big
  exact c2M (n:=s.length) hk (by omega)
theorem Emb.node {L s:List NodeD} {b:Nat} (h:Emb L s b) {k:Int} (hk:0≤k∧k<(s.length:Int)):a2F L (upI b k)=upN b (a2F s k):=by
  rw[h.up hk]
  unfold a2F
  have h1:(k+(b:Int)).toNat=b+k.toNat:=by omega
  have h2:=h.at_ k.toNat (by omega)
  rw[h1,List.getD_eq_getElem?_getD,h2,List.getD_eq_getElem?_getD,List.getElem?_eq_getElem (by omega)];rfl
theorem b9z {L s:List NodeD} {b R:Nat} (h:Emb L s b) (hs:Wf s R):∀ (f:Nat) (v:Val) (k:Int),0≤k∧k<(s.length:Int)→a8T L f v (upI b k)=a8T s f v k
 |0,v,k,_=>rfl
 |f+1,v,k,hk=>by
  rw[a8T,a8T,h.node hk]
  have hm:=inN hk
  exact b9y (fun p k' hk'=>b9z h hs f p k' (hs.edge _ hm k' hk')) (hs.kids _ hm)
theorem b9A {L s:List NodeD} {b R:Nat} (h:Emb L s b) (hs:Wf s R) (v:Val) (k:Int) (hk:0≤k∧k<(s.length:Int)):a4k L v (upI b k)=a4k s v k:=by
  have e2:∀ f,a8T L f v (upI b k)=a8T s f v k:=fun f=>b9z h hs f v k hk
  have e3:(∃ F,∀ f,F≤f→a8T L f v (upI b k)=true)↔(∃ F,∀ f,F≤f→a8T s f v k=true):=by simp only[e2]
  unfold a4k
  exact decide_eq_decide.2 e3
theorem b52 (x:NodeD) (b:Int):a1J (upN b x)=a1J x:=by
 unfold a1J a5v a33
 have e:(upN b x).kind=x.kind:=rfl
 rw[e]
 cases h13:decide (x.kind=13)
 ·simp only[upN,h13,cond_false,lB]
 ·have:x.kind=13:=of_decide_eq_true h13
  simp only[upN,this,Int.reduceEq,decide_true,decide_false,Bool.or_false,cond_true,cond_false,lB,Bool.or_true,Bool.true_or]
theorem b9B (b:Int):∀ (l:List FieldD) (p:Option KeyD),b03 p (l.map (upF b))=b03 p l
 |[],p=>rfl
 |f::l,p=>by
  have ih:=b9B b l
  cases p<;>simp only[List.map_cons,b03,ih]<;>rfl
theorem b3K (x:NodeD) (b:Int):a0z (upN b x)=a0z x:=by
  unfold a0z
  simp only[upN,lB,b9B]
  rfl
theorem b2x {L s:List NodeD} {b:Nat} (h:Emb L s b) {x:NodeD} (hx:a1A s x=true):a1A L (upN b x)=true:=by
  have:=h.len
  simp only[a1A,Bool.and_eq_true] at hx ⊢
  refine⟨by rw[b52];exact hx.1,by rw[b3K];exact hx.2.1,?_⟩
  rw[b9x,List.all_map,List.all_eq_true]
  intro e he
  have h2:=List.all_eq_true.1 hx.2.2 e he
  simp only[a3W,Bool.not_eq_true',Bool.or_eq_false_iff,decide_eq_false_iff_not] at h2
  have h3:=h.up (k:=e) (by omega)
  simp only[Function.comp_def,a3W,Bool.not_eq_true',Bool.or_eq_false_iff,decide_eq_false_iff_not,h3]
  omega
theorem b9C {L s:List NodeD} {b R:Nat} (h:Emb L s b) (hs:Wf s R) {j:Nat} (hj:j<s.length) (hf:Gr.Fin (bo s) (ks s) j):Gr.Fin (bo L) (ks L) (b+j):=by
 unfold Gr.Fin at hf
 induction hf with
 |intro j _ ih=>
  have hx:s[j]?= some s[j]:=List.getElem?_eq_getElem hj
  have hL:L[b+j]?= some (upN b s[j]):=by rw[h.at_ j hj,hx];rfl
  refine Gr.fin_of _ _ fun hb k hk=>?_
  have hbs:bo s j=true:=by unfold bo at hb ⊢; rw[hL] at hb;rw[hx];exact hb
  unfold ks at hk
  rw[hL] at hk
  obtain⟨y,hy,rfl⟩:=List.mem_map.1 hk
  obtain⟨z,hz,rfl⟩:=List.mem_map.1 (show y∈s[j].kids.map (upI b) from hy)
  have hzr:=hs.edge _ (List.getElem_mem hj) z (a2m hz)
  rw[h.up hzr,show (z+(b:Int)).toNat=b+z.toNat by omega]
  refine ih z.toNat ⟨hbs,?_⟩ (by omega)
  unfold ks;rw[hx]
  exact List.mem_map_of_mem hz
theorem b9D {l:List NodeD} {r:Int} (h0:0≤r) (hr:r<(l.length:Int)) (hn:∀ x∈l,a1A l x=true) (hf:∀ j,j<l.length→Gr.Fin (bo l) (ks l) j):wfP l r=0:=by
  have ho:a3W l r=false:=by simp only[a3W,Bool.or_eq_false_iff,decide_eq_false_iff_not];omega
  have ha:l.all (a1A l)=true:=List.all_eq_true.2 hn
  have hc:a6y l=true:=(Gr.all_iff (bo l) (ks l) l.length (b6E (a8y ha))).2 hf
  unfold wfP
  rw[ho,ha,hc];rfl
theorem b2y {l:List NodeD} {r:Int} (h:wfP l r=0):∀ j,j<l.length→Gr.Fin (bo l) (ks l) j:=by
  obtain⟨_,_,ha,hc⟩:=a6A h
  exact(Gr.all_iff (bo l) (ks l) l.length (b6E (a8y ha))).1 hc
end Go.Proofs.YthbcdhfiibpeaaaGreat

