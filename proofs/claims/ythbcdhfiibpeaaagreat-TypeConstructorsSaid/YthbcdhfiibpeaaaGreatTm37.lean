/- Lemmas of the proof. -/
import Derived.Test.YthbcdhfiibpeaaaGreatTm29
import Derived.Test.YthbcdhfiibpeaaaGreatTm36
open List renaming length_map→lB
open Nat renaming reduceBEq→zA,reduceBNe→zB,reduceAdd→zC,reduceSub→zD,reduceMul→zE,reduceLeDiff→zF,reduceLT→zG,reduceEqDiff→zH
open Int renaming reduceToNat→zI,reduceLE→zJ,reduceLT→zK,reduceEq→zL
open Bool renaming not_eq_true'→zM,not_eq_false'→zN
set_option linter.unusedSimpArgs false
set_option linter.unusedVariables false
set_option maxRecDepth 20000
set_option maxHeartbeats 64000000
namespace Go.Proofs.YthbcdhfiibpeaaaGreat
open Go Go.Sx
def a2K (g:Val→Int→Bool) (vs:List Val) (ks:List Int):Bool:=decide ((vs.length:Int)=(ks.length:Int))&&(vs.zip ks).all fun p=>g p.1 p.2
def a8e (x:NodeD) (k:KeyD):Int:=
  bif decide (0≤a2p (fun f:FieldD=>a3i f.key k) 0 x.fields) then (x.fields.getD (a2p (fun f:FieldD=>a3i f.key k) 0 x.fields).toNat ⟨⟨0,[]⟩,0,false⟩).node
  else bif decide (k.kind=0) then x.r0 else x.r1
def b2q (g:Val→Int→Bool) (x:NodeD) (v:Val):Bool:=
  (x.fields.all fun f=>f.opt||v.keys.any fun k=>a3i k f.key)&&(v.keys.zip v.kids).all fun p=>g p.2 (a8e x p.1)
def b4N (g:Val→Int→Bool) (ks:List Int) (e:List Val×Bool×Val):Bool:=!a2K g e.1 (ks.take (ks.length-1))||(!e.2.1&&g e.2.2 (a4F ks))
def b6R (g:Val→Int→Bool) (x:NodeD) (v:Val):Bool:=decide (v.num=(x.kids.length:Int)-1)&&v.ents.all (b4N g x.kids)
def memN (g:Val→Int→Bool) (x:NodeD) (v:Val):Bool:=
  bif decide (x.kind=2) then true else
  bif decide (x.kind=3) then decide (v.kind=1)&&(decide (x.lo≤v.num)&&decide (v.num≤x.hi)) else
  bif decide (x.kind=4) then decide (v.kind=2)&&decide (v.text=x.text) else
  bif decide (x.kind=5) then decide (v.kind=2) else
  bif decide (x.kind=6) then decide (v.kind=3)&&decide (v.text=x.text) else
  bif decide (x.kind=7) then decide (v.kind=3) else
  bif decide (x.kind=8) then decide (v.kind=4) else
  bif decide (x.kind=9) then decide (v.kind=5) else
  bif decide (x.kind=11) then decide (v.kind=6) else
  bif decide (x.kind=15) then decide (v.kind=9) else
  bif decide (x.kind=10) then decide (v.kind=6)&&a2K g v.kids x.kids else
  bif decide (x.kind=12) then decide (v.kind=7)&&a2K g v.kids x.kids else
  bif decide (x.kind=13) then decide (v.kind=8)&&b2q g x v else
  bif decide (x.kind=14) then decide (v.kind=9)&&b6R g x v else
  bif decide (x.kind=16) then x.kids.any (g v) else
  bif decide (x.kind=17) then x.kids.all (g v) else
  bif decide (x.kind=18) then !g v (x.kids.getD 0 0) else
  bif decide (x.kind=19) then v.labels.any fun s=>decide (s=x.text) else false
def a2F (l:List NodeD) (k:Int):NodeD:=l.getD k.toNat (b0G 1)
def a8T (l:List NodeD):Nat→Val→Int→Bool
  |0,_,_=>false
  |f+1,v,k=>memN (a8T l f) (a2F l k) v
theorem a2G {α:Type} {p q:α→Bool}:∀ {l:List α},(∀ x∈l,p x=q x)→l.all p=l.all q
  |[],_=>rfl
  |a::l,h=>by rw[List.all_cons,List.all_cons,h a (List.mem_cons_self ..),a2G fun x hx=>h x (List.mem_cons_of_mem _ hx)]
theorem a5M {α:Type} {p q:α→Bool}:∀ {l:List α},(∀ x∈l,p x=q x)→l.any p=l.any q
  |[],_=>rfl
  |a::l,h=>by rw[List.any_cons,List.any_cons,h a (List.mem_cons_self ..),a5M fun x hx=>h x (List.mem_cons_of_mem _ hx)]
theorem a95 {g g':Val→Int→Bool} {vs:List Val} {ks:List Int} (h:∀ v∈vs,∀ k∈ks,g v k=g' v k):a2K g vs ks=a2K g' vs ks:=by
  unfold a2K
  congr 1
  refine a2G fun p hp=>?_
  obtain⟨a,b⟩:=p
  have:=List.of_mem_zip hp
  exact h a this.1 b this.2
theorem a86 {α:Type} (p:α→Bool):∀ (l:List α) (k:Nat),0≤a2p p k l→∃ (i:Nat) (y:α),a2p p k l=((k+i:Nat):Int)∧l[i]?= some y∧p y=true
 |[],k,h=>by simp[a2p] at h
 |x::l,k,h=>by
  rw[a2p] at h ⊢
  cases hp:p x<;>rw[hp] at h<;>simp only[cond_true,cond_false] at h ⊢
  ·obtain⟨i,y,h1,h2,h3⟩:=a86 p l (k+1) h
   exact⟨i+1,y,by rw[h1];congr 1;omega,by simpa using h2,h3⟩
  ·exact⟨0,x,rfl,rfl,hp⟩
theorem a87 {x:NodeD} {k:KeyD} {i:Nat} {f:FieldD} (h:a2p (fun f:FieldD=>a3i f.key k) 0 x.fields=(i:Int)) (hf:x.fields[i]?= some f):a8e x k=f.node:=by
  unfold a8e
  rw[h,decide_eq_true (by omega:(0:Int)≤(i:Int)),cond_true,Int.toNat_natCast,List.getD_eq_getElem?_getD,hf];rfl
theorem a88 {x:NodeD} {k:KeyD} (h:decide (0≤a2p (fun f:FieldD=>a3i f.key k) 0 x.fields)=false):a8e x k=bif decide (k.kind=0) then x.r0 else x.r1:=by
  unfold a8e;rw[h];rfl
theorem a8f {x:NodeD} (hk:x.kind=13) (k:KeyD):a8e x k∈edgeL x:=by
 cases h:decide (0≤a2p (fun f:FieldD=>a3i f.key k) 0 x.fields) with
 |true=>
  obtain⟨i,f,h1,h2,_⟩:=a86 _ x.fields 0 (of_decide_eq_true h)
  rw[Nat.zero_add] at h1
  rw[a87 h1 h2]
  unfold edgeL
  exact List.mem_append_left _ (List.mem_append_right _ (List.mem_map_of_mem (List.mem_of_getElem? h2)))
 |false=>
  rw[a88 h]
  unfold edgeL
  rw[hk]
  cases decide (k.kind=0)<;>simp
theorem a2m {x:NodeD} {k:Int} (h:k∈x.kids):k∈edgeL x:=List.mem_append_left _ (List.mem_append_left _ h)
theorem b5R {l:List Int} (h:l≠[]):a4F l∈l:=by
  unfold a4F
  have h1:l.length-1<l.length:=by have:=List.length_pos_iff.2 h;omega
  rw[List.getD_eq_getElem?_getD,List.getElem?_eq_getElem h1]
  exact List.getElem_mem h1
theorem a96 {l:List Int} (h:l≠[]):l.getD 0 0∈l:=by
  cases l with
  |nil=>exact absurd rfl h
  |cons a l=>simp
theorem b1o {g g':Val→Int→Bool} {x:NodeD} {v:Val} (hk:a3x x.kind=true∨x.kind=14→x.kids≠[])
  (hp:∀ p k,a1V p<a1V v→k∈edgeL x→g p k=g' p k) (hb:a3x x.kind=true→∀ k∈x.kids,g v k=g' v k):memN g x v=memN g' x v:=by
 have hm:a2K g v.kids x.kids=a2K g' v.kids x.kids:=a95 fun p hp' k hk'=>hp p k (a3A hp') (a2m hk')
 unfold memN
 by_cases h13:x.kind=13
 ·rw[h13]
  simp only[Int.reduceEq,decide_false,cond_false,decide_true,cond_true]
  congr 1
  unfold b2q
  congr 1
  refine a2G fun p hp'=>?_
  obtain⟨a,b⟩:=p
  exact hp b _ (a3A (List.of_mem_zip hp').2) (a8f h13 a)
 by_cases h14:x.kind=14
 ·have hne:=hk (.inr h14)
  rw[h14]
  simp only[Int.reduceEq,decide_false,cond_false,decide_true,cond_true]
  congr 1
  unfold b6R
  congr 1
  refine a2G fun e he=>?_
  unfold b4N
  rw[a95 (g:=g) (g':=g') fun p hp' k hk'=>hp p k (b2g he hp') (a2m (List.mem_of_mem_take hk')),hp e.2.2 _ (b2h he) (a2m (b5R hne))]
 by_cases h16:x.kind=16
 ·have:=hb (by rw[h16];rfl)
  rw[h16]
  simp only[Int.reduceEq,decide_false,cond_false,decide_true,cond_true]
  exact a5M this
 by_cases h17:x.kind=17
 ·have:=hb (by rw[h17];rfl)
  rw[h17]
  simp only[Int.reduceEq,decide_false,cond_false,decide_true,cond_true]
  exact a2G this
 by_cases h18:x.kind=18
 ·have h1:=hb (by rw[h18];rfl)
  have h2:=hk (.inl (by rw[h18];rfl))
  rw[h18]
  simp only[Int.reduceEq,decide_false,cond_false,decide_true,cond_true]
  rw[h1 _ (a96 h2)]
 simp only[h13,h14,h16,h17,h18,decide_false,cond_false,hm]
def Hb (l:List NodeD):Nat→Nat→Prop
  |0,j=>bo l j=true→ks l j=[]
  |m+1,j=>bo l j=true→∀ k∈ks l j,Hb l m k
theorem Hb.up {l:List NodeD}:∀ {m j:Nat},Hb l m j→Hb l (m+1) j
  |0,j,h=>fun hb k hk=>by rw[h hb] at hk;cases hk
  |m+1,j,h=>fun hb k hk=>Hb.up (h hb k hk)
theorem Hb.le {l:List NodeD} {m j:Nat} (h:Hb l m j):∀ d,Hb l (m+d) j
  |0=>h
  |d+1=>(Hb.le h d).up
theorem b4O {l:List NodeD}:∀ L:List Nat,(∀ k∈L,∃ m,Hb l m k)→∃ M,∀ k∈L,Hb l M k
 |[],_=>⟨0,fun k hk=>by cases hk⟩
 |a::L,h=>by
  obtain⟨M,hM⟩:=b4O L fun k hk=>h k (List.mem_cons_of_mem _ hk)
  obtain⟨m,hm⟩:=h a (List.mem_cons_self ..)
  refine⟨M+m,fun k hk=>?_⟩
  rcases List.mem_cons.1 hk with rfl|hk
  ·rw[Nat.add_comm];exact hm.le M
  ·exact(hM k hk).le m
theorem c60 {l:List NodeD} {j:Nat} (h:Gr.Fin (bo l) (ks l) j):∃ m,Hb l m j:=by
 unfold Gr.Fin at h
 induction h with
 |intro j _ ih=>
  cases hb:bo l j with
  |false=>exact⟨0,fun h'=>by rw[hb] at h';cases h'⟩
  |true=>
   obtain⟨M,hM⟩:=b4O (l:=l) (ks l j) fun k hk=>ih k ⟨hb,hk⟩
   exact⟨M+1,fun _=>hM⟩
structure Wf (l:List NodeD) (R:Nat):Prop where
  edge:∀ x∈l,∀ e∈edgeL x,0≤e∧e<(l.length:Int)
  kids:∀ x∈l,a3x x.kind=true∨x.kind=14→x.kids≠[]
  hb:∀ j,j<l.length→Hb l R j
  kind:∀ x∈l,a1A l x=true
theorem inN {l:List NodeD} {k:Int} (h:0≤k∧k<(l.length:Int)):a2F l k∈l:=by
  have h1:k.toNat<l.length:=by omega
  unfold a2F
  rw[List.getD_eq_getElem?_getD,List.getElem?_eq_getElem h1]
  exact List.getElem_mem h1
theorem c61 {l:List NodeD} {k:Int} (h:0≤k∧k<(l.length:Int)):l[k.toNat]?= some (a2F l k):=by
  have h1:k.toNat<l.length:=by omega
  unfold a2F
  rw[List.getD_eq_getElem?_getD,List.getElem?_eq_getElem h1];rfl
theorem c1D {l:List NodeD} {k:Int} (h:0≤k∧k<(l.length:Int)):ks l k.toNat=(a2F l k).kids.map Int.toNat:=by
  unfold ks;rw[c61 h]
theorem c1E {l:List NodeD} {k:Int} (h:0≤k∧k<(l.length:Int)):bo l k.toNat=a3x (a2F l k).kind:=by
  unfold bo;rw[c61 h]
theorem Wf.of {l:List NodeD} {r:Int} (h:wfP l r=0):∃ R,Wf l R:=by
 obtain⟨_,_,ha,hc⟩:=a6A h
 have hin:=a8y ha
 have hkk:∀ i,i<l.length→∀ k∈ks l i,k<l.length:=by
  intro i hi k hk
  unfold ks at hk
  rw[List.getElem?_eq_getElem hi] at hk
  simp only[List.mem_map] at hk
  obtain⟨a,ha',rfl⟩:=hk
  have:=hin _ (List.getElem_mem hi) a ha'
  omega
 have hf:=(Gr.all_iff (bo:=bo l) (ks:=ks l) l.length hkk).1 hc
 obtain⟨R,hR⟩:=b4O (l:=l) (List.range l.length) fun k hk=>c60 (hf k (List.mem_range.1 hk))
 refine⟨R,fun x hx e he=>?_,fun x hx hk=>?_,fun j hj=>hR j (List.mem_range.2 hj),fun x hx=>List.all_eq_true.1 ha x hx⟩
 ·have:=List.all_eq_true.1 ha x hx
  simp only[a1A,Bool.and_eq_true] at this
  have:=List.all_eq_true.1 this.2.2 e he
  simp only[a3W,Bool.not_eq_true',Bool.or_eq_false_iff,decide_eq_false_iff_not] at this
  omega
 ·have:=List.all_eq_true.1 ha x hx
  simp only[a1A,Bool.and_eq_true] at this
  have hv:=this.2.1
  intro h0
  have:x.kind=16∨x.kind=17∨x.kind=18∨x.kind=14:=by
   rcases hk with hk|hk
   ·simp only[a3x,Bool.or_eq_true,decide_eq_true_eq] at hk;omega
   ·omega
  rcases this with e|e|e|e<;>simp[a0z,e,h0] at hv
theorem b4P {l:List NodeD} {R:Nat} (hl:Wf l R):∀ (f f' b m:Nat) (v:Val) (k:Int),a1V v≤b→0≤k∧k<(l.length:Int)→Hb l m k.toNat→m≤R→
  b*(R+1)+m<f→b*(R+1)+m<f'→a8T l f v k=a8T l f' v k:=by
 intro f
 induction f with
 |zero=>intro f' b m v k _ _ _ _ h;omega
 |succ f ih=>
  intro f' b m v k hb hk hh hm h1 h2
  cases f' with
  |zero=>omega
  |succ f'=>
   rw[a8T,a8T]
   have hmem:=inN hk
   have hb1:=a9M v
   obtain⟨b',rfl⟩:∃ b',b=b'+1:=⟨b-1,by omega⟩
   have hmul:(b'+1)*(R+1)=b'*(R+1)+(R+1):=Nat.succ_mul _ _
   refine b1o (hl.kids _ hmem) (fun p k' hp hk'=>?_) (fun hbo k' hk'=>?_)
   ·have he:=hl.edge _ hmem k' hk'
    exact ih f' b' R p k' (by omega) he (hl.hb _ (by omega)) (Nat.le_refl _) (by omega) (by omega)
   ·have he:=hl.edge _ hmem k' (a2m hk')
    cases m with
    |zero=>
     have:=hh (by rw[c1E hk];exact hbo)
     rw[c1D hk] at this
     rw[List.map_eq_nil_iff] at this
     rw[this] at hk';cases hk'
    |succ m=>
     have:=hh (by rw[c1E hk];exact hbo) k'.toNat (by rw[c1D hk];exact List.mem_map_of_mem hk')
     exact ih f' (b'+1) m v k' hb he this (by omega) (by omega) (by omega)
noncomputable def a4k (l:List NodeD) (v:Val) (k:Int):Bool:=by
  classical exact decide (∃ F,∀ f,F≤f→a8T l f v k=true)
theorem b4Q {l:List NodeD} {R:Nat} (hl:Wf l R) {v:Val} {k:Int} (hk:0≤k∧k<(l.length:Int)) {f:Nat} (hf:a1V v*(R+1)+R<f):a8T l f v k=a4k l v k:=by
 have hs:∀ f',a1V v*(R+1)+R<f'→a8T l f v k=a8T l f' v k:=fun f' h'=>b4P hl f f' (a1V v) R v k (Nat.le_refl _) hk (hl.hb _ (by omega)) (Nat.le_refl _) hf h'
 classical
 unfold a4k
 cases h:a8T l f v k with
 |true=>exact(decide_eq_true ⟨f,fun f' h'=>by rw[← hs f' (by omega)];exact h⟩).symm
 |false=>
  refine(decide_eq_false ?_).symm
  rintro⟨F,hF⟩
  have:=hF (F+f) (by omega)
  rw[← hs (F+f) (by omega),h] at this
  cases this
theorem a2s {l:List NodeD} {R:Nat} (hl:Wf l R) {v:Val} {k:Int} (hk:0≤k∧k<(l.length:Int)):a4k l v k=memN (a4k l) (a2F l k) v:=by
 obtain⟨f,hf⟩:∃ f,f=a1V v*(R+1)+R+1:=⟨_,rfl⟩
 have hmem:=inN hk
 rw[← b4Q hl hk (f:=f+1) (by omega),a8T]
 refine b1o (hl.kids _ hmem) (fun p k' hp hk'=>?_) (fun hbo k' hk'=>?_)
 ·have:a1V p*(R+1)≤a1V v*(R+1):=Nat.mul_le_mul_right _ (by omega)
  exact b4Q hl (hl.edge _ hmem k' hk') (by omega)
 ·exact b4Q hl (hl.edge _ hmem k' (a2m hk')) (by omega)
def b3r (l:List NodeD) (r:Int) (g:Val→Int→Bool) (v:Val) (k:Int):Prop:=PC Tryz.prog 52 [Vt v,Tt l r,I .i64 k] (Bo (g v k))
theorem b3r.f {l:List NodeD} {r:Int} {g:Val→Int→Bool} {v:Val} {k:Int} (h:b3r l r g v k):PC Tryz.prog 52 [.st (a0g v), .st [.sl 8 (l.map a0c), .int .i64 r],I .i64 k] (Bo (g v k)):=h
theorem b3r.e {l:List NodeD} {r:Int} {g:Val→Int→Bool} {v:Val} {k:Int} (h:b3r l r g v k):PC Tryz.prog 52 [.st [.int .i64 v.kind, .int .i64 v.num, .str v.text, .sl 7 (v.kids.map a0g), .sl 2 (v.keys.map a0k), .sl 9 (v.ents.map a0l), .sl 1 (v.labels.map Sx.encStr)], .st [.sl 8 (l.map a0c), .int .i64 r],I .i64 k] (Bo (g v k)):=by
  rw[← a0a];exact h
theorem b3s (l:List NodeD) (r:Int) (g:Val→Int→Bool) (vs:List Val) (ks:List Int) (H:∀ v∈vs,∀ k∈ks,b3r l r g v k):
  PC Tryz.prog 89 [.one (.dat (.sl 7 (vs.map a0g))),Tt l r, .one (.dat (.sl 1 (ks.map a0e)))] (Bo (a2K g vs ks)):=by
 refine PCB.ob Tryz.func89 Tryz.ntmps89 Tryz.results89 ?_
 unfold a2K
 cases hl:decide ((vs.length:Int)=(ks.length:Int))
 ·
  repeat'(first|(simp only[go_sem,zA,zB,zC,zD,zE,zF,zG,reduceCtorEq,zH,zI,zJ,zK,zL,hl,lB];all_goals refine nf ?_)|(refine stp ?_;intro K hK)|(apply hK;clear hK K)|refine stn ?_|(clear hK K))
  all_goals exact lf
 have hle:vs.length=ks.length:=by have:=of_decide_eq_true hl;omega
 repeat'(first|(simp only[go_sem,zA,zB,zC,zD,zE,zF,zG,reduceCtorEq,zH,zI,zJ,zK,zL,hl,lB];all_goals refine nf ?_)|(refine stp ?_;intro K hK)|(apply hK;clear hK K)|refine stn ?_|fail)
 refine AWP.len 0 rfl fun hlen0=>?_
 (try rw[lB] at hlen0)
 refine AWP.range (S:=Unit) (vs) a0g (fun k s=>(7,I .i64 (k:Nat))::[]) (fun k s=>[]) [0,2,4] [4] (fun k s=>((vs.zip ks).all fun p=>g p.1 p.2)=(((vs.zip ks).drop k).all fun p=>g p.1 p.2)) (()) (by refine sts ?_;exact Gh.tt []) ?_ ?_ ?_
 ·rfl
 ·intro k s x hlt hx hx' hb hok
  refine sts ?_
  have hkv:k<vs.length:=(List.getElem?_eq_some_iff.1 hx).1
  have hkk:k<ks.length:=by omega
  obtain⟨y,hy⟩:∃ y,ks[k]?= some y:=⟨ks[k],List.getElem?_eq_getElem hkk⟩
  have hy':=a0n a0e hy
  rw[b2l hx hy,List.all_cons] at hok
  have hM:=(H x (List.mem_of_getElem? hx) y (List.mem_of_getElem? hy)).f
  cases hz:g x y<;>simp only[hz,Bool.true_and,Bool.false_and] at hok
  ·
   repeat'(first|(simp only[go_sem,zA,zB,zC,zD,zE,zF,zG,reduceCtorEq,zH,zI,zJ,zK,zL,lB,hb,hz];all_goals refine nf ?_)|(refine stp ?_;intro K hK)|(apply hK;clear hK K)|refine stn ?_|(with_reducible first|refine⟨by omega,a0g x,hx',?_⟩|refine⟨by omega,a0e y,hy',?_⟩|refine⟨_,hM,?_⟩)|(refine a0M ?_;intro K hK)|(clear hK K))
   all_goals(first|exact lf|(refine a0m ?_;simp only[hok,zb,cond_true,cond_false,decide_true,decide_false]<;>rfl))
  ·
   repeat'(first|(simp only[go_sem,zA,zB,zC,zD,zE,zF,zG,reduceCtorEq,zH,zI,zJ,zK,zL,lB,hb,hz];all_goals refine nf ?_)|(refine stp ?_;intro K hK)|(apply hK;clear hK K)|refine stn ?_|(with_reducible first|refine⟨by omega,a0g x,hx',?_⟩|refine⟨by omega,a0e y,hy',?_⟩|refine⟨_,hM,?_⟩)|(refine a0M ?_;intro K hK)|(clear hK K))
   all_goals(rw[a0d hlt hlen0])
   all_goals(refine⟨(),?_,Gh.tt []⟩)
   all_goals exact hok
 ·intro s hb hok
  refine sts ?_
  rw[b4F] at hok
  repeat'(first|(simp only[go_sem,zA,zB,zC,zD,zE,zF,zG,reduceCtorEq,zH,zI,zJ,zK,zL,lB,hb];all_goals refine nf ?_)|(refine stp ?_;intro K hK)|(apply hK;clear hK K)|refine stn ?_|(clear hK K))
  all_goals(first|exact lf|(refine a0m ?_;simp only[hok,zb,cond_true,cond_false,decide_true,decide_false]<;>rfl))
theorem c1F (v:Val) (k:KeyD):PC Tryz.prog 134 [Vt v, .st (a0k k)] (I .i64 (a2p (fun y:KeyD=>a3i y k) 0 v.keys)):=by
 refine PCB.ob Tryz.func134 Tryz.ntmps134 Tryz.results134 ?_
 repeat'(first|(simp only[go_sem,zA,zB,zC,zD,zE,zF,zG,reduceCtorEq,zH,zI,zJ,zK,zL,a0a v,lB];all_goals refine nf ?_)|(refine stp ?_;intro K hK)|(apply hK;clear hK K)|refine stn ?_|fail)
 refine AWP.lenB 2 4 rfl rfl fun hlen0=>?_
 (try rw[lB] at hlen0)
 refine AWP.range (S:=Unit) (v.keys) a0k (fun k s=>(5,I .i64 (k:Nat))::[]) (fun k s=>[]) [2,3] [2,3] (fun i s=>a2p (fun y:KeyD=>a3i y k) 0 v.keys=a2p (fun y:KeyD=>a3i y k) i (v.keys.drop i)) (()) (by simp only[go_sem,zA,zB,zC,zD,zE,zF,zG,reduceCtorEq,zH,zI,zJ,zK,zL,a0a v];exact Gh.tt []) ?_ ?_ ?_
 ·rfl
 ·intro i s x hlt hx hx' hb hok
  refine sts ?_
  rw[b02 _ _ _ _ hx] at hok
  cases hz:a3i x k<;>simp only[hz,cond_true,cond_false] at hok
  ·
   repeat'(first|(simp only[go_sem,zA,zB,zC,zD,zE,zF,zG,reduceCtorEq,zH,zI,zJ,zK,zL,a0a v,lB,hb,hz];all_goals refine nf ?_)|(refine stp ?_;intro K hK)|(apply hK;clear hK K)|refine stn ?_|(with_reducible refine⟨by omega,a0k x,hx',?_⟩)|(refine a0M ?_;intro K hK)|(clear hK K))
   all_goals(rw[a0d hlt hlen0])
   all_goals(refine⟨(),?_,Gh.tt []⟩)
   all_goals exact hok
  ·
   repeat'(first|(simp only[go_sem,zA,zB,zC,zD,zE,zF,zG,reduceCtorEq,zH,zI,zJ,zK,zL,a0a v,lB,hb,hz];all_goals refine nf ?_)|(refine stp ?_;intro K hK)|(apply hK;clear hK K)|refine stn ?_|(with_reducible refine⟨by omega,a0k x,hx',?_⟩)|(refine a0M ?_;intro K hK)|(clear hK K))
   all_goals(first|exact lf|(refine a0m ?_;simp only[hok,zb,cond_true,cond_false,decide_true,decide_false]<;>rfl))
 ·intro s hb hok
  refine sts ?_
  rw[List.drop_length] at hok
  repeat'(first|(simp only[go_sem,zA,zB,zC,zD,zE,zF,zG,reduceCtorEq,zH,zI,zJ,zK,zL,a0a v,lB,hb];all_goals refine nf ?_)|(refine stp ?_;intro K hK)|(apply hK;clear hK K)|refine stn ?_|(clear hK K))
  all_goals(refine a0m ?_;rw[hok];rfl)
theorem c1G (v:Val) (k:KeyD):PC Tryz.prog 134 [.st [.int .i64 v.kind, .int .i64 v.num, .str v.text, .sl 7 (v.kids.map a0g), .sl 2 (v.keys.map a0k), .sl 9 (v.ents.map a0l), .sl 1 (v.labels.map Sx.encStr)], .st [.int .i64 k.kind, .str k.text]] (I .i64 (a2p (fun y:KeyD=>a3i y k) 0 v.keys)):=by
  rw[← a0a];exact c1F v k
theorem b6S (x:NodeD) (k:KeyD):PC Tryz.prog 135 [.st [.int .i64 x.kind, .int .i64 x.lo, .int .i64 x.hi, .str x.text, .sl 1 (x.kids.map a0e), .sl 4 (x.fields.map a0i), .int .i64 x.r0, .int .i64 x.r1], .st (a0k k)] (I .i64 (a2p (fun f:FieldD=>a3i f.key k) 0 x.fields)):=by
 refine PCB.ob Tryz.func135 Tryz.ntmps135 Tryz.results135 ?_
 repeat'(first|(simp only[go_sem,zA,zB,zC,zD,zE,zF,zG,reduceCtorEq,zH,zI,zJ,zK,zL,lB];all_goals refine nf ?_)|(refine stp ?_;intro K hK)|(apply hK;clear hK K)|refine stn ?_|fail)
 refine AWP.lenB 2 5 rfl rfl fun hlen0=>?_
 (try rw[lB] at hlen0)
 refine AWP.range (S:=Unit) (x.fields) a0i (fun k s=>(5,I .i64 (k:Nat))::[]) (fun k s=>[]) [2,3] [2,3] (fun i s=>a2p (fun f:FieldD=>a3i f.key k) 0 x.fields=a2p (fun f:FieldD=>a3i f.key k) i (x.fields.drop i)) (()) (by refine sts ?_;exact Gh.tt []) ?_ ?_ ?_
 ·rfl
 ·intro i s f hlt hx hx' hb hok
  refine sts ?_
  rw[b02 _ _ _ _ hx] at hok
  have hz2:(decide (f.key.kind=k.kind)&&decide (f.key.text=k.text))=a3i f.key k:=by rw[a3i,Bool.and_true]
  cases hz:a3i f.key k<;>simp only[hz,cond_true,cond_false] at hok<;>rw[hz] at hz2
  ·
   repeat'(first|(simp only[go_sem,zA,zB,zC,zD,zE,zF,zG,reduceCtorEq,zH,zI,zJ,zK,zL,lB,hb,hz2,encField_lit,a0k];all_goals refine nf ?_)|(refine stp ?_;intro K hK)|(apply hK;clear hK K)|refine stn ?_|(with_reducible refine⟨by omega,a0i f,hx',?_⟩)|(refine a0M ?_;intro K hK)|(clear hK K))
   all_goals(rw[a0d hlt hlen0])
   all_goals(refine⟨(),?_,Gh.tt []⟩)
   all_goals exact hok
  ·
   repeat'(first|(simp only[go_sem,zA,zB,zC,zD,zE,zF,zG,reduceCtorEq,zH,zI,zJ,zK,zL,lB,hb,hz2,encField_lit,a0k];all_goals refine nf ?_)|(refine stp ?_;intro K hK)|(apply hK;clear hK K)|refine stn ?_|(with_reducible refine⟨by omega,a0i f,hx',?_⟩)|(refine a0M ?_;intro K hK)|(clear hK K))
   all_goals(first|exact lf|(refine a0m ?_;simp only[hok,zb,cond_true,cond_false,decide_true,decide_false]<;>rfl))
 ·intro s hb hok
  refine sts ?_
  rw[List.drop_length] at hok
  repeat'(first|(simp only[go_sem,zA,zB,zC,zD,zE,zF,zG,reduceCtorEq,zH,zI,zJ,zK,zL,lB,hb];all_goals refine nf ?_)|(refine stp ?_;intro K hK)|(apply hK;clear hK K)|refine stn ?_|(clear hK K))
  all_goals(refine a0m ?_;rw[hok];rfl)
end Go.Proofs.YthbcdhfiibpeaaaGreat

