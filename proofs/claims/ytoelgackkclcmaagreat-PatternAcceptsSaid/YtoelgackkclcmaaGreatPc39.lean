/- Lemmas. -/
import Derived.Test.YtoelgackkclcmaaGreatPc38
import Derived.Test.YtoelgackkclcmaaGreatPc27
open Go.Proofs.Tryz renaming prog→zP
open List renaming length_map→lB,drop_length→lL,mem_of_getElem?→lP
open Go.Sx.AWP renaming range→xC,lenB→xE
set_option linter.unusedSimpArgs false
set_option linter.unusedVariables false
set_option maxRecDepth 20000
set_option maxHeartbeats 64000000
namespace Go.Proofs.YtoelgackkclcmaaGreat
open Go Go.Sx
def a4S (g:Val→Int→Bool) (vs:List Val) (ks:List Int):Bool:=decide ((vs.length:Int)=(ks.length:Int))&&(vs.zip ks).all fun p=>g p.1 p.2
def a73 (x:NodeD) (k:KeyD):Int:=
  bif decide (0≤a1F (fun f:FieldD=>a1t f.key k) 0 x.fields) then (x.fields.getD (a1F (fun f:FieldD=>a1t f.key k) 0 x.fields).toNat ⟨⟨0,[]⟩,0,false⟩).node
  else bif decide (k.kind=0) then x.r0 else x.r1
def a9Y (g:Val→Int→Bool) (x:NodeD) (v:Val):Bool:=
  (x.fields.all fun f=>f.opt||v.keys.any fun k=>a1t k f.key)&&(v.keys.zip v.kids).all fun p=>g p.2 (a73 x p.1)
def b6p (g:Val→Int→Bool) (ks:List Int) (e:List Val×Bool×Val):Bool:=!a4S g e.1 (ks.take (ks.length-1))||(!e.2.1&&g e.2.2 (a5C ks))
def b8O (g:Val→Int→Bool) (x:NodeD) (v:Val):Bool:=decide (v.num=(x.kids.length:Int)-1)&&v.ents.all (b6p g x.kids)
def memN (g:Val→Int→Bool) (x:NodeD) (v:Val):Bool:=
  bif decide (x.kind=2) then true else
  bif decide (x.kind=3) then decide (v.kind=1)&&(decide (x.lo≤v.num)&&decide (v.num≤x.hi)) else
  bif decide (x.kind=4) then decide (v.kind=2)&&decide (v.text=x.text) else
  bif decide (x.kind=5) then decide (v.kind=2) else
  bif decide (x.kind=6) then decide (v.kind=3)&&decide (v.text=x.text) else
  bif decide (x.kind=7) then decide (v.kind=3) else
  bif decide (x.kind=8) then decide (v.kind=4) else
  bif decide (x.kind=9) then decide (v.kind=5) else
  bif decide (x.kind=11) then decide (v.kind=6) else
  bif decide (x.kind=15) then decide (v.kind=9) else
  bif decide (x.kind=10) then decide (v.kind=6)&&a4S g v.kids x.kids else
  bif decide (x.kind=12) then decide (v.kind=7)&&a4S g v.kids x.kids else
  bif decide (x.kind=13) then decide (v.kind=8)&&a9Y g x v else
  bif decide (x.kind=14) then decide (v.kind=9)&&b8O g x v else
  bif decide (x.kind=16) then x.kids.any (g v) else
  bif decide (x.kind=17) then x.kids.all (g v) else
  bif decide (x.kind=18) then !g v (x.kids.getD 0 0) else
  bif decide (x.kind=19) then v.labels.any fun s=>decide (s=x.text) else false
def a3z (l:List NodeD) (k:Int):NodeD:=l.getD k.toNat (b4H 1)
def b3t (l:List NodeD):Nat→Val→Int→Bool
  |0,_,_=>false
  |f+1,v,k=>memN (b3t l f) (a3z l k) v
theorem a2X {α:Type} {p q:α→Bool}:∀ {l:List α},(∀ x∈l,p x=q x)→l.all p=l.all q
  |[],_=>rfl
  |a::l,h=>by rw[List.all_cons,List.all_cons,h a (zbl ..),a2X fun x hx=>h x (zas _ hx)]
theorem a6Z {α:Type} {p q:α→Bool}:∀ {l:List α},(∀ x∈l,p x=q x)→l.any p=l.any q
  |[],_=>rfl
  |a::l,h=>by rw[List.any_cons,List.any_cons,h a (zbl ..),a6Z fun x hx=>h x (zas _ hx)]
theorem b1d {g g':Val→Int→Bool} {vs:List Val} {ks:List Int} (h:∀ v∈vs,∀ k∈ks,g v k=g' v k):a4S g vs ks=a4S g' vs ks:=by
  unfold a4S
  congr 1
  refine a2X fun p hp=>?_
  obtain⟨a,b⟩:=p
  have:=zdz hp
  exact h a this.1 b this.2
theorem a5h {α:Type} (p:α→Bool):∀ (l:List α) (k:Nat),0≤a1F p k l→∃ (i:Nat) (y:α),a1F p k l=((k+i:Nat):Int)∧l[i]?= some y∧p y=true
 |[],k,h=>by simp[a1F] at h
 |x::l,k,h=>by
  rw[a1F] at h ⊢
  cases hp:p x<;>rw[hp] at h<;>simp only[zaa,zab] at h ⊢
  ·obtain⟨i,y,h1,h2,h3⟩:=a5h p l (k+1) h
   exact⟨i+1,y,by rw[h1];congr 1;omega,by simpa using h2,h3⟩
  ·exact⟨0,x,rfl,rfl,hp⟩
theorem a8G {x:NodeD} {k:KeyD} {i:Nat} {f:FieldD} (h:a1F (fun f:FieldD=>a1t f.key k) 0 x.fields=(i:Int)) (hf:x.fields[i]?= some f):a73 x k=f.node:=by
  unfold a73
  rw[h,zbo (by omega:(0:Int)≤(i:Int)),zaa,Int.toNat_natCast,zbf,hf];rfl
theorem a8H {x:NodeD} {k:KeyD} (h:decide (0≤a1F (fun f:FieldD=>a1t f.key k) 0 x.fields)=false):a73 x k=bif decide (k.kind=0) then x.r0 else x.r1:=by
  unfold a73;rw[h];rfl
theorem a9m {x:NodeD} (hk:x.kind=13) (k:KeyD):a73 x k∈edgeL x:=by
 cases h:decide (0≤a1F (fun f:FieldD=>a1t f.key k) 0 x.fields) with
 |true=>
  obtain⟨i,f,h1,h2,_⟩:=a5h _ x.fields 0 (of_decide_eq_true h)
  rw[zbg] at h1
  rw[a8G h1 h2]
  unfold edgeL
  exact zb7 _ (zc2 _ (zdc (lP h2)))
 |false=>
  rw[a8H h]
  unfold edgeL
  rw[hk]
  cases decide (k.kind=0)<;>simp
theorem a24 {x:NodeD} {k:Int} (h:k∈x.kids):k∈edgeL x:=zb7 _ (zb7 _ h)
theorem b7G {l:List Int} (h:l≠[]):a5C l∈l:=by
  unfold a5C
  have h1:l.length-1<l.length:=by have:=zd0.2 h;omega
  rw[zbf,zav h1]
  exact zcd h1
theorem b1e {l:List Int} (h:l≠[]):l.getD 0 0∈l:=by
  cases l with
  |nil=>exact absurd rfl h
  |cons a l=>simp
theorem b2A {g g':Val→Int→Bool} {x:NodeD} {v:Val} (hk:a4Z x.kind=true∨x.kind=14→x.kids≠[])
  (hp:∀ p k,a2q p<a2q v→k∈edgeL x→g p k=g' p k) (hb:a4Z x.kind=true→∀ k∈x.kids,g v k=g' v k):memN g x v=memN g' x v:=by
 have hm:a4S g v.kids x.kids=a4S g' v.kids x.kids:=b1d fun p q k af=>hp p k (a8D q) (a24 af)
 unfold memN
 by_cases aa:x.kind=13
 ·rw[aa]
  simp only[Int.reduceEq,zad,zab,zac,zaa]
  congr 1
  unfold a9Y
  congr 1
  refine a2X fun p q=>?_
  obtain⟨a,b⟩:=p
  exact hp b _ (a8D (zdz q).2) (a9m aa a)
 by_cases ae:x.kind=14
 ·have ag:=hk (.inr ae)
  rw[ae]
  simp only[Int.reduceEq,zad,zab,zac,zaa]
  congr 1
  unfold b8O
  congr 1
  refine a2X fun e he=>?_
  unfold b6p
  rw[b1d (g:=g) (g':=g') fun p q k af=>hp p k (b3m he q) (a24 (zcp af)),hp e.2.2 _ (b3n he) (a24 (b7G ag))]
 by_cases ad:x.kind=16
 ·have:=hb (by rw[ad];rfl)
  rw[ad]
  simp only[Int.reduceEq,zad,zab,zac,zaa]
  exact a6Z this
 by_cases ab:x.kind=17
 ·have:=hb (by rw[ab];rfl)
  rw[ab]
  simp only[Int.reduceEq,zad,zab,zac,zaa]
  exact a2X this
 by_cases u:x.kind=18
 ·have h1:=hb (by rw[u];rfl)
  have h2:=hk (.inl (by rw[u];rfl))
  rw[u]
  simp only[Int.reduceEq,zad,zab,zac,zaa]
  rw[h1 _ (b1e h2)]
 simp only[aa,ae,ad,ab,u,zad,zab,hm]
def Hb (l:List NodeD):Nat→Nat→Prop
  |0,j=>bo l j=true→ks l j=[]
  |m+1,j=>bo l j=true→∀ k∈ks l j,Hb l m k
theorem Hb.up {l:List NodeD}:∀ {m j:Nat},Hb l m j→Hb l (m+1) j
  |0,j,h=>fun hb k hk=>by rw[h hb] at hk;cases hk
  |m+1,j,h=>fun hb k hk=>Hb.up (h hb k hk)
theorem Hb.le {l:List NodeD} {m j:Nat} (h:Hb l m j):∀ d,Hb l (m+d) j
  |0=>h
  |d+1=>(Hb.le h d).up
theorem b6q {l:List NodeD}:∀ L:List Nat,(∀ k∈L,∃ m,Hb l m k)→∃ M,∀ k∈L,Hb l M k
 |[],_=>⟨0,fun k hk=>by cases hk⟩
 |a::L,h=>by
  obtain⟨M,hM⟩:=b6q L fun k hk=>h k (zas _ hk)
  obtain⟨m,hm⟩:=h a (zbl ..)
  refine⟨M+m,fun k hk=>?_⟩
  rcases zal.1 hk with rfl|hk
  ·rw[zc5];exact hm.le M
  ·exact(hM k hk).le m
theorem c9G {l:List NodeD} {j:Nat} (h:Gr.Fin (bo l) (ks l) j):∃ m,Hb l m j:=by
 unfold Gr.Fin at h
 induction h with
 |intro j _ ih=>
  cases hb:bo l j with
  |false=>exact⟨0,fun h'=>by rw[hb] at h';cases h'⟩
  |true=>
   obtain⟨M,hM⟩:=b6q (l:=l) (ks l j) fun k hk=>ih k ⟨hb,hk⟩
   exact⟨M+1,fun _=>hM⟩
structure Wf (l:List NodeD) (R:Nat):Prop where
  edge:∀ x∈l,∀ e∈edgeL x,0≤e∧e<(l.length:Int)
  kids:∀ x∈l,a4Z x.kind=true∨x.kind=14→x.kids≠[]
  hb:∀ j,j<l.length→Hb l R j
  kind:∀ x∈l,a2P l x=true
theorem inN {l:List NodeD} {k:Int} (h:0≤k∧k<(l.length:Int)):a3z l k∈l:=by
  have h1:k.toNat<l.length:=by omega
  unfold a3z
  rw[zbf,zav h1]
  exact zcd h1
theorem d0O {l:List NodeD} {k:Int} (h:0≤k∧k<(l.length:Int)):l[k.toNat]?= some (a3z l k):=by
  have h1:k.toNat<l.length:=by omega
  unfold a3z
  rw[zbf,zav h1];rfl
theorem c3G {l:List NodeD} {k:Int} (h:0≤k∧k<(l.length:Int)):ks l k.toNat=(a3z l k).kids.map Int.toNat:=by
  unfold ks;rw[d0O h]
theorem c3H {l:List NodeD} {k:Int} (h:0≤k∧k<(l.length:Int)):bo l k.toNat=a4Z (a3z l k).kind:=by
  unfold bo;rw[d0O h]
theorem Wf.of {l:List NodeD} {r:Int} (h:wfP l r=0):∃ R,Wf l R:=by
 obtain⟨_,_,ha,hc⟩:=b2z h
 have q:=b2S ha
 have u:∀ i,i<l.length→∀ k∈ks l i,k<l.length:=by
  intro i hi k hk
  unfold ks at hk
  rw[zav hi] at hk
  simp only[za3] at hk
  obtain⟨a,aa,rfl⟩:=hk
  have:=q _ (zcd hi) a aa
  omega
 have hf:=(Gr.all_iff (bo:=bo l) (ks:=ks l) l.length u).1 hc
 obtain⟨R,hR⟩:=b6q (l:=l) (List.range l.length) fun k hk=>c9G (hf k (zc9.1 hk))
 refine⟨R,fun x hx e he=>?_,fun x hx hk=>?_,fun j hj=>hR j (zc9.2 hj),fun x hx=>za0.1 ha x hx⟩
 ·have:=za0.1 ha x hx
  simp only[a2P,zag] at this
  have:=za0.1 this.2.2 e he
  simp only[a8e,zbm,zbx,zah] at this
  omega
 ·have:=za0.1 ha x hx
  simp only[a2P,zag] at this
  have hv:=this.2.1
  intro h0
  have:x.kind=16∨x.kind=17∨x.kind=18∨x.kind=14:=by
   rcases hk with hk|hk
   ·simp only[a4Z,zb6,zan] at hk;omega
   ·omega
  rcases this with e|e|e|e<;>simp[a0G,e,h0] at hv
theorem b6r {l:List NodeD} {R:Nat} (hl:Wf l R):∀ (f f' b m:Nat) (v:Val) (k:Int),a2q v≤b→0≤k∧k<(l.length:Int)→Hb l m k.toNat→m≤R→
  b*(R+1)+m<f→b*(R+1)+m<f'→b3t l f v k=b3t l f' v k:=by
 intro f
 induction f with
 |zero=>intro f' b m v k _ _ _ _ h;omega
 |succ f ih=>
  intro f' b m v k hb hk hh hm h1 h2
  cases f' with
  |zero=>omega
  |succ f'=>
   rw[b3t,b3t]
   have u:=inN hk
   have ad:=b1C v
   obtain⟨b',rfl⟩:∃ b',b=b'+1:=⟨b-1,by omega⟩
   have ab:(b'+1)*(R+1)=b'*(R+1)+(R+1):=Nat.succ_mul _ _
   refine b2A (hl.kids _ u) (fun p k' hp q=>?_) (fun aa k' q=>?_)
   ·have he:=hl.edge _ u k' q
    exact ih f' b' R p k' (by omega) he (hl.hb _ (by omega)) (zax _) (by omega) (by omega)
   ·have he:=hl.edge _ u k' (a24 q)
    cases m with
    |zero=>
     have:=hh (by rw[c3H hk];exact aa)
     rw[c3G hk] at this
     rw[List.map_eq_nil_iff] at this
     rw[this] at q;cases q
    |succ m=>
     have:=hh (by rw[c3H hk];exact aa) k'.toNat (by rw[c3G hk];exact zdc q)
     exact ih f' (b'+1) m v k' hb he this (by omega) (by omega) (by omega)
noncomputable def a8I (l:List NodeD) (v:Val) (k:Int):Bool:=by
  classical exact decide (∃ F,∀ f,F≤f→b3t l f v k=true)
theorem b6s {l:List NodeD} {R:Nat} (hl:Wf l R) {v:Val} {k:Int} (hk:0≤k∧k<(l.length:Int)) {f:Nat} (hf:a2q v*(R+1)+R<f):b3t l f v k=a8I l v k:=by
 have hs:∀ f',a2q v*(R+1)+R<f'→b3t l f v k=b3t l f' v k:=fun f' h'=>b6r hl f f' (a2q v) R v k (zax _) hk (hl.hb _ (by omega)) (zax _) hf h'
 classical
 unfold a8I
 cases h:b3t l f v k with
 |true=>exact(zbo ⟨f,fun f' h'=>by rw[← hs f' (by omega)];exact h⟩).symm
 |false=>
  refine(zc6 ?_).symm
  rintro⟨F,hF⟩
  have:=hF (F+f) (by omega)
  rw[← hs (F+f) (by omega),h] at this
  cases this
theorem a5q {l:List NodeD} {R:Nat} (hl:Wf l R) {v:Val} {k:Int} (hk:0≤k∧k<(l.length:Int)):a8I l v k=memN (a8I l) (a3z l k) v:=by
 obtain⟨f,hf⟩:∃ f,f=a2q v*(R+1)+R+1:=⟨_,rfl⟩
 have q:=inN hk
 rw[← b6s hl hk (f:=f+1) (by omega),b3t]
 refine b2A (hl.kids _ q) (fun p k' hp u=>?_) (fun aa k' u=>?_)
 ·have:a2q p*(R+1)≤a2q v*(R+1):=zc7 _ (by omega)
  exact b6s hl (hl.edge _ q k' u) (by omega)
 ·exact b6s hl (hl.edge _ q k' (a24 u)) (by omega)
def b4M (l:List NodeD) (r:Int) (g:Val→Int→Bool) (v:Val) (k:Int):Prop:=PC zP 99 [Vt v,Tt l r,I .i64 k] (Bo (g v k))
theorem b4M.f {l:List NodeD} {r:Int} {g:Val→Int→Bool} {v:Val} {k:Int} (h:b4M l r g v k):PC zP 99 [.st (a0c v), .st [.sl 8 (l.map a0e), .int .i64 r],I .i64 k] (Bo (g v k)):=h
theorem b4M.e {l:List NodeD} {r:Int} {g:Val→Int→Bool} {v:Val} {k:Int} (h:b4M l r g v k):PC zP 99 [.st [.int .i64 v.kind, .int .i64 v.num, .str v.text, .sl 7 (v.kids.map a0c), .sl 2 (v.keys.map a0i), .sl 9 (v.ents.map a0n), .sl 1 (v.labels.map Sx.encStr)], .st [.sl 8 (l.map a0e), .int .i64 r],I .i64 k] (Bo (g v k)):=by
  rw[← a0a];exact h
theorem b4N (l:List NodeD) (r:Int) (g:Val→Int→Bool) (vs:List Val) (ks:List Int) (H:∀ v∈vs,∀ k∈ks,b4M l r g v k):
  PC zP 158 [.one (.dat (.sl 7 (vs.map a0c))),Tt l r, .one (.dat (.sl 1 (ks.map a0h)))] (Bo (a4S g vs ks)):=by
 refine PCB.ob Tryz.func158 Tryz.ntmps158 Tryz.results158 ?_
 unfold a4S
 cases hl:decide ((vs.length:Int)=(ks.length:Int))
 ·
  repeat'(first|simp only[go_sem,hl,lB]<;>refine nf ?_|refine stp ?_;intro K hK|apply hK;clear hK K|refine stn ?_|clear hK K)
  all_goals exact lf
 have af:vs.length=ks.length:=by have:=of_decide_eq_true hl;omega
 repeat'(first|simp only[go_sem,hl,lB]<;>refine nf ?_|refine stp ?_;intro K hK|apply hK;clear hK K|refine stn ?_|fail)
 refine AWP.len 0 rfl fun u=>?_
 (try rw[lB] at u)
 refine xC (S:=Unit) (vs) a0c (fun k s=>(7,I .i64 (k:Nat))::[]) (fun k s=>[]) [0,2,4] [4] (fun k s=>((vs.zip ks).all fun p=>g p.1 p.2)=(((vs.zip ks).drop k).all fun p=>g p.1 p.2)) (()) (by refine sts ?_;exact Gh.tt []) ?_ ?_ ?_
 ·rfl
 ·intro k s x ad hx aa hb q
  refine sts ?_
  have ag:k<vs.length:=(zak.1 hx).1
  have ae:k<ks.length:=by omega
  obtain⟨y,hy⟩:∃ y,ks[k]?= some y:=⟨ks[k],zav ae⟩
  have ab:=a0y a0h hy
  rw[b22 hx hy,List.all_cons] at q
  have hM:=(H x (lP hx) y (lP hy)).f
  cases hz:g x y<;>simp only[hz,zae,zai] at q
  ·
   repeat'(first|simp only[go_sem,lB,hb,hz]<;>refine nf ?_|refine stp ?_;intro K hK|apply hK;clear hK K|refine stn ?_|(with_reducible first|refine⟨by omega,a0c x,aa,?_⟩|refine⟨by omega,a0h y,ab,?_⟩|refine⟨_,hM,?_⟩)|(refine a0J ?_;intro K hK)|clear hK K)
   all_goals(first|exact lf|(refine a0m ?_;simp only[q,zb,zaa,zab,zac,zad]<;>rfl))
  ·
   repeat'(first|simp only[go_sem,lB,hb,hz]<;>refine nf ?_|refine stp ?_;intro K hK|apply hK;clear hK K|refine stn ?_|(with_reducible first|refine⟨by omega,a0c x,aa,?_⟩|refine⟨by omega,a0h y,ab,?_⟩|refine⟨_,hM,?_⟩)|(refine a0J ?_;intro K hK)|clear hK K)
   all_goals(rw[a0b ad u])
   all_goals(refine⟨(),?_,Gh.tt []⟩)
   all_goals exact q
 ·intro s hb q
  refine sts ?_
  rw[b5Y] at q
  repeat'(first|simp only[go_sem,lB,hb]<;>refine nf ?_|refine stp ?_;intro K hK|apply hK;clear hK K|refine stn ?_|clear hK K)
  all_goals(first|exact lf|(refine a0m ?_;simp only[q,zb,zaa,zab,zac,zad]<;>rfl))
theorem c3I (v:Val) (k:KeyD):PC zP 213 [Vt v, .st (a0i k)] (I .i64 (a1F (fun y:KeyD=>a1t y k) 0 v.keys)):=by
 refine PCB.ob Tryz.func213 Tryz.ntmps213 Tryz.results213 ?_
 repeat'(first|simp only[go_sem,a0a v,lB]<;>refine nf ?_|refine stp ?_;intro K hK|apply hK;clear hK K|refine stn ?_|fail)
 refine xE 2 4 rfl rfl fun u=>?_
 (try rw[lB] at u)
 refine xC (S:=Unit) (v.keys) a0i (fun k s=>(5,I .i64 (k:Nat))::[]) (fun k s=>[]) [2,3] [2,3] (fun i s=>a1F (fun y:KeyD=>a1t y k) 0 v.keys=a1F (fun y:KeyD=>a1t y k) i (v.keys.drop i)) (()) (by simp only[go_sem,a0a v];exact Gh.tt []) ?_ ?_ ?_
 ·rfl
 ·intro i s x ab hx aa hb q
  refine sts ?_
  rw[a5P _ _ _ _ hx] at q
  cases hz:a1t x k<;>simp only[hz,zaa,zab] at q
  ·
   repeat'(first|simp only[go_sem,a0a v,lB,hb,hz]<;>refine nf ?_|refine stp ?_;intro K hK|apply hK;clear hK K|refine stn ?_|(with_reducible refine⟨by omega,a0i x,aa,?_⟩)|(refine a0J ?_;intro K hK)|clear hK K)
   all_goals(rw[a0b ab u])
   all_goals(refine⟨(),?_,Gh.tt []⟩)
   all_goals exact q
  ·
   repeat'(first|simp only[go_sem,a0a v,lB,hb,hz]<;>refine nf ?_|refine stp ?_;intro K hK|apply hK;clear hK K|refine stn ?_|(with_reducible refine⟨by omega,a0i x,aa,?_⟩)|(refine a0J ?_;intro K hK)|clear hK K)
   all_goals(first|exact lf|(refine a0m ?_;simp only[q,zb,zaa,zab,zac,zad]<;>rfl))
 ·intro s hb q
  refine sts ?_
  rw[lL] at q
  repeat'(first|simp only[go_sem,a0a v,lB,hb]<;>refine nf ?_|refine stp ?_;intro K hK|apply hK;clear hK K|refine stn ?_|clear hK K)
  all_goals(refine a0m ?_;rw[q];rfl)
theorem c3J (v:Val) (k:KeyD):PC zP 213 [.st [.int .i64 v.kind, .int .i64 v.num, .str v.text, .sl 7 (v.kids.map a0c), .sl 2 (v.keys.map a0i), .sl 9 (v.ents.map a0n), .sl 1 (v.labels.map Sx.encStr)], .st [.int .i64 k.kind, .str k.text]] (I .i64 (a1F (fun y:KeyD=>a1t y k) 0 v.keys)):=by
  rw[← a0a];exact c3I v k
theorem b8P (x:NodeD) (k:KeyD):PC zP 214 [.st [.int .i64 x.kind, .int .i64 x.lo, .int .i64 x.hi, .str x.text, .sl 1 (x.kids.map a0h), .sl 4 (x.fields.map a0o), .int .i64 x.r0, .int .i64 x.r1], .st (a0i k)] (I .i64 (a1F (fun f:FieldD=>a1t f.key k) 0 x.fields)):=by
 refine PCB.ob Tryz.func214 Tryz.ntmps214 Tryz.results214 ?_
 repeat'(first|simp only[go_sem,lB]<;>refine nf ?_|refine stp ?_;intro K hK|apply hK;clear hK K|refine stn ?_|fail)
 refine xE 2 5 rfl rfl fun u=>?_
 (try rw[lB] at u)
 refine xC (S:=Unit) (x.fields) a0o (fun k s=>(5,I .i64 (k:Nat))::[]) (fun k s=>[]) [2,3] [2,3] (fun i s=>a1F (fun f:FieldD=>a1t f.key k) 0 x.fields=a1F (fun f:FieldD=>a1t f.key k) i (x.fields.drop i)) (()) (by refine sts ?_;exact Gh.tt []) ?_ ?_ ?_
 ·rfl
 ·intro i s f ad hx ab hb q
  refine sts ?_
  rw[a5P _ _ _ _ hx] at q
  have aa:(decide (f.key.kind=k.kind)&&decide (f.key.text=k.text))=a1t f.key k:=by rw[a1t,zaw]
  cases hz:a1t f.key k<;>simp only[hz,zaa,zab] at q<;>rw[hz] at aa
  ·
   repeat'(first|simp only[go_sem,lB,hb,aa,encField_lit,a0i]<;>refine nf ?_|refine stp ?_;intro K hK|apply hK;clear hK K|refine stn ?_|(with_reducible refine⟨by omega,a0o f,ab,?_⟩)|(refine a0J ?_;intro K hK)|clear hK K)
   all_goals(rw[a0b ad u])
   all_goals(refine⟨(),?_,Gh.tt []⟩)
   all_goals exact q
  ·
   repeat'(first|simp only[go_sem,lB,hb,aa,encField_lit,a0i]<;>refine nf ?_|refine stp ?_;intro K hK|apply hK;clear hK K|refine stn ?_|(with_reducible refine⟨by omega,a0o f,ab,?_⟩)|(refine a0J ?_;intro K hK)|clear hK K)
   all_goals(first|exact lf|(refine a0m ?_;simp only[q,zb,zaa,zab,zac,zad]<;>rfl))
 ·intro s hb q
  refine sts ?_
  rw[lL] at q
  repeat'(first|simp only[go_sem,lB,hb]<;>refine nf ?_|refine stp ?_;intro K hK|apply hK;clear hK K|refine stn ?_|clear hK K)
  all_goals(refine a0m ?_;rw[q];rfl)
theorem c0P {α:Type} (p:α→Bool) (l:List α):decide (a1F p 0 l<0)=!l.any p:=by
  have:=a69 p l 0
  cases h:l.any p with
  |true=>rw[h] at this;simp only[iff_true] at this;rw[zc6 (by omega)];rfl
  |false=>rw[h] at this;simp only[zbs,iff_false] at this;rw[zbo (by omega)];rfl
theorem b8Q (l:List NodeD) (r:Int) (g:Val→Int→Bool) (x:NodeD) (v:Val) (al:x.kind=13) (av:v.keys.length=v.kids.length) (ap:∀ k∈v.keys,k.kind=0∨k.kind=1)
  (H:∀ p∈v.kids,∀ k∈edgeL x,b4M l r g p k):
  PC zP 159 [Vt v,Tt l r, .st [.int .i64 x.kind, .int .i64 x.lo, .int .i64 x.hi, .str x.text, .sl 1 (x.kids.map a0h), .sl 4 (x.fields.map a0o), .int .i64 x.r0, .int .i64 x.r1]] (Bo (a9Y g x v)):=by
 refine PCB.ob Tryz.func159 Tryz.ntmps159 Tryz.results159 ?_
 repeat'(first|simp only[go_sem,a0a v,lB]<;>refine nf ?_|refine stp ?_;intro K hK|apply hK;clear hK K|refine stn ?_|fail)
 refine xE 5 5 rfl rfl fun ab=>?_
 (try rw[lB] at ab)
 refine xC (S:=Unit) (x.fields) a0o (fun k s=>(7,I .i64 (k:Nat))::[]) (fun k s=>[]) [3,4,5] [3,4,5] (fun i s=>(x.fields.all fun f=>f.opt||v.keys.any fun k=>a1t k f.key)=((x.fields.drop i).all fun f=>f.opt||v.keys.any fun k=>a1t k f.key)) (()) (by simp only[go_sem,a0a v];exact Gh.tt []) ?_ ?_ ?_
 ·rfl
 ·intro i s f af hx aa hb q
  refine sts ?_
  rw[a3b hx] at q
  have am:=c3J v f.key
  have ah:=c0P (fun k:KeyD=>a1t k f.key) v.keys
  cases ho:f.opt
  ·cases hz:(v.keys.any fun k=>a1t k f.key)<;>rw[hz] at ah<;>simp only[ho,hz,zap,zaj,zaq,zae,zai,zat,zar] at q ah
   ·
    repeat'(first|simp only[go_sem,a0a v,lB,hb,ho,ah,encField_lit]<;>refine nf ?_|refine stp ?_;intro K hK|apply hK;clear hK K|refine stn ?_|(with_reducible refine⟨by omega,a0o f,aa,?_⟩)|(refine⟨_,am,?_⟩)|(refine a0J ?_;intro K hK)|clear hK K)
    all_goals(first|exact fun _ h=>absurd h zaf|(refine a0m ?_;rw[a9Y,q];rfl))
   ·
    repeat'(first|simp only[go_sem,a0a v,lB,hb,ho,ah,encField_lit]<;>refine nf ?_|refine stp ?_;intro K hK|apply hK;clear hK K|refine stn ?_|(with_reducible refine⟨by omega,a0o f,aa,?_⟩)|(refine⟨_,am,?_⟩)|(refine a0J ?_;intro K hK)|clear hK K)
    all_goals(rw[a0b af ab])
    all_goals(refine⟨(),?_,Gh.tt []⟩)
    all_goals exact q
  ·simp only[ho,zam,zae] at q
   repeat'(first|simp only[go_sem,a0a v,lB,hb,ho,encField_lit]<;>refine nf ?_|refine stp ?_;intro K hK|apply hK;clear hK K|refine stn ?_|(with_reducible refine⟨by omega,a0o f,aa,?_⟩)|(refine a0J ?_;intro K hK)|clear hK K)
   all_goals(rw[a0b af ab])
   all_goals(refine⟨(),?_,Gh.tt []⟩)
   all_goals exact q
 ·intro s0 an aj
  refine sts ?_
  rw[a4m] at aj
  have hM:a9Y g x v=(v.keys.zip v.kids).all fun p=>g p.2 (a73 x p.1):=by rw[a9Y,aj];rfl
  repeat'(first|simp only[go_sem,a0a v,lB,an]<;>refine nf ?_|refine stp ?_;intro K hK|apply hK;clear hK K|refine stn ?_|clear hK K)
  refine xE 3 4 rfl rfl fun u=>?_
  (try rw[lB] at u)
  refine xC (S:=Unit) (v.keys) a0i (fun k s=>(8,I .i64 (k:Nat))::[]) (fun k s=>[]) [3,4,5] [3,4,5] (fun i s=>a9Y g x v=(((v.keys.zip v.kids).drop i).all fun p=>g p.2 (a73 x p.1))) (()) (by simp only[go_sem,a0a v];exact Gh.tt []) ?_ ?_ ?_
  ·exact hM
  ·intro i s k af hx aa hb q
   refine sts ?_
   have au:i<v.keys.length:=(zak.1 hx).1
   obtain⟨p,hp⟩:∃ p,v.kids[i]?= some p:=⟨v.kids[i]'(by omega),zav (by omega)⟩
   have ak:=a0y a0c hp
   rw[b22 hx hp,List.all_cons] at q
   have ao:=lP hp
   have hF:=b8P x k
   have ae:=(H p ao (a73 x k) (a9m al k)).f
   have ad:=ap k (lP hx)
   cases hd:decide (0≤a1F (fun f:FieldD=>a1t f.key k) 0 x.fields) with
   |true=>
    obtain⟨j,f,h1,h2,_⟩:=a5h _ x.fields 0 (of_decide_eq_true hd)
    rw[zbg] at h1
    rw[h1] at hF hd
    have aq:=a0y a0o h2
    have ai:=a8G h1 h2
    rw[ai] at ae q
    obtain⟨kd,tx⟩:=k
    simp only at ad
    rcases ad with rfl|rfl
    all_goals(cases hz:g p f.node<;>simp only[hz,zae,zai] at q)
    all_goals
     repeat'(first|simp only[go_sem,a0a v,lB,hb,hd,hz,encField_lit,a0i]<;>refine nf ?_|refine stp ?_;intro K hK|apply hK;clear hK K|refine stn ?_|(with_reducible first|refine⟨by omega,a0i _,aa,?_⟩|refine⟨by omega,a0o f,aq,?_⟩|refine⟨by omega,a0c p,ak,?_⟩|refine⟨_,ae,?_⟩)|(refine⟨_,hF,?_⟩)|(refine a0J ?_;intro K hK)|clear hK K)
    any_goals (first|exact fun _ h=>absurd h zaf|(refine a0m ?_;rw[q];done))
    all_goals(rw[a0b af u])
    all_goals(refine⟨(),?_,Gh.tt []⟩)
    all_goals exact q
   |false=>
    have ai:=a8H hd
    obtain⟨kd,tx⟩:=k
    simp only at ad
    rcases ad with rfl|rfl
    ·rw[show a73 x ⟨0,tx⟩=x.r0 from ai] at ae q
     cases hz:g p x.r0<;>simp only[hz,zae,zai] at q
     all_goals
      repeat'(first|simp only[go_sem,a0a v,lB,hb,hd,hz,encField_lit,a0i]<;>refine nf ?_|refine stp ?_;intro K hK|apply hK;clear hK K|refine stn ?_|(with_reducible first|refine⟨by omega,a0i _,aa,?_⟩|refine⟨by omega,a0c p,ak,?_⟩|refine⟨_,ae,?_⟩)|(refine⟨_,hF,?_⟩)|(refine a0J ?_;intro K hK)|clear hK K)
     any_goals (first|exact fun _ h=>absurd h zaf|(refine a0m ?_;rw[q];done))
     all_goals(rw[a0b af u])
     all_goals(refine⟨(),?_,Gh.tt []⟩)
     all_goals exact q
    ·rw[show a73 x ⟨1,tx⟩=x.r1 from ai] at ae q
     cases hz:g p x.r1<;>simp only[hz,zae,zai] at q
     all_goals
      repeat'(first|simp only[go_sem,a0a v,lB,hb,hd,hz,encField_lit,a0i]<;>refine nf ?_|refine stp ?_;intro K hK|apply hK;clear hK K|refine stn ?_|(with_reducible first|refine⟨by omega,a0i _,aa,?_⟩|refine⟨by omega,a0c p,ak,?_⟩|refine⟨_,ae,?_⟩)|(refine⟨_,hF,?_⟩)|(refine a0J ?_;intro K hK)|clear hK K)
     any_goals (first|exact fun _ h=>absurd h zaf|(refine a0m ?_;rw[q];done))
     all_goals(rw[a0b af u])
     all_goals(refine⟨(),?_,Gh.tt []⟩)
     all_goals exact q
  ·intro s1 ar ag
   refine sts ?_
   rw[b5Y] at ag
   repeat'(first|simp only[go_sem,a0a v,lB,ar]<;>refine nf ?_|refine stp ?_;intro K hK|apply hK;clear hK K|refine stn ?_|clear hK K)
   all_goals(first|exact fun _ h=>absurd h zaf|(refine a0m ?_;first|(rw[ag];done)|(rw[ag];rfl)))
theorem b6t (l:List NodeD) (r:Int) (g:Val→Int→Bool) (x:NodeD) (v:Val) (al:1≤x.kids.length) (am:x.kids.length≤1000000)
  (H:∀ e∈v.ents,∀ p∈e.1,∀ k∈x.kids,b4M l r g p k) (HR:∀ e∈v.ents,e.2.1=false→∀ k∈x.kids,b4M l r g e.2.2 k):
  PC zP 160 [Vt v,Tt l r, .st [.int .i64 x.kind, .int .i64 x.lo, .int .i64 x.hi, .str x.text, .sl 1 (x.kids.map a0h), .sl 4 (x.fields.map a0o), .int .i64 x.r0, .int .i64 x.r1]] (Bo (b8O g x v)):=by
 obtain⟨a,ha⟩:∃ a:Nat,a=x.kids.length-1:=⟨_,rfl⟩
 have ab:IntKind.i64.wrap ((x.kids.length:Int)-1)=(a:Int):=by rw[w64 (by omega)];omega
 have ag:(x.kids.length:Int)-1=(a:Int):=by omega
 have hy:x.kids[a]?= some (a5C x.kids):=by
  unfold a5C
  rw[← ha,zbf,zav (by omega)];rfl
 have ai:=a0y a0h hy
 have ah:=lP hy
 unfold b8O
 rw[ag]
 refine PCB.ob Tryz.func160 Tryz.ntmps160 Tryz.results160 ?_
 cases hn:decide (v.num=(a:Int))
 ·
  repeat'(first|simp only[go_sem,a0a v,lB,ab,hn]<;>refine nf ?_|refine stp ?_;intro K hK|apply hK;clear hK K|refine stn ?_|clear hK K)
  all_goals(first|exact lf|(refine a0m ?_;simp only[hn,zb,zaa,zab,zac,zad]<;>rfl))
 repeat'(first|simp only[go_sem,a0a v,lB,ab,hn]<;>refine nf ?_|refine stp ?_;intro K hK|apply hK;clear hK K|refine stn ?_|fail)
 refine xE 3 5 rfl rfl fun u=>?_
 (try rw[lB] at u)
 refine xC (S:=Unit) (v.ents) a0n (fun k s=>(8,I .i64 (k:Nat))::[]) (fun k s=>[]) [3,4,5,7] [3,4,5] (fun i s=>v.ents.all (b6p g x.kids)=(v.ents.drop i).all (b6p g x.kids)) (()) (by simp only[go_sem,a0a v];exact Gh.tt []) ?_ ?_ ?_
 ·rfl
 ·intro i s e af hx ad hb q
  refine sts ?_
  rw[a3b hx] at q
  have ae:=lP hx
  have hM:=b4N l r g e.1 (x.kids.take a) fun p hp k hk=>H e ae p hp k (zcp hk)
  rw[← a33] at hM
  have hR:=HR e ae
  have hE:b6p g x.kids e=(!a4S g e.1 (x.kids.take a)||(!e.2.1&&g e.2.2 (a5C x.kids))):=by rw[b6p,← ha]
  cases hz:a4S g e.1 (x.kids.take a)
  ·rw[hE,hz] at q
   simp only[zar,zam,zae] at q
   repeat'(first|simp only[go_sem,a0a v,a0A,lB,hb,ab,hz]<;>refine nf ?_|refine stp ?_;intro K hK|apply hK;clear hK K|refine stn ?_|(with_reducible first|refine⟨by omega,a0n e,ad,?_⟩|refine⟨(by omega:_≤_),(by omega:_≤_),?_⟩|refine⟨_,hM,?_⟩)|(refine a0J ?_;intro K hK)|clear hK K)
   all_goals(rw[a0b af u])
   all_goals(refine⟨(),?_,Gh.tt []⟩)
   all_goals exact q
  ·cases hf:e.2.1
   ·have aj:=(hR hf _ ah).e
    cases hg:g e.2.2 (a5C x.kids)
    all_goals(rw[hE,hz,hf,hg] at q)
    all_goals(simp only[zat,zar,zaq,zae,zai] at q)
    all_goals
     repeat'(first|simp only[go_sem,a0a,a0A,lB,hb,ab,hz,hf,hg]<;>refine nf ?_|refine stp ?_;intro K hK|apply hK;clear hK K|refine stn ?_|(with_reducible first|refine⟨by omega,a0n e,ad,?_⟩|refine⟨(by omega:_≤_),(by omega:_≤_),?_⟩|refine⟨by omega,a0h (a5C x.kids),ai,?_⟩|refine⟨_,hM,?_⟩|refine⟨_,aj,?_⟩)|(refine a0J ?_;intro K hK)|clear hK K)
    any_goals (first|exact fun _ h=>absurd h zaf|(refine a0m ?_;rw[q];done))
    all_goals(rw[a0b af u])
    all_goals(refine⟨(),?_,Gh.tt []⟩)
    all_goals exact q
   ·rw[hE,hz,hf] at q
    simp only[zat,zar,zaq,zae,zai] at q
    repeat'(first|simp only[go_sem,a0a v,a0A,lB,hb,ab,hz,hf]<;>refine nf ?_|refine stp ?_;intro K hK|apply hK;clear hK K|refine stn ?_|(with_reducible first|refine⟨by omega,a0n e,ad,?_⟩|refine⟨(by omega:_≤_),(by omega:_≤_),?_⟩|refine⟨_,hM,?_⟩)|(refine a0J ?_;intro K hK)|clear hK K)
    all_goals(first|exact fun _ h=>absurd h zaf|(refine a0m ?_;first|(rw[q];done)|(rw[q];rfl)))
 ·intro s1 ak aa
  refine sts ?_
  rw[a4m] at aa
  repeat'(first|simp only[go_sem,a0a v,lB,ak]<;>refine nf ?_|refine stp ?_;intro K hK|apply hK;clear hK K|refine stn ?_|clear hK K)
  all_goals(first|exact fun _ h=>absurd h zaf|(refine a0m ?_;first|(rw[aa];done)|(rw[aa];rfl)))
theorem c0Q (l:List NodeD) (r:Int) (g:Val→Int→Bool) (v:Val) (k:Nat) (x:NodeD) (hx:l[k]?= some x) (hk:x.kind=1):PC zP 99 [Vt v,Tt l r,I .i64 (k:Int)] (Bo (memN g x v)):=by
  have q:=a0y a0e hx
  unfold memN
  simp only[hk,Int.reduceEq,zac,zad,zaa,zab]
  refine PCB.ob Tryz.func99 Tryz.ntmps99 Tryz.results99 ?_
  repeat'(first|simp only[go_sem,a0a v,lB,a0d,hk]<;>refine nf ?_|refine stp ?_;intro K hK|apply hK;clear hK K|refine stn ?_|(with_reducible refine⟨by omega,a0e x,q,?_⟩)|fail)
  all_goals(first|exact fun _ h=>absurd h zaf|(refine a0m ?_;first|rfl|(simp only[zaw,zae,zai,zay]<;>rfl)))
theorem c0R (l:List NodeD) (r:Int) (g:Val→Int→Bool) (v:Val) (k:Nat) (x:NodeD) (hx:l[k]?= some x) (hk:x.kind=2):PC zP 99 [Vt v,Tt l r,I .i64 (k:Int)] (Bo (memN g x v)):=by
  have q:=a0y a0e hx
  unfold memN
  simp only[hk,Int.reduceEq,zac,zad,zaa,zab]
  refine PCB.ob Tryz.func99 Tryz.ntmps99 Tryz.results99 ?_
  repeat'(first|simp only[go_sem,a0a v,lB,a0d,hk]<;>refine nf ?_|refine stp ?_;intro K hK|apply hK;clear hK K|refine stn ?_|(with_reducible refine⟨by omega,a0e x,q,?_⟩)|clear hK K)
  all_goals(first|exact fun _ h=>absurd h zaf|(refine a0m ?_;first|rfl|(simp only[zaw,zae,zai,zay]<;>rfl)))
theorem c0S (l:List NodeD) (r:Int) (g:Val→Int→Bool) (v:Val) (k:Nat) (x:NodeD) (hx:l[k]?= some x) (hk:x.kind=3):PC zP 99 [Vt v,Tt l r,I .i64 (k:Int)] (Bo (memN g x v)):=by
 have q:=a0y a0e hx
 unfold memN
 simp only[hk,Int.reduceEq,zac,zad,zaa,zab]
 refine PCB.ob Tryz.func99 Tryz.ntmps99 Tryz.results99 ?_
 cases hv:decide (v.kind=1)<;>cases h1:decide (x.lo≤v.num)<;>cases h2:decide (v.num≤x.hi)
 all_goals
  repeat'(first|simp only[go_sem,a0a v,lB,a0d,hk,hv,h1,h2]<;>refine nf ?_|refine stp ?_;intro K hK|apply hK;clear hK K|refine stn ?_|(with_reducible refine⟨by omega,a0e x,q,?_⟩)|clear hK K)
 all_goals(first|exact fun _ h=>absurd h zaf|(refine a0m ?_;first|rfl|(simp only[hv,h1,h2,zaw,zae,zai,zay]<;>rfl)))
theorem c0T (l:List NodeD) (r:Int) (g:Val→Int→Bool) (v:Val) (k:Nat) (x:NodeD) (hx:l[k]?= some x) (hk:x.kind=4):PC zP 99 [Vt v,Tt l r,I .i64 (k:Int)] (Bo (memN g x v)):=by
 have q:=a0y a0e hx
 unfold memN
 simp only[hk,Int.reduceEq,zac,zad,zaa,zab]
 refine PCB.ob Tryz.func99 Tryz.ntmps99 Tryz.results99 ?_
 cases hv:decide (v.kind=2)<;>cases h1:decide (v.text=x.text)
 all_goals
  repeat'(first|simp only[go_sem,a0a v,lB,a0d,hk,hv,h1]<;>refine nf ?_|refine stp ?_;intro K hK|apply hK;clear hK K|refine stn ?_|(with_reducible refine⟨by omega,a0e x,q,?_⟩)|clear hK K)
 all_goals(first|exact fun _ h=>absurd h zaf|(refine a0m ?_;first|rfl|(simp only[hv,h1,zaw,zae,zai,zay]<;>rfl)))
theorem c0U (l:List NodeD) (r:Int) (g:Val→Int→Bool) (v:Val) (k:Nat) (x:NodeD) (hx:l[k]?= some x) (hk:x.kind=6):PC zP 99 [Vt v,Tt l r,I .i64 (k:Int)] (Bo (memN g x v)):=by
 have q:=a0y a0e hx
 unfold memN
 simp only[hk,Int.reduceEq,zac,zad,zaa,zab]
 refine PCB.ob Tryz.func99 Tryz.ntmps99 Tryz.results99 ?_
 cases hv:decide (v.kind=3)<;>cases h1:decide (v.text=x.text)
 all_goals
  repeat'(first|simp only[go_sem,a0a v,lB,a0d,hk,hv,h1]<;>refine nf ?_|refine stp ?_;intro K hK|apply hK;clear hK K|refine stn ?_|(with_reducible refine⟨by omega,a0e x,q,?_⟩)|clear hK K)
 all_goals(first|exact fun _ h=>absurd h zaf|(refine a0m ?_;first|rfl|(simp only[hv,h1,zaw,zae,zai,zay]<;>rfl)))
theorem c0V (l:List NodeD) (r:Int) (g:Val→Int→Bool) (v:Val) (k:Nat) (x:NodeD) (hx:l[k]?= some x) (hk:x.kind=5):PC zP 99 [Vt v,Tt l r,I .i64 (k:Int)] (Bo (memN g x v)):=by
  have q:=a0y a0e hx
  unfold memN
  simp only[hk,Int.reduceEq,zac,zad,zaa,zab]
  refine PCB.ob Tryz.func99 Tryz.ntmps99 Tryz.results99 ?_
  repeat'(first|simp only[go_sem,a0a v,lB,a0d,hk]<;>refine nf ?_|refine stp ?_;intro K hK|apply hK;clear hK K|refine stn ?_|(with_reducible refine⟨by omega,a0e x,q,?_⟩)|clear hK K)
  all_goals(first|exact fun _ h=>absurd h zaf|(refine a0m ?_;first|rfl|(simp only[zaw,zae,zai,zay]<;>rfl)))
theorem c0W (l:List NodeD) (r:Int) (g:Val→Int→Bool) (v:Val) (k:Nat) (x:NodeD) (hx:l[k]?= some x) (hk:x.kind=7):PC zP 99 [Vt v,Tt l r,I .i64 (k:Int)] (Bo (memN g x v)):=by
  have q:=a0y a0e hx
  unfold memN
  simp only[hk,Int.reduceEq,zac,zad,zaa,zab]
  refine PCB.ob Tryz.func99 Tryz.ntmps99 Tryz.results99 ?_
  repeat'(first|simp only[go_sem,a0a v,lB,a0d,hk]<;>refine nf ?_|refine stp ?_;intro K hK|apply hK;clear hK K|refine stn ?_|(with_reducible refine⟨by omega,a0e x,q,?_⟩)|clear hK K)
  all_goals(first|exact fun _ h=>absurd h zaf|(refine a0m ?_;first|rfl|(simp only[zaw,zae,zai,zay]<;>rfl)))
theorem c0X (l:List NodeD) (r:Int) (g:Val→Int→Bool) (v:Val) (k:Nat) (x:NodeD) (hx:l[k]?= some x) (hk:x.kind=8):PC zP 99 [Vt v,Tt l r,I .i64 (k:Int)] (Bo (memN g x v)):=by
  have q:=a0y a0e hx
  unfold memN
  simp only[hk,Int.reduceEq,zac,zad,zaa,zab]
  refine PCB.ob Tryz.func99 Tryz.ntmps99 Tryz.results99 ?_
  repeat'(first|simp only[go_sem,a0a v,lB,a0d,hk]<;>refine nf ?_|refine stp ?_;intro K hK|apply hK;clear hK K|refine stn ?_|(with_reducible refine⟨by omega,a0e x,q,?_⟩)|clear hK K)
  all_goals(first|exact fun _ h=>absurd h zaf|(refine a0m ?_;first|rfl|(simp only[zaw,zae,zai,zay]<;>rfl)))
theorem c0Y (l:List NodeD) (r:Int) (g:Val→Int→Bool) (v:Val) (k:Nat) (x:NodeD) (hx:l[k]?= some x) (hk:x.kind=9):PC zP 99 [Vt v,Tt l r,I .i64 (k:Int)] (Bo (memN g x v)):=by
  have q:=a0y a0e hx
  unfold memN
  simp only[hk,Int.reduceEq,zac,zad,zaa,zab]
  refine PCB.ob Tryz.func99 Tryz.ntmps99 Tryz.results99 ?_
  repeat'(first|simp only[go_sem,a0a v,lB,a0d,hk]<;>refine nf ?_|refine stp ?_;intro K hK|apply hK;clear hK K|refine stn ?_|(with_reducible refine⟨by omega,a0e x,q,?_⟩)|clear hK K)
  all_goals(first|exact fun _ h=>absurd h zaf|(refine a0m ?_;first|rfl|(simp only[zaw,zae,zai,zay]<;>rfl)))
theorem b8R (l:List NodeD) (r:Int) (g:Val→Int→Bool) (v:Val) (k:Nat) (x:NodeD) (hx:l[k]?= some x) (hk:x.kind=11):PC zP 99 [Vt v,Tt l r,I .i64 (k:Int)] (Bo (memN g x v)):=by
  have q:=a0y a0e hx
  unfold memN
  simp only[hk,Int.reduceEq,zac,zad,zaa,zab]
  refine PCB.ob Tryz.func99 Tryz.ntmps99 Tryz.results99 ?_
  repeat'(first|simp only[go_sem,a0a v,lB,a0d,hk]<;>refine nf ?_|refine stp ?_;intro K hK|apply hK;clear hK K|refine stn ?_|(with_reducible refine⟨by omega,a0e x,q,?_⟩)|clear hK K)
  all_goals(first|exact fun _ h=>absurd h zaf|(refine a0m ?_;first|rfl|(simp only[zaw,zae,zai,zay]<;>rfl)))
theorem b8S (l:List NodeD) (r:Int) (g:Val→Int→Bool) (v:Val) (k:Nat) (x:NodeD) (hx:l[k]?= some x) (hk:x.kind=15):PC zP 99 [Vt v,Tt l r,I .i64 (k:Int)] (Bo (memN g x v)):=by
  have q:=a0y a0e hx
  unfold memN
  simp only[hk,Int.reduceEq,zac,zad,zaa,zab]
  refine PCB.ob Tryz.func99 Tryz.ntmps99 Tryz.results99 ?_
  repeat'(first|simp only[go_sem,a0a v,lB,a0d,hk]<;>refine nf ?_|refine stp ?_;intro K hK|apply hK;clear hK K|refine stn ?_|(with_reducible refine⟨by omega,a0e x,q,?_⟩)|clear hK K)
  all_goals(first|exact fun _ h=>absurd h zaf|(refine a0m ?_;first|rfl|(simp only[zaw,zae,zai,zay]<;>rfl)))
theorem b8T (l:List NodeD) (r:Int) (g:Val→Int→Bool) (v:Val) (k:Nat) (x:NodeD) (hx:l[k]?= some x) (hk:x.kind=16) (HB:∀ k∈x.kids,b4M l r g v k):PC zP 99 [Vt v,Tt l r,I .i64 (k:Int)] (Bo (memN g x v)):=by
 have ab:=a0y a0e hx
 unfold memN
 simp only[hk,Int.reduceEq,zac,zad,zaa,zab]
 refine PCB.ob Tryz.func99 Tryz.ntmps99 Tryz.results99 ?_
 repeat'(first|simp only[go_sem,a0a v,lB,a0d,hk]<;>refine nf ?_|refine stp ?_;intro K hK|apply hK;clear hK K|refine stn ?_|(with_reducible refine⟨by omega,a0e x,ab,?_⟩)|fail)
 refine xE 7 4 rfl rfl fun u=>?_
 (try rw[lB] at u)
 refine xC (S:=Unit) (x.kids) a0h (fun k s=>(8,I .i64 (k:Nat))::[]) (fun k s=>[]) [3,4,7] [3,4,7] (fun i s=>x.kids.any (g v)=(x.kids.drop i).any (g v)) (()) (by simp only[go_sem,a0a v];exact Gh.tt []) ?_ ?_ ?_
 ·rfl
 ·intro i s y ae hy aa hb q
  refine sts ?_
  have hM:=(HB y (lP hy)).e
  have hd:x.kids.drop i=y::x.kids.drop (i+1):=by
   obtain⟨ad,e⟩:=zak.1 hy
   rw[za8 ad,e]
  rw[hd,List.any_cons] at q
  cases hz:g v y<;>simp only[hz,zam,zaq] at q
  ·
   repeat'(first|simp only[go_sem,a0a v,lB,a0d,hk,hb,hz]<;>refine nf ?_|refine stp ?_;intro K hK|apply hK;clear hK K|refine stn ?_|(with_reducible first|refine⟨by omega,a0h y,aa,?_⟩|refine⟨_,hM,?_⟩)|(refine a0J ?_;intro K hK)|clear hK K)
   all_goals(rw[a0b ae u])
   all_goals(refine⟨(),?_,Gh.tt []⟩)
   all_goals exact q
  ·
   repeat'(first|simp only[go_sem,a0a v,lB,a0d,hk,hb,hz]<;>refine nf ?_|refine stp ?_;intro K hK|apply hK;clear hK K|refine stn ?_|(with_reducible first|refine⟨by omega,a0h y,aa,?_⟩|refine⟨_,hM,?_⟩)|(refine a0J ?_;intro K hK)|clear hK K)
   all_goals(first|exact fun _ h=>absurd h zaf|(refine a0m ?_;first|rfl|(rw[q]<;>rfl)))
 ·intro s hb q
  refine sts ?_
  rw[lL] at q
  repeat'(first|simp only[go_sem,a0a v,lB,a0d,hk,hb]<;>refine nf ?_|refine stp ?_;intro K hK|apply hK;clear hK K|refine stn ?_|clear hK K)
  all_goals(first|exact fun _ h=>absurd h zaf|(refine a0m ?_;first|rfl|(rw[q]<;>rfl)))
theorem b8U (l:List NodeD) (r:Int) (g:Val→Int→Bool) (v:Val) (k:Nat) (x:NodeD) (hx:l[k]?= some x) (hk:x.kind=17) (HB:∀ k∈x.kids,b4M l r g v k):PC zP 99 [Vt v,Tt l r,I .i64 (k:Int)] (Bo (memN g x v)):=by
 have ab:=a0y a0e hx
 unfold memN
 simp only[hk,Int.reduceEq,zac,zad,zaa,zab]
 refine PCB.ob Tryz.func99 Tryz.ntmps99 Tryz.results99 ?_
 repeat'(first|simp only[go_sem,a0a v,lB,a0d,hk]<;>refine nf ?_|refine stp ?_;intro K hK|apply hK;clear hK K|refine stn ?_|(with_reducible refine⟨by omega,a0e x,ab,?_⟩)|fail)
 refine xE 7 4 rfl rfl fun u=>?_
 (try rw[lB] at u)
 refine xC (S:=Unit) (x.kids) a0h (fun k s=>(9,I .i64 (k:Nat))::[]) (fun k s=>[]) [3,4,7] [3,4,7] (fun i s=>x.kids.all (g v)=(x.kids.drop i).all (g v)) (()) (by simp only[go_sem,a0a v];exact Gh.tt []) ?_ ?_ ?_
 ·rfl
 ·intro i s y ae hy aa hb q
  refine sts ?_
  have hM:=(HB y (lP hy)).e
  have hd:x.kids.drop i=y::x.kids.drop (i+1):=by
   obtain⟨ad,e⟩:=zak.1 hy
   rw[za8 ad,e]
  rw[hd,List.all_cons] at q
  cases hz:g v y<;>simp only[hz,zae,zai] at q
  ·
   repeat'(first|simp only[go_sem,a0a v,lB,a0d,hk,hb,hz]<;>refine nf ?_|refine stp ?_;intro K hK|apply hK;clear hK K|refine stn ?_|(with_reducible first|refine⟨by omega,a0h y,aa,?_⟩|refine⟨_,hM,?_⟩)|(refine a0J ?_;intro K hK)|clear hK K)
   all_goals(first|exact fun _ h=>absurd h zaf|(refine a0m ?_;first|rfl|(rw[q]<;>rfl)))
  ·
   repeat'(first|simp only[go_sem,a0a v,lB,a0d,hk,hb,hz]<;>refine nf ?_|refine stp ?_;intro K hK|apply hK;clear hK K|refine stn ?_|(with_reducible first|refine⟨by omega,a0h y,aa,?_⟩|refine⟨_,hM,?_⟩)|(refine a0J ?_;intro K hK)|clear hK K)
   all_goals(rw[a0b ae u])
   all_goals(refine⟨(),?_,Gh.tt []⟩)
   all_goals exact q
 ·intro s hb q
  refine sts ?_
  rw[lL] at q
  repeat'(first|simp only[go_sem,a0a v,lB,a0d,hk,hb]<;>refine nf ?_|refine stp ?_;intro K hK|apply hK;clear hK K|refine stn ?_|clear hK K)
  all_goals(first|exact fun _ h=>absurd h zaf|(refine a0m ?_;first|rfl|(rw[q]<;>rfl)))
theorem b8V (l:List NodeD) (r:Int) (g:Val→Int→Bool) (v:Val) (k:Nat) (x:NodeD) (hx:l[k]?= some x) (hk:x.kind=18) (q:x.kids≠[]) (HB:∀ k∈x.kids,b4M l r g v k):PC zP 99 [Vt v,Tt l r,I .i64 (k:Int)] (Bo (memN g x v)):=by
 have u:=a0y a0e hx
 unfold memN
 simp only[hk,Int.reduceEq,zac,zad,zaa,zab]
 refine PCB.ob Tryz.func99 Tryz.ntmps99 Tryz.results99 ?_
 have aa:(x.kids.map a0h)[0]?= some (a0h (x.kids.getD 0 0)):=by
  cases ab:x.kids with
  |nil=>exact absurd ab q
  |cons a t=>rfl
 have hM:=(HB (x.kids.getD 0 0) (b1e q)).e
 have ad:0<x.kids.length:=zd0.2 q
 repeat'(first|simp only[go_sem,a0a v,lB,a0d,hk]<;>refine nf ?_|refine stp ?_;intro K hK|apply hK;clear hK K|refine stn ?_|(with_reducible first|refine⟨by omega,a0e x,u,?_⟩|refine⟨a0h (x.kids.getD 0 0),aa,?_⟩|refine⟨_,hM,?_⟩)|(refine a0J ?_;intro K hK)|clear hK K)
 all_goals(first|exact fun _ h=>absurd h zaf|(refine a0m ?_;first|rfl))
theorem b8W (l:List NodeD) (r:Int) (g:Val→Int→Bool) (v:Val) (k:Nat) (x:NodeD) (hx:l[k]?= some x) (hk:x.kind=19):PC zP 99 [Vt v,Tt l r,I .i64 (k:Int)] (Bo (memN g x v)):=by
 have ab:=a0y a0e hx
 unfold memN
 simp only[hk,Int.reduceEq,zac,zad,zaa,zab]
 refine PCB.ob Tryz.func99 Tryz.ntmps99 Tryz.results99 ?_
 repeat'(first|simp only[go_sem,a0a v,lB,a0d,hk]<;>refine nf ?_|refine stp ?_;intro K hK|apply hK;clear hK K|refine stn ?_|(with_reducible refine⟨by omega,a0e x,ab,?_⟩)|fail)
 refine xE 3 6 rfl rfl fun u=>?_
 (try rw[lB] at u)
 refine xC (S:=Unit) (v.labels) Sx.encStr (fun k s=>(10,I .i64 (k:Nat))::[]) (fun k s=>[]) [3,7] [3,7] (fun i s=>(v.labels.any fun s=>decide (s=x.text))=((v.labels.drop i).any fun s=>decide (s=x.text))) (()) (by simp only[go_sem,a0a v];exact Gh.tt []) ?_ ?_ ?_
 ·rfl
 ·intro i s y ae hy aa hb q
  refine sts ?_
  have hd:v.labels.drop i=y::v.labels.drop (i+1):=by
   obtain⟨ad,e⟩:=zak.1 hy
   rw[za8 ad,e]
  rw[hd,List.any_cons] at q
  cases hz:decide (y=x.text)<;>simp only[hz,zam,zaq] at q
  ·
   repeat'(first|simp only[go_sem,a0a v,lB,a0d,hk,hb,hz,Sx.encStr]<;>refine nf ?_|refine stp ?_;intro K hK|apply hK;clear hK K|refine stn ?_|(with_reducible refine⟨by omega,Sx.encStr y,aa,?_⟩)|(refine a0J ?_;intro K hK)|clear hK K)
   all_goals(rw[a0b ae u])
   all_goals(refine⟨(),?_,Gh.tt []⟩)
   all_goals exact q
  ·
   repeat'(first|simp only[go_sem,a0a v,lB,a0d,hk,hb,hz,Sx.encStr]<;>refine nf ?_|refine stp ?_;intro K hK|apply hK;clear hK K|refine stn ?_|(with_reducible refine⟨by omega,Sx.encStr y,aa,?_⟩)|(refine a0J ?_;intro K hK)|clear hK K)
   all_goals(first|exact fun _ h=>absurd h zaf|(refine a0m ?_;first|rfl|(rw[q]<;>rfl)))
 ·intro s hb q
  refine sts ?_
  rw[lL] at q
  repeat'(first|simp only[go_sem,a0a v,lB,a0d,hk,hb]<;>refine nf ?_|refine stp ?_;intro K hK|apply hK;clear hK K|refine stn ?_|clear hK K)
  all_goals(first|exact fun _ h=>absurd h zaf|(refine a0m ?_;first|rfl|(rw[q]<;>rfl)))
end Go.Proofs.YtoelgackkclcmaaGreat

