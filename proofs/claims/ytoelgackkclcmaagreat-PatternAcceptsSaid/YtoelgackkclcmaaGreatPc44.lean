/- Lemmas. -/
import Derived.Test.YtoelgackkclcmaaGreatPc43
open Go.Proofs.Tryz renaming prog→zP
open List renaming length_append→lA,length_map→lB,mem_singleton→lN
set_option linter.unusedSimpArgs false
set_option linter.unusedVariables false
set_option maxRecDepth 20000
set_option maxHeartbeats 64000000
namespace Go.Proofs.YtoelgackkclcmaaGreat
open Go Go.Sx
theorem c9W {s:List NodeD} {r:Int} (h:wfP s r=0) (b:Nat):emL b s r=s.map (upN b):=by
  unfold emL a03;rw[h];rfl
theorem c9X {s:List NodeD} {r:Int} (h:wfP s r=0) (b:Nat):emR b s r=upI b r:=by
  unfold emR a2z;rw[h];rfl
noncomputable def a4c (v:Val) (t:TyD):Bool:=a8I (a03 t.1 t.2) v (a2z t.1 t.2)
abbrev ovB (k:Int) (ts:List TyD) (i:Nat):Nat:=(ovS k (ts.take i)).1.length
theorem c5s:∀ (ts:List TyD) (s:List NodeD×List Int),∃ (p:List NodeD) (q:List Int),ts.foldl a3m s=(s.1++p,s.2++q)
 |[],s=>⟨[],[],by simp⟩
 |t::ts,s=>by
  obtain⟨p,q,h⟩:=c5s ts (a3m s t)
  exact⟨emL s.1.length t.1 t.2++p,emR s.1.length t.1 t.2::q,by rw[List.foldl_cons,h];simp[a3m]⟩
theorem a4U (k:Int) (ts:List TyD):(ovS k ts).2.length=ts.length:=by
 unfold ovS
 have key:∀ (ts:List TyD) (s:List NodeD×List Int),(ts.foldl a3m s).2.length=s.2.length+ts.length:=by
  intro ts
  induction ts with
  |nil=>intro s;simp
  |cons t ts ih=>intro s;rw[List.foldl_cons,ih];simp[a3m];omega
 rw[key];simp
theorem a6j {k:Int} {ts:List TyD} {i:Nat} {t:TyD} (h:ts[i]?= some t):∃ p,(ovS k ts).1=(ovS k (ts.take i)).1++emL (ovB k ts i) t.1 t.2++p∧(ovS k ts).2[i]?= some (emR (ovB k ts i) t.1 t.2):=by
 have hi:i<ts.length:=(zak.1 h).1
 have e:ts=ts.take (i+1)++ts.drop (i+1):=(zbt _ _).symm
 obtain⟨p,q,hp⟩:=c5s (ts.drop (i+1)) (ovS k (ts.take (i+1)))
 have e2:ovS k ts=((ovS k (ts.take (i+1))).1++p,(ovS k (ts.take (i+1))).2++q):=by
  rw[← hp]
  conv=>lhs;rw[e]
  unfold ovS
  rw[List.foldl_append]
 rw[b0g h] at e2
 refine⟨p,by rw[e2];rfl,?_⟩
 rw[e2]
 have hl:(ovS k (ts.take i)).2.length=i:=by rw[a4U,zbb];omega
 show ((ovS k (ts.take i)).2++[emR _ t.1 t.2]++q)[i]?= _
 rw[zb1,zb0 (by omega),hl,zdh];rfl
theorem b4X (k:Int) (ts:List TyD):0<(ovS k ts).1.length:=(zak.1 (a7C k ts)).1
theorem a4V (k:Int) (ts:List TyD):(overV k ts).length=(ovS k ts).1.length:=by unfold overV;rw[zbp]
theorem b2D {k:Int} {ts:List TyD} {i:Nat} {t:TyD} (h:ts[i]?= some t) (hb:(overV k ts).length≤10000000):Emb (overV k ts) (a03 t.1 t.2) (ovB k ts i):=by
  obtain⟨p,h1,_⟩:=a6j (k:=k) h
  rw[a4V] at hb
  have hE:=Emb.mk_ (pre:=(ovS k (ts.take i)).1) (s:=a03 t.1 t.2) (post:=p) (by rw[← emL,← h1];exact hb)
  rw[← emL,← h1] at hE
  have hp:0<ovB k ts i:=b4X k (ts.take i)
  refine⟨fun j hj=>?_,by rw[a4V];exact hE.len,by rw[a4V];exact hE.big⟩
  rw[← hE.at_ j hj]
  unfold overV
  rw[zd2 (by omega)]
theorem b3z (k:Int) (ts:List TyD):∀ (i:Nat),i≤ts.length→∀ j,j<ovB k ts i→j=0∨ ∃ (a:Nat) (t:TyD) (c:Nat),ts[a]?= some t∧j=ovB k ts a+c∧c<(a03 t.1 t.2).length:=by
 intro i
 induction i with
 |zero=>
  intro _ j hj
  left
  have:ovB k ts 0=1:=by simp[ovB,ovS]
  omega
 |succ i ih=>
  intro hi j hj
  have ht:ts[i]?= some ts[i]:=zav (by omega)
  rcases zbz j (ovB k ts i) with h|h
  ·exact ih (by omega) j h
  ·right
   refine⟨i,ts[i],j-ovB k ts i,ht,by omega,?_⟩
   unfold ovB at hj
   rw[b0g ht] at hj
   have:(a3m (ovS k (ts.take i)) ts[i]).1.length=ovB k ts i+(a03 ts[i].1 ts[i].2).length:=by simp[a3m,emL]
   omega
theorem a28 (t:TyD):wfP (a03 t.1 t.2) (a2z t.1 t.2)=0:=c0J _ _
theorem a8L (t:TyD):0≤a2z t.1 t.2∧a2z t.1 t.2<((a03 t.1 t.2).length:Int):=by
  have:=b2z (a28 t)
  exact⟨this.1,this.2.1⟩
def ovK (k:Int) (n:Nat):Bool:=a0G (a6y k (List.replicate n 0))&&(decide (k=10)||(decide (k=12)||(decide (k=14)||(decide (k=16)||(decide (k=17)||decide (k=18))))))
theorem b9a {k:Int} {ks:List Int} (h:ovK k ks.length=true):a0G (a6y k ks)=true∧a2Q (a6y k ks)=true:=by
 unfold ovK at h
 rw[zag] at h
 have hl:(List.replicate ks.length (0:Int)).length=ks.length:=by simp
 have e:a0G (a6y k ks)=a0G (a6y k (List.replicate ks.length 0)):=by
  unfold a0G a6y
  simp only[hl]
 refine⟨by rw[e];exact h.1,?_⟩
 have hk:k=10∨k=12∨k=14∨k=16∨k=17∨k=18:=by
  have:=h.2
  simp only[zb6,zan] at this
  omega
 exact a3Q k hk ks
theorem a75 (k:Int) (ts:List TyD) (j:Nat) (hj:j<(overV k ts).length):j=0∨ ∃ (a:Nat) (t:TyD) (c:Nat),ts[a]?= some t∧j=ovB k ts a+c∧c<(a03 t.1 t.2).length:=by
  rw[a4V] at hj
  refine b3z k ts ts.length (zax _) j ?_
  unfold ovB
  rw[zbh];exact hj
theorem a7D (k:Int) (ts:List TyD):(overV k ts)[0]?= some (a6y k (ovS k ts).2):=by
  unfold overV
  rw[List.getElem?_set_self (b4X k ts)]
theorem a4w {k:Int} {ts:List TyD} (hk:ovK k ts.length=true) (hb:(overV k ts).length≤10000000):wfP (overV k ts) 0=0:=by
 have h0:=a7D k ts
 have af:0<(overV k ts).length:=(zak.1 h0).1
 have q:∀ e∈(ovS k ts).2,∃ (a:Nat) (t:TyD),ts[a]?= some t∧e=upI (ovB k ts a) (a2z t.1 t.2):=by
  intro e he
  obtain⟨a,ha⟩:=zb5 he
  have ae:a<ts.length:=by rw[← a4U k ts];exact(zak.1 ha).1
  have ht:ts[a]?= some ts[a]:=zav ae
  obtain⟨_,_,h2⟩:=a6j (k:=k) ht
  rw[ha] at h2
  exact⟨a,ts[a],ht,by have:=Option.some.inj h2;rw[this];rfl⟩
 have u:∀ j,0<j→j<(overV k ts).length→Gr.Fin (bo (overV k ts)) (ks (overV k ts)) j:=by
  intro j h1 h2
  rcases a75 k ts j h2 with h|⟨a,t,c,ht,rfl,hc⟩
  ·omega
  ·obtain⟨R,hR⟩:=Wf.of (a28 t)
   exact c1g (b2D ht hb) hR hc (b6v (a28 t) c hc)
 refine c3Q (by omega) (by omega) (fun x hx=>?_) (fun j hj=>?_)
 ·obtain⟨j,hj⟩:=zb5 hx
  have ab:=(zak.1 hj).1
  rcases a75 k ts j ab with rfl|⟨a,t,c,ht,rfl,hc⟩
  ·rw[h0] at hj
   have e:=Option.some.inj hj
   subst e
   have hv:=b9a (k:=k) (ks:=(ovS k ts).2) (by rw[a4U];exact hk)
   simp only[a2P,zag]
   refine⟨hv.2,hv.1,?_⟩
   have aa:decide (k=13)=false:=by
    unfold ovK at hk
    simp only[zag,zb6,zan] at hk
    rw[zah];omega
   have he:edgeL (a6y k (ovS k ts).2)=(ovS k ts).2:=by unfold edgeL a6y;simp[aa]
   rw[he,za0]
   intro e he
   obtain⟨a,t,ht,rfl⟩:=q e he
   have hE:=b2D (k:=k) ht hb
   have hs:=a8L t
   rw[hE.up hs]
   have:=hE.len
   simp only[a8e,zbm,zbx,zah];omega
  ·have hE:=b2D (k:=k) ht hb
   obtain⟨R,hR⟩:=Wf.of (a28 t)
   rw[hE.at_ c hc,zav hc] at hj
   have e:=Option.some.inj hj
   rw[← e]
   exact b3u hE (hR.kind _ (zcd hc))
 ·rcases zc4 j with rfl|ad
  ·refine Gr.fin_of _ _ fun ag y hy=>?_
   unfold ks at hy
   rw[h0] at hy
   obtain⟨e,he,rfl⟩:=za3.1 hy
   obtain⟨a,t,ht,rfl⟩:=q e he
   have hE:=b2D (k:=k) ht hb
   have hs:=a8L t
   have hl:=hE.len
   have hp:0<ovB k ts a:=b4X k (ts.take a)
   rw[hE.up hs]
   exact u _ (by omega) (by omega)
  ·exact u j ad hj
theorem a8M {k:Int} {ts:List TyD} (hb:(overV k ts).length≤10000000) (v:Val):(ovS k ts).2.map (a8I (overV k ts) v)=ts.map (a4c v):=by
 apply zc8
 intro i
 rw[zbv,zbv]
 cases h:ts[i]? with
 |none=>
  have:ts.length≤i:=List.getElem?_eq_none_iff.1 h
  rw[zcr (by rw[a4U];exact this)];rfl
 |some t=>
  obtain⟨_,_,h2⟩:=a6j (k:=k) h
  rw[h2]
  obtain⟨R,hR⟩:=Wf.of (a28 t)
  show some (a8I _ v (upI _ (a2z t.1 t.2)))=some (a4c v t)
  rw[c1d (b2D (k:=k) h hb) hR v _ (a8L t)];rfl
theorem a5L {k:Int} {ts:List TyD} (hk:ovK k ts.length=true) (hb:(overV k ts).length≤10000000) (v:Val):a8I (overV k ts) v 0=memN (a8I (overV k ts)) (a6y k (ovS k ts).2) v:=by
 obtain⟨R,hR⟩:=Wf.of (a4w hk hb)
 have q:0<(overV k ts).length:=(zak.1 (a7D k ts)).1
 rw[a5q hR (by omega)]
 have:a3z (overV k ts) 0=a6y k (ovS k ts).2:=by
  unfold a3z
  rw[Int.toNat_zero,zbf,a7D];rfl
 rw[this]
theorem c7x {k:Int} {ts:List TyD} (hb:(overV k ts).length≤10000000) (v:Val):(ovS k ts).2.any (a8I (overV k ts) v)=ts.any (a4c v):=by
  have:=a8M (k:=k) hb v
  have e:∀ {α:Type} (f:α→Bool) (l:List α),l.any f=(l.map f).any id:=fun f l=>by rw[zd1];rfl
  rw[e,this,← e]
theorem c7y {k:Int} {ts:List TyD} (hb:(overV k ts).length≤10000000) (v:Val):(ovS k ts).2.all (a8I (overV k ts) v)=ts.all (a4c v):=by
  have:=a8M (k:=k) hb v
  have e:∀ {α:Type} (f:α→Bool) (l:List α),l.all f=(l.map f).all id:=fun f l=>by rw[zcy];rfl
  rw[e,this,← e]
theorem a4W {l:List NodeD} {r:Int} (h:wfP l r=0) (v:Val):a4c v (l,r)=a8I l v r:=by
  unfold a4c a03 a2z;simp only[h];rfl
theorem b7N {l:List NodeD} {r:Int} (h:decide (wfP l r=0)=false) (v:Val):a4c v (l,r)=false:=by
  unfold a4c a03 a2z
  rw[h,zab,zab]
  obtain⟨R,hR⟩:=Wf.of a9k
  rw[a5q hR (by decide)];rfl
theorem c31 {l:List NodeD} {r:Int} (h:wfP l r=0) (v:Val):a9n v l r r=(a0t v&&a4c v (l,r)):=by
  have hw:=b2z h
  unfold a9n
  rw[a4W h,h]
  have:inB l r=true:=by simp only[inB,zag,zan];omega
  rw[this];rfl
theorem c1p (v:Val) (t:TyD):a9n v t.1 t.2 t.2=(a0t v&&(decide (wfP t.1 t.2=0)&&a4c v t)):=by
  cases h:decide (wfP t.1 t.2=0) with
  |true=>rw[c31 (of_decide_eq_true h)];rfl
  |false=>unfold a9n;rw[h];cases a0t v<;>rfl
theorem a9r {k:Int} {ts:List TyD} {B:Nat} (h:TyS B ts):(overV k ts).length≤1+ts.length*B:=by rw[a4V];exact(a74 k ts h.one).1
theorem a3B {k:Int} {ts:List TyD} {B:Nat} (h:TyS B ts):(overV k ts).length≤10000000:=by have:=a9r (k:=k) h;have:=h.all;omega
theorem c1q {t:TyD} (h:TSm t.1):TSm (a03 t.1 t.2):=b4I h _
theorem b4Y {k:Int} {ts:List TyD} {B:Nat} (h:TyS B ts):TSm (overV k ts):=by
 have hs:=a9r (k:=k) h
 have ha:=h.all
 have hb:=a3B (k:=k) h
 have u:ts.length≤900000∨ts=[]:=by
  rcases zc4 B with hB|hB
  ·right
   cases ts with
   |nil=>rfl
   |cons t ts=>have:=(h.one t zbl).2;omega
  ·left;exact zbe (zd6 _ hB) ha
 have key:∀ x∈overV k ts,x.kids.length≤1000000∧x.fields.length≤1000000:=by
  intro x hx
  obtain⟨j,hj⟩:=zb5 hx
  have aa:=(zak.1 hj).1
  rcases a75 k ts j aa with rfl|⟨a,t,c,ht,rfl,hc⟩
  ·rw[a7D] at hj
   have e:=Option.some.inj hj
   subst e
   refine⟨?_,zao _⟩
   show (ovS k ts).2.length≤_
   rw[a4U]
   rcases u with h'|h'
   ·omega
   ·rw[h'];simp
  ·have hE:=b2D (k:=k) ht hb
   rw[hE.at_ c hc,zav hc] at hj
   have e:=Option.some.inj hj
   have q:=c1q (h.one t (zbc ht)).1
   rw[← e]
   simp only[upN,lB]
   exact⟨q.kids _ (zcd hc),q.fields _ (zcd hc)⟩
 exact⟨by omega,fun x hx=>(key x hx).1,fun x hx=>(key x hx).2⟩
theorem b4Z (v:Val):a4c v a4o=false:=by
  unfold a4o
  rw[a4W (show wfP [a1c 1] 0=0 from a9k)]
  obtain⟨R,hR⟩:=Wf.of (show wfP [a1c 1] 0=0 from a9k)
  rw[a5q hR (by decide)];rfl
theorem b7O:wfP a9o.1 0=0:=by decide
theorem b3A (v:Val):a4c v a9o=true:=by
  unfold a9o
  rw[a4W (show wfP [a1c 2] 0=0 from b7O)]
  obtain⟨R,hR⟩:=Wf.of (show wfP [a1c 2] 0=0 from b7O)
  rw[a5q hR (by decide)];rfl
theorem b0h {k:Int} {n:Nat} (hk:k=16∨k=17) (hn:1≤n):ovK k n=true:=by
  have hl:(List.replicate n (0:Int)).length=n:=by simp
  have:decide (1≤(n:Int))=true:=by rw[zan];omega
  rcases hk with rfl|rfl<;>simp[ovK,a0G,a6y,hn]
  all_goals omega
theorem b7P {ts:List TyD} {B:Nat} (h:TyS B ts):wfP (a1o ts).1 (a1o ts).2=0:=by
  unfold a1o
  cases hc:decide ((ts.length:Int)=0) with
  |true=>exact a9k
  |false=>rw[zah] at hc;exact a4w (b0h (.inl rfl) (by omega)) (a3B h)
theorem c32 {ts:List TyD} {B:Nat} (h:TyS B ts):wfP (a5i ts).1 (a5i ts).2=0:=by
  unfold a5i
  cases hc:decide ((ts.length:Int)=0) with
  |true=>exact b7O
  |false=>rw[zah] at hc;exact a4w (b0h (.inr rfl) (by omega)) (a3B h)
theorem b2E {ts:List TyD} {B:Nat} (h:TyS B ts) (v:Val):a4c v (a1o ts)=ts.any (a4c v):=by
 unfold a1o
 cases hc:decide ((ts.length:Int)=0) with
 |true=>
  have:ts=[]:=zbk.1 (by have:=of_decide_eq_true hc;omega)
  rw[zaa,b4Z,this];rfl
 |false=>
  rw[zah] at hc
  have hk:=b0h (k:=16) (n:=ts.length) (.inl rfl) (by omega)
  rw[zab,a3A,a4W (a4w hk (a3B h)),a5L hk (a3B h),← c7x (k:=16) (a3B h)];rfl
theorem b2F {ts:List TyD} {B:Nat} (h:TyS B ts) (v:Val):a4c v (a5i ts)=ts.all (a4c v):=by
 unfold a5i
 cases hc:decide ((ts.length:Int)=0) with
 |true=>
  have:ts=[]:=zbk.1 (by have:=of_decide_eq_true hc;omega)
  rw[zaa,b3A,this];rfl
 |false=>
  rw[zah] at hc
  have hk:=b0h (k:=17) (n:=ts.length) (.inr rfl) (by omega)
  rw[zab,a3A,a4W (a4w hk (a3B h)),a5L hk (a3B h),← c7y (k:=17) (a3B h)];rfl
theorem c33 {t:TyD} {B:Nat} (h:TyS B [t]) (v:Val):a4c v (b9z t)=!a4c v t:=by
 have hk:ovK 18 [t].length=true:=by show ovK 18 1=true;decide
 unfold b9z
 rw[a3A,a4W (a4w hk (a3B h)),a5L hk (a3B h)]
 have hm:=a8M (k:=18) (a3B h) v
 cases q:(ovS 18 [t]).2 with
 |nil=>rw[q] at hm;cases hm
 |cons e es=>
  rw[q] at hm
  simp only[zau,za6,List.cons.injEq] at hm
  rw[← hm.1];rfl
theorem c7z {t:TyD} {B:Nat} (h:TSm t.1) (hl:t.1.length<B) (hB:B≤900000):TyS B [t]:=⟨fun u hu=>by simp only[lN] at hu;subst hu;exact⟨h,hl⟩,by simpa using hB⟩
theorem b6C {s t:TyD} {B:Nat} (hs:TSm s.1) (ht:TSm t.1) (aa:s.1.length<B) (q:t.1.length<B) (hB:B≤450000):TyS B [s,t]:=⟨fun u hu=>by
  simp only[zal,zaf,or_false] at hu
  rcases hu with rfl|rfl
  · exact⟨hs,aa⟩
  · exact⟨ht,q⟩,by simp only[List.length_cons,List.length_nil];omega⟩
theorem c7A {s t:TyD} {B:Nat} (h:TyS B [s,b9z t]):wfP (b4R s t).1 (b4R s t).2=0:=c32 h
theorem c1r {s t:TyD} {B B2:Nat} (h1:TyS B [t]) (h:TyS B2 [s,b9z t]) (v:Val):a4c v (b4R s t)=(a4c v s&&!a4c v t):=by
  unfold b4R
  rw[b2F h,List.all_cons,List.all_cons,List.all_nil,c33 h1,zaw]
abbrev SubSt:=List NodeD×List (List UInt8×Int)
def a2t (bs:List BdD) (s:List UInt8):Option TyD:=(bs.find? fun b=>decide (b.1=s)).map (·.2)
theorem b3B (p:BdD→Bool):∀ (l:List BdD) (i:Int),0≤i→(l.find? p=none→c0K p l i= -1)∧(∀ b,l.find? p=some b→∃ k:Nat,c0K p l i=i+k∧l[k]?= some b)
 |[],i,_=>⟨fun _=>rfl,fun b h=>by cases h⟩
 |x::l,i,hi=>by
  have ih:=b3B p l (i+1) (by omega)
  cases hp:p x with
  |true=>exact⟨fun h=>by simp[List.find?, hp] at h,fun b h=>⟨0,by rw[c0K,hp];simp,by simp[List.find?, hp] at h;simp[h]⟩⟩
  |false=>
   refine⟨fun h=>?_,fun b h=>?_⟩
   ·rw[c0K,hp,zab];exact ih.1 (by simpa [List.find?, hp] using h)
   ·obtain⟨k,h1,h2⟩:=ih.2 b (by simpa [List.find?, hp] using h)
    exact⟨k+1,by rw[c0K,hp,zab,h1];push_cast;omega,by simpa using h2⟩
structure Blk (bs:List BdD) (n:Nat) (L:List NodeD) (nm:List UInt8) (b:Nat) (u:TyD):Prop where
  bind:a2t bs nm=some u
  lo:n≤b
  at_:∀ j,j<(a03 u.1 u.2).length→L[b+j]?= ((a03 u.1 u.2)[j]?).map (upN b)
  len:b+(a03 u.1 u.2).length≤L.length
theorem Blk.mono {bs:List BdD} {n:Nat} {L L':List NodeD} {nm:List UInt8} {b:Nat} {u:TyD} (h:Blk bs n L nm b u) (hl:L.length≤L'.length) (he:∀ j,n≤j→j<L.length→L'[j]?= L[j]?):Blk bs n L' nm b u:=
  ⟨h.bind,h.lo,fun j hj=>by rw[he _ (by have:=h.lo;omega) (by have:=h.len;omega)];exact h.at_ j hj,by have:=h.len;omega⟩
structure SubI (bs:List BdD) (S:List NodeD) (N i:Nat) (st:SubSt):Prop where
  len:S.length≤st.1.length
  size:st.1.length≤N
  rest:∀ (j:Nat) (x:NodeD),i≤j→S[j]?= some x→st.1[j]?= some (upN 0 x)
  old:∀ (j:Nat) (x:NodeD),S[j]?= some x→st.1[j]?= some (upN 0 x)∨ ∃ p∈st.2,st.1[j]?= some (a6y 16 [p.2])
  keep:∀ (j:Nat) (x:NodeD),S[j]?= some x→(x.kind=19→a2t bs x.text=none)→st.1[j]?= some (upN 0 x)
  new:∀ p∈st.2,∃ b u,Blk bs S.length st.1 p.1 b u∧p.2=emR b u.1 u.2
  cover:∀ j,S.length≤j→j<st.1.length→∃ nm b u c,Blk bs S.length st.1 nm b u∧j=b+c∧c<(a03 u.1 u.2).length
theorem SubI.up {bs:List BdD} {S:List NodeD} {N i:Nat} {st:SubSt} (h:SubI bs S N i st) {N' i':Nat} (hN:N≤N') (hi:i≤i'):SubI bs S N' i' st:=
  ⟨h.len,zbe h.size hN,fun j x hj hx=>h.rest j x (zbe hi hj) hx,h.old,h.keep,h.new,h.cover⟩
theorem SubI.add {bs:List BdD} {S:List NodeD} {N i B:Nat} {st:SubSt} (h:SubI bs S N i st) {nm:List UInt8} {u:TyD} (hb:a2t bs nm=some u) (hB:(a03 u.1 u.2).length≤B):
  SubI bs S (N+B) i (st.1++emL st.1.length u.1 u.2,st.2++[(nm,emR st.1.length u.1 u.2)]):=by
 have hl:=h.len
 have hs:=h.size
 have af:(emL st.1.length u.1 u.2).length=(a03 u.1 u.2).length:=by unfold emL;rw[lB]
 have q:∀ j,j<st.1.length→(st.1++emL st.1.length u.1 u.2)[j]?= st.1[j]?:= fun j hj=>zcg hj
 have ab:Blk bs S.length (st.1++emL st.1.length u.1 u.2) nm st.1.length u:=⟨hb,hl,fun j hj=>by
  rw[zb0 (by omega),zd4];unfold emL;rw[zbv],by rw[lA,af];exact zax _⟩
 have ae:∀ j x,S[j]?= some x→j<st.1.length:=fun j x hx=>by have:=(zak.1 hx).1;omega
 have aa:∀ {ad b u'},Blk bs S.length st.1 ad b u'→Blk bs S.length (st.1++emL st.1.length u.1 u.2) ad b u':=fun ag=>ag.mono (by simp) fun j _ hj=>q j hj
 refine⟨?_,?_,?_,?_,?_,?_,?_⟩
 ·rw[lA];omega
 ·rw[lA,af];omega
 ·intro j x hj hx
  rw[q j (ae j x hx)];exact h.rest j x hj hx
 ·intro j x hx
  rw[q j (ae j x hx)]
  rcases h.old j x hx with h'|⟨p,hp,h'⟩
  ·exact .inl h'
  ·exact .inr ⟨p,zb7 _ hp,h'⟩
 ·intro j x hx hk
  rw[q j (ae j x hx)];exact h.keep j x hx hk
 ·intro p hp
  rcases zbd.1 hp with hp|hp
  ·obtain⟨b,u',h1,h2⟩:=h.new p hp
   exact⟨b,u',aa h1,h2⟩
  ·simp only[lN] at hp
   subst hp
   exact⟨st.1.length,u,ab,rfl⟩
 ·intro j h1 h2
  rcases zbz j st.1.length with hj|hj
  ·obtain⟨ad,b,u',c,ah,e,hc⟩:=h.cover j h1 hj
   exact⟨ad,b,u',c,aa ah,e,hc⟩
  ·rw[lA,af] at h2
   exact⟨nm,st.1.length,u,j-st.1.length,ab,by omega,by omega⟩
theorem SubI.put {bs:List BdD} {S:List NodeD} {N i:Nat} {st:SubSt} (h:SubI bs S N i st) {x:NodeD} (hx:S[i]?= some x) (hk:x.kind=19) {u:TyD} (hb:a2t bs x.text=some u) {p:List UInt8×Int} (hp:p∈st.2):
  SubI bs S N (i+1) (st.1.set i (a6y 16 [p.2]),st.2):=by
 have hi:=(zak.1 hx).1
 have hl:=h.len
 have ad:∀ j,j≠i→(st.1.set i (a6y 16 [p.2]))[j]?= st.1[j]?:= fun j hj=>zd2 (Ne.symm hj)
 have aa:∀ {ab b u'},Blk bs S.length st.1 ab b u'→Blk bs S.length (st.1.set i (a6y 16 [p.2])) ab b u':=fun af=>af.mono (by simp) fun j h1 _=>ad j (by omega)
 refine⟨?_,?_,?_,?_,?_,?_,?_⟩
 ·rw[zbp];exact hl
 ·rw[zbp];exact h.size
 ·intro j y hj hy
  rw[ad j (by omega)];exact h.rest j y (by omega) hy
 ·intro j y hy
  rcases Nat.decEq j i with hj|hj
  ·rw[ad j hj];exact h.old j y hy
  ·subst hj
   exact .inr ⟨p,hp,List.getElem?_set_self (by omega)⟩
 ·intro j y hy ae
  rcases Nat.decEq j i with hj|hj
  ·rw[ad j hj];exact h.keep j y hy ae
  ·subst hj
   rw[hx] at hy
   have e:=Option.some.inj hy
   subst e
   rw[ae hk] at hb;cases hb
 ·intro q hq
  obtain⟨b,u',h1,h2⟩:=h.new q hq
  exact⟨b,u',aa h1,h2⟩
 ·intro j h1 h2
  rw[zbp] at h2
  obtain⟨ab,b,u',c,ag,e,hc⟩:=h.cover j h1 h2
  exact⟨ab,b,u',c,aa ag,e,hc⟩
theorem up0 {n:Nat} {k:Int} (hn:n≤10000000) (hk:0≤k∧k<(n:Int)):upI 0 k=k:=by
  have:=c5p (b:=0) hk (by omega)
  simpa using this
theorem b3C {t:TyD} (h:wfP t.1 t.2=0):a03 t.1 t.2=t.1∧a2z t.1 t.2=t.2:=by
  unfold a03 a2z;rw[h];exact⟨rfl,rfl⟩
theorem c7B {bs:List BdD} {nm:List UInt8} {u:TyD} (h:a2t bs nm=some u):∃ b∈bs,b.2=u:=by
  unfold a2t at h
  obtain⟨b,h1,h2⟩:=zcm.1 h
  exact⟨b,List.mem_of_find?_eq_some h1,h2⟩
theorem c1s (c:Bool) (l:List (List UInt8)) (hl:l.length≤1000000):PC zP 246 [.st [.bool c, .sl 1 (l.map Sx.encStr)]] (.st [.bool c, .sl 1 ((a0M l).map Sx.encStr)]):=by
 have q:=cloneStr_n l (by omega)
 have h3:a1k zP 80 [.one (.own 6 l.length)] 6 (.row 1 (l.map Sx.encStr)) (.tup []) (.row 1 ((l.mergeSort fun x y=>decide (x≤y)).map Sx.encStr)):=
  a1k.own1 6 (a8C Go.Proofs.Tryz.sortS l (by omega))
 have h4:a1k zP 81 [.one (.own 6 l.length)] 6 (.row 1 ((l.mergeSort fun x y=>decide (x≤y)).map Sx.encStr)) (.one (.own 6 (a0M l).length)) (.row 1 ((a0M l).map Sx.encStr)):=by
  have h:=a6V Go.Proofs.Tryz.compS (l.mergeSort fun x y=>decide (x≤y))
  rw[a5g,zda] at h
  exact a1k.own2 6 h
 have h5:=c7d ((a0M l).map Sx.encStr)
 refine PCB.ob Tryz.func246 Tryz.ntmps246 Tryz.results246 ?_
 repeat'(first|simp only[go_sem,lB]<;>refine nf ?_|refine stp ?_;intro K hK|apply hK;clear hK K|refine stn ?_|(with_reducible first|refine Or.inr (Or.inl ⟨_,_,q,?_⟩)|refine⟨_,h5,?_⟩)|(apply Or.inr;refine⟨6,_,_,_,h3,rfl,?_⟩;simp only[go_sem])|(apply Or.inr;refine⟨6,_,_,_,h4,rfl,?_⟩;simp only[go_sem])|(with_reducible refine AWP.genR (id:=3) [3,4,7] [6,2] mixed (by kernel_rfl) fun K hK=>?_;simp only[Bx.outs,Bx.drop,zaa,zab,Nat.reduceBEq,go_sem])|refine stq ?_|fail)
 all_goals(first|exact fun _ h=>absurd h zaf|(refine a0m ?_;rfl))
theorem c34 (l:List (List UInt8)) (hl:l.length≤1000000):PC zP 212 [.one (.dat (.sl 1 (l.map Sx.encStr)))] (.st [.bool false, .sl 1 ((a0M l).map Sx.encStr)]):=by
  have h:=c1s false l hl
  refine PCB.ob Tryz.func212 Tryz.ntmps212 Tryz.results212 ?_
  repeat'(first|simp only[go_sem]<;>refine nf ?_|refine stp ?_;intro K hK|apply hK;clear hK K|refine stn ?_|(with_reducible refine⟨_,h,?_⟩)|refine stq ?_|fail)
  all_goals(first|exact fun _ h=>absurd h zaf|(refine a0m ?_;rfl))
def nmT (one:Int) (s:List UInt8):TyD:=([a2L one s],0)
def a1e (one:Int) (l:List (List UInt8)):List TyD:=((a0M l).filter fun s=>a0G (a2L one s)).map (nmT one)
def a2Z (one all:Int) (c:Bool) (l:List (List UInt8)):TyD:=bif c then b4R ([a1c all],0) (a1o (a1e one l)) else a1o (a1e one l)
theorem c9Y (k:Int) (s:List UInt8):PC zP 119 [.st [.int .i64 k, .int .i64 0, .int .i64 0, .str s, .sl 1 [], .sl 4 [], .int .i64 0, .int .i64 0]] (.st [.sl 8 [a0e (a2L k s)], .int .i64 0]):=b0e (a2L k s)
theorem c1t (k:Int) (s:List UInt8):PC zP 176 [.st [.int .i64 k, .int .i64 0, .int .i64 0, .str s, .sl 1 [], .sl 4 [], .int .i64 0, .int .i64 0]] (Bo (a0G (a2L k s))):=b1E (a2L k s)
theorem c35 (l:List TyD) (k:Int) (s:List UInt8):l.map a1Q++[[.sl 8 [a0e (a2L k s)], .int .i64 0]]=(l++[nmT k s]).map a1Q:=by rw[zbn];rfl
theorem a5M (one:Int) (l:List (List UInt8)) (hl:l.length≤100000):TyS 2 (a1e one l):=by
 have h1:=a2a l
 have h2:=zcx (fun s=>a0G (a2L one s)) (a0M l)
 refine⟨fun t ht=>?_,?_⟩
 ·obtain⟨s,_,rfl⟩:=za3.1 ht
  exact⟨a62 _ rfl rfl,by simp[nmT]⟩
 ·unfold a1e
  rw[lB];omega
theorem c1u (one all:Int) (c:Bool) (l:List (List UInt8)) (hl:l.length≤1000):PC zP 152 [.st [.bool c, .sl 1 (l.map Sx.encStr)],I .i64 one,I .i64 all] (Yp (a2Z one all c l)):=by
 have hS:=a5M one l (by omega)
 have hU:PC zP 69 [Tys (a1e one l)] (Yp (a1o (a1e one l))):=c05 _ hS
 have hF:=c34 l (by omega)
 have h1:=a2a l
 have hA:PC zP 119 [.st [.int .i64 all, .int .i64 0, .int .i64 0, .str [], .sl 1 [], .sl 4 [], .int .i64 0, .int .i64 0]] (.st [.sl 8 [a0e (a1c all)], .int .i64 0]):=b0e (a1c all)
 have ad:TSm (a1o (a1e one l)).1∧(a1o (a1e one l)).1.length≤10000:=by
  have h2:=zcx (fun s=>a0G (a2L one s)) (a0M l)
  unfold a1o
  cases decide (((a1e one l).length:Int)=0)
  ·refine⟨b4Y hS,?_⟩
   have:=(a74 16 (B:=2) (a1e one l) hS.one).1
   have h3:(a1e one l).length≤l.length:=by unfold a1e;rw[lB];omega
   show (overV 16 _).length≤_
   unfold overV
   rw[zbp];omega
  ·exact⟨a62 _ rfl rfl,by simp[a4o]⟩
 have al:=ad.2
 have ab:TyS 100000 [a1o (a1e one l)]:=⟨fun u hu=>by simp only[lN] at hu;subst hu;exact⟨ad.1,by omega⟩,by simp⟩
 have af:=b4Y (k:=18) ab
 have ag:=(a74 18 (B:=100000) [a1o (a1e one l)] ab.one).1
 have ai:TyS 200000 [([a1c all],0),b9z (a1o (a1e one l))]:=⟨fun u hu=>by
  simp only[zal,zaf,or_false] at hu
  rcases hu with rfl|rfl
  ·exact⟨a62 _ rfl rfl,by simp⟩
  ·refine⟨af,?_⟩
   show (overV 18 _).length<_
   unfold overV
   rw[zbp]
   simp only[List.length_singleton] at ag
   omega,by simp⟩
 have hD:PC zP 73 [.st [.sl 8 [a0e (a1c all)], .int .i64 0],Yp (a1o (a1e one l))] (Yp (b4R ([a1c all],0) (a1o (a1e one l)))):=c9L ([a1c all],0) (a1o (a1e one l)) ab ai
 have ah:a1e one l=((a0M l).filter fun s=>a0G (a2L one s)).map (nmT one):=rfl
 unfold a2Z
 generalize b4R ([a1c all],0) (a1o (a1e one l))=D at hD ⊢
 generalize a1o (a1e one l)=U at hU hD ⊢
 obtain⟨Ul,Ur⟩:=U
 try simp only[a1Q] at hU hD
 obtain⟨s,hs⟩:∃ s,s=a0M l:=⟨_,rfl⟩
 rw[← hs] at hF h1 ah
 clear ad al ab af ag ai
 cases c
 all_goals
  refine PCB.ob Tryz.func152 Tryz.ntmps152 Tryz.results152 ?_
  repeat'(first|simp only[go_sem,lB]<;>refine nf ?_|refine stp ?_;intro K hK|apply hK;clear hK K|refine stn ?_|(with_reducible refine⟨_,hF,?_⟩)|refine stq ?_|fail)
  refine AWP.gh (Gh.nilrow 7 901 rfl rfl rfl rfl) ?_
  refine AWP.len 14 rfl fun aa=>?_
  (try rw[lB] at aa)
  refine AWP.range (S:=List TyD) (s) Sx.encStr (fun k y=>(16,I .i64 (k:Nat))::[(7, .one (.own 901 y.length))]) (fun k y=>[(901, .row 2 (y.map a1Q))]) [1,2,3,6,14,15] [3,6] (fun k y=>Is y (((s.take k).filter fun s=>a0G (a2L one s)).map (nmT one))) ([]) (by refine sts ?_;exact Gh.tt []) ?_ ?_ ?_
  ·rfl
  ·intro k y r ae hr aj hb q
   refine sts ?_
   unfold Is at q
   have am:y.length≤100000:=by rw[q,lB];refine zbe (zcx _ _) ?_;rw[zbb];omega
   have ak:s.take (k+1)=s.take k++[r]:=by rw[zdb ae,(zak.1 hr).2]
   cases hv:a0G (a2L one r)
   ·
    repeat'(first|simp only[go_sem,lB,hb,hv,a4D]<;>refine nf ?_|refine stp ?_;intro K hK|apply hK;clear hK K|refine stn ?_|(with_reducible first|refine⟨(by omega:_≤_),Sx.encStr r,aj,?_⟩|refine⟨_,c1t one r,?_⟩)|refine stq ?_|clear hK K)
    all_goals(rw[a0b ae aa])
    all_goals(refine⟨y,?_,Gh.tt []⟩)
    all_goals(unfold Is;rw[q,ak,zeb];simp[hv])
   ·
    repeat'(first|simp only[go_sem,lB,hb,hv,a4D,c35]<;>refine nf ?_|refine stp ?_;intro K hK|apply hK;clear hK K|refine stn ?_|(with_reducible first|refine⟨(by omega:_≤_),Sx.encStr r,aj,?_⟩|refine⟨_,c1t one r,?_⟩|refine⟨_,c9Y one r,?_⟩|(refine⟨(by first|omega|(simp only[lA,lB,zbb,za1,List.length_cons,List.length_nil,za4];omega):_≤_),?_⟩))|refine stq ?_|clear hK K)
    all_goals(rw[a0b ae aa])
    all_goals(refine⟨y++[nmT one r],?_,Gh.tt [(901,29)]⟩)
    all_goals(unfold Is;rw[q,ak,zeb];simp[hv])
  ·intro y hb q
   refine sts ?_
   unfold Is at q
   rw[zbh,← ah] at q
   subst q
   refine AWP.gh (Gh.fz 901) ?_
   simp only[go_sem,lB]
   repeat'(first|simp only[go_sem,lB,hb]<;>refine nf ?_|refine stp ?_;intro K hK|apply hK;clear hK K|refine stn ?_|(with_reducible first|refine⟨_,hU,?_⟩|refine⟨_,hA,?_⟩|refine⟨_,hD,?_⟩)|refine stq ?_|clear hK K)
   all_goals(first|exact fun _ h=>absurd h zaf|(refine a0m ?_;rfl))
end Go.Proofs.YtoelgackkclcmaaGreat





namespace Go.Proofs.YtoelgackkclcmaaGreat
open Go Go.Sx
theorem c1v {x:NodeD} (hp:a2Q x=true) (hv:a0G x=true) (hk:x.kids=[]) (hf:x.fields=[]) (q:decide (x.kind=13)=false) (hb:a4Z x.kind=false):wfP [x] 0=0:=by
 refine c3Q (by omega) (by simp) (fun y hy=>?_) (fun j hj=>?_)
 ·simp only[lN] at hy;subst hy
  have he:edgeL y=[]:=by unfold edgeL;rw[hk,hf,q];rfl
  unfold a2P;rw[hp,hv,he];rfl
 ·have:j=0:=by simpa using hj
  subst this
  exact Gr.fin_no _ _ (by unfold bo;simpa using hb)
theorem b1m {x:NodeD} (hw:wfP [x] 0=0) (v:Val):a4c v ([x],0)=memN (a8I [x]) x v:=by
  rw[a4W hw]
  obtain⟨R,hR⟩:=Wf.of hw
  rw[a5q hR (by simp)];rfl
theorem c1w {k:Int} (hk:k=4∨k=6∨k=19) {s:List UInt8} (hv:a0G (a2L k s)=true):wfP (nmT k s).1 0=0:=by
  rcases hk with rfl|rfl|rfl<;>exact c1v rfl hv rfl rfl rfl rfl
theorem c1x {s:List UInt8} (hv:a0G (a2L 4 s)=true) (v:Val):a4c v (nmT 4 s)=(decide (v.kind=2)&&decide (v.text=s)):=by
  unfold nmT;rw[b1m (c1w (.inl rfl) hv)];rfl
theorem c1y {s:List UInt8} (hv:a0G (a2L 6 s)=true) (v:Val):a4c v (nmT 6 s)=(decide (v.kind=3)&&decide (v.text=s)):=by
  unfold nmT;rw[b1m (c1w (.inr (.inl rfl)) hv)];rfl
theorem c1z {k:Int} (hk:k=5∨k=7):wfP [a1c k] 0=0:=by
  rcases hk with rfl|rfl<;>exact c1v rfl rfl rfl rfl rfl rfl
theorem c36 (v:Val):a4c v ([a1c 5],0)=decide (v.kind=2):=by rw[b1m (c1z (.inl rfl))];rfl
theorem c37 (v:Val):a4c v ([a1c 7],0)=decide (v.kind=3):=by rw[b1m (c1z (.inr rfl))];rfl
theorem c9Z {a b:Int} (h:a≤b):wfP [c0o a b] 0=0:=c1v rfl (by show decide (a≤b)=true;exact zbo h) rfl rfl rfl rfl
theorem c7C {a b:Int} (h:a≤b) (v:Val):a4c v ([c0o a b],0)=(decide (v.kind=1)&&(decide (a≤v.num)&&decide (v.num≤b))):=by
  rw[b1m (c9Z h)];rfl
def c90 (l:List Ivl.Rg) (n:Int):Bool:=l.any fun r=>decide (r.lo≤n)&&decide (n≤r.hi)
theorem b3D {l:List Ivl.Rg} (u:l.length≤100000):TyS 2 ((Ivl.nf l).map rgT):=by
 have q:=Ivl.nf_len l
 exact⟨fun t ht=>by
  obtain⟨r,_,rfl⟩:=za3.1 ht
  exact⟨a62 _ rfl rfl,by simp[rgT]⟩,by rw[lB];omega⟩
theorem c38 {l:List Ivl.Rg} (q:l.length≤100000) (v:Val):a4c v (a9Z l)=(decide (v.kind=1)&&c90 l v.num):=by
 unfold a9Z
 rw[b2E (b3D q),zd1]
 have hN:=(Ivl.nf_Nf l).1
 have e:(Ivl.nf l).any (a4c v ∘ rgT)=(Ivl.nf l).any fun r=>decide (v.kind=1)&&(decide (r.lo≤v.num)&&decide (v.num≤r.hi)):=
  a6Z fun r hr=>c7C (hN r hr) v
 rw[e]
 have e2:c90 l v.num=c90 (Ivl.nf l) v.num:=by
  have:=Ivl.nf_has l v.num
  rw[← zbj]
  unfold c90
  simp only[zdd,zag,zan]
  exact this.symm
 rw[e2]
 unfold c90
 cases decide (v.kind=1) with
 |true=>simp only[zae]
 |false=>simp only[zai];simp
theorem c7D {l:List Ivl.Rg} (q:l.length≤100000):wfP (a9Z l).1 (a9Z l).2=0:=b7P (b3D q)
theorem c39 (s:List (List UInt8)) (x y:List UInt8):y∈b19 s x↔y=x∨y∈s:=by
 unfold b19
 cases h:decide (s[tw (fun y=>Op.bytesLess y x) s]?= some x) with
 |true=>
  rw[zaa]
  have:=zbc (of_decide_eq_true h)
  exact⟨.inr,fun h=>h.elim (fun e=>e▸this) id⟩
 |false=>
  rw[zab]
  unfold a3e
  generalize tw (fun y=>Op.bytesLess y x) s=k
  rw[zbd,zbd,lN]
  constructor
  ·rintro ((h|h)|h)
   ·exact .inr (zcp h)
   ·exact .inl h
   ·exact .inr (zd8 h)
  ·rintro (h|h)
   ·exact .inl (.inr h)
   ·rw[← zbt k s,zbd] at h
    exact h.elim (fun h=> .inl (.inl h)) .inr
theorem b40:∀ (l s:List (List UInt8)) (y:List UInt8),y∈l.foldl b19 s↔y∈l∨y∈s
 |[],s,y=>by simp
 |x::l,s,y=>by
  rw[List.foldl_cons,b40 l (b19 s x) y,c39,zal]
  constructor
  ·rintro (h|h|h)
   ·exact .inl (.inr h)
   ·exact .inl (.inl h)
   ·exact .inr h
  ·rintro ((h|h)|h)
   ·exact .inr (.inl h)
   ·exact .inl h
   ·exact .inr (.inr h)
theorem b6D (l:List (List UInt8)) (y:List UInt8):y∈a0M l↔y∈l:=by
  unfold a0M;rw[b40];simp
def d1w (c:Bool) (l:List (List UInt8)) (s:List UInt8):Bool:=(l.any fun t=>decide (t=s)) != c
structure NmK (one all kd:Int):Prop where
  txt:∀ s,a0G (a2L one s)=true→∀ v,a4c v (nmT one s)=(decide (v.kind=kd)&&decide (v.text=s))
  all:∀ v,a4c v ([a1c all],0)=decide (v.kind=kd)
  ok:∀ v,a0t v=true→v.kind=kd→a0G (a2L one v.text)=true
theorem c1A {one all kd:Int} (H:NmK one all kd) (l:List (List UInt8)) (hl:l.length≤1000) (v:Val) (hv:a0t v=true):a4c v (a1o (a1e one l))=(decide (v.kind=kd)&&l.any fun t=>decide (t=v.text)):=by
 rw[b2E (a5M one l (by omega))]
 unfold a1e
 rw[zd1]
 have e:((a0M l).filter fun s=>a0G (a2L one s)).any (a4c v ∘ nmT one)=((a0M l).filter fun s=>a0G (a2L one s)).any fun s=>decide (v.kind=kd)&&decide (v.text=s):=
  a6Z fun s hs=>H.txt s (zc3.1 hs).2 v
 rw[e]
 cases hk:decide (v.kind=kd) with
 |false=>simp only[zai];simp
 |true=>
  simp only[zae]
  have q:=H.ok v hv (of_decide_eq_true hk)
  rw[← zbj]
  simp only[zdd,zan,zc3,b6D]
  constructor
  ·rintro⟨s,⟨h1,_⟩,h2⟩;exact⟨s,h1,h2.symm⟩
  ·rintro⟨s,h1,h2⟩;exact⟨s,⟨h1,by rw[h2];exact q⟩,h2.symm⟩
theorem b7Q (one:Int) (l:List (List UInt8)) (hl:l.length≤1000):TyS 100000 [a1o (a1e one l)]∧TyS 200000 [([a1c (one+1)],0),b9z (a1o (a1e one l))]:=by
 have hS:=a5M one l (by omega)
 have h1:=a2a l
 have u:TSm (a1o (a1e one l)).1∧(a1o (a1e one l)).1.length≤10000:=by
  have h2:=zcx (fun s=>a0G (a2L one s)) (a0M l)
  unfold a1o
  cases decide (((a1e one l).length:Int)=0)
  ·refine⟨b4Y hS,?_⟩
   have:=(a74 16 (B:=2) (a1e one l) hS.one).1
   have h3:(a1e one l).length≤l.length:=by unfold a1e;rw[lB];omega
   show (overV 16 _).length≤_
   unfold overV
   rw[zbp];omega
  ·exact⟨a62 _ rfl rfl,by simp[a4o]⟩
 have ab:=u.2
 have q:TyS 100000 [a1o (a1e one l)]:=c7z u.1 (by omega) (by omega)
 have aa:=a9r (k:=18) q
 simp only[List.length_singleton] at aa
 exact⟨q,b6C (a62 _ rfl rfl) (b4Y q) (by simp) (by show (overV 18 _).length<_;omega) (by omega)⟩
theorem b41 {one kd:Int} (H:NmK one (one+1) kd) (c:Bool) (l:List (List UInt8)) (hl:l.length≤1000) (v:Val) (hv:a0t v=true):a4c v (a2Z one (one+1) c l)=(decide (v.kind=kd)&&d1w c l v.text):=by
 have hm:=c1A H l hl v hv
 obtain⟨s1,s2⟩:=b7Q one l hl
 unfold a2Z d1w
 cases c with
 |false=>
  rw[zab,hm]
  congr 1
  cases (l.any fun t=>decide (t=v.text))<;>rfl
 |true=>
  rw[zaa,c1r s1 s2,hm,H.all]
  cases decide (v.kind=kd)<;>cases (l.any fun t=>decide (t=v.text))<;>rfl
theorem b7R (one:Int) (c:Bool) (l:List (List UInt8)) (hl:l.length≤1000):wfP (a2Z one (one+1) c l).1 (a2Z one (one+1) c l).2=0:=by
  obtain⟨s1,s2⟩:=b7Q one l hl
  unfold a2Z
  cases c
  · exact b7P (a5M one l (by omega))
  · exact c7A s2
theorem nm4:NmK 4 5 2 where
 txt s h v:=c1x h v
 all:=c36
 ok v hv hk:=by
  rw[a7l,a0K,a2R,hk] at hv
  simp only[Int.reduceEq,zac,zad,zaa,zab,zag] at hv
  exact hv.1.2.2.2
theorem nm6:NmK 6 7 3 where
 txt s h v:=c1y h v
 all:=c37
 ok v hv hk:=by
  rw[a7l,a0K,a2R,hk] at hv
  simp only[Int.reduceEq,zac,zad,zaa,zab,zag] at hv
  exact hv.1.2.2.2
end Go.Proofs.YtoelgackkclcmaaGreat



namespace Go.Proofs.YtoelgackkclcmaaGreat
open Go Go.Sx
theorem c1B (c:Bool) (l:List (List UInt8)) (hl:l.length≤1000):PC zP 90 [.st [.bool c, .sl 1 (l.map Sx.encStr)]] (Yp (a2Z 4 5 c l)):=by
  have h:=c1u 4 5 c l hl
  refine PCB.ob Tryz.func90 Tryz.ntmps90 Tryz.results90 ?_
  repeat'(first|simp only[go_sem]<;>refine nf ?_|refine stp ?_;intro K hK|apply hK;clear hK K|refine stn ?_|(with_reducible refine⟨_,h,?_⟩)|refine stq ?_|fail)
  all_goals(first|exact fun _ h=>absurd h zaf|(refine a0m ?_;rfl))
theorem c7E (c:Bool) (l:List (List UInt8)) (hl:l.length≤1000):PC zP 91 [.st [.bool c, .sl 1 (l.map Sx.encStr)]] (Yp (a2Z 6 7 c l)):=by
  have h:=c1u 6 7 c l hl
  refine PCB.ob Tryz.func91 Tryz.ntmps91 Tryz.results91 ?_
  repeat'(first|simp only[go_sem]<;>refine nf ?_|refine stp ?_;intro K hK|apply hK;clear hK K|refine stn ?_|(with_reducible refine⟨_,h,?_⟩)|refine stq ?_|fail)
  all_goals(first|exact fun _ h=>absurd h zaf|(refine a0m ?_;rfl))
end Go.Proofs.YtoelgackkclcmaaGreat

