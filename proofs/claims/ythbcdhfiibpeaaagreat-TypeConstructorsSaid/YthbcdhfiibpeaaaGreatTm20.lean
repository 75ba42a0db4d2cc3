/- Lemmas of the proof. -/
import Derived.Test.YthbcdhfiibpeaaaGreatTm1
set_option linter.unusedSimpArgs false
set_option linter.unusedVariables false
set_option maxRecDepth 20000
set_option maxHeartbeats 64000000
namespace Go.Gr
variable (bo:Nat→Bool) (ks:Nat→List Nat)
inductive Pt:Nat→Nat→Prop
  |one {a b:Nat} (h:Stp bo ks b a):Pt a b
  |more {a b c:Nat} (h:Pt a b) (k:Stp bo ks c b):Pt a c
theorem Pt.head {a b:Nat} (h:Pt bo ks a b):∃ k,Stp bo ks k a∧(k=b∨Pt bo ks k b):=by
 induction h with
 |one h=>exact⟨_,h, .inl rfl⟩
 |more h k ih=>
  obtain⟨x,h1,h2⟩:=ih
  refine⟨x,h1, .inr ?_⟩
  rcases h2 with rfl|h2
  ·exact .one k
  ·exact .more h2 k
theorem c02 {i:Nat} (h:Fin bo ks i):¬ Pt bo ks i i:=by
 induction h with
 |intro i _ ih=>
  intro hp
  obtain⟨k,h1,h2⟩:=hp.head
  refine ih k h1 ?_
  rcases h2 with rfl|h2
  ·exact .one h1
  ·exact .more h2 h1
theorem b5v (n:Nat) (hk:∀ i,i<n→∀ k∈ks i,k<n) (hA:∀ j,j<n→Fin bo ks j):∀ (f:Nat) (st:List Int) (i:Nat),st.length=n→i<n→zer st<f→(∀ j,j<n→st.getD j 0=0∨st.getD j 0=1∨st.getD j 0=2)→
  (∀ o,st.getD o 0=1→Pt bo ks o i)→(dfs bo ks f st i).1=true
 |0,st,i,hl,hi,hz,hv,ho=>by omega
 |f+1,st,i,hl,hi,hz,hv,ho=>by
  have hlt:∀ (st:List Int),st.length=n→∀ j,st.getD j 0=2→j<n:=fun st hl j hj=>by
   by_cases h:j<st.length
   ·omega
   ·rw[List.getD_eq_getElem?_getD,List.getElem?_eq_none (by omega)] at hj;exact absurd hj (by decide)
  rw[dfs]
  cases hc:!decide (st.getD i 0=0)||!bo i with
  |true=>
   rw[cond_true]
   simp only[Bool.not_eq_true',decide_eq_false_iff_not]
   intro h1
   exact c02 bo ks (hA i hi) (ho i h1)
  |false=>
   rw[cond_false]
   rw[Bool.or_eq_false_iff] at hc
   simp only[Bool.not_eq_false',decide_eq_true_eq] at hc
   obtain⟨h0,hb⟩:=hc
   have hz1:=zer_set st i 1 (by decide) (by omega) h0
   have hgs:=fun j=>b1X st i j 1 (by omega)
   have key:∀ (l:List Nat) (st:List Int),(∀ k∈l,k∈ks i)→st.length=n→zer st<f→(∀ j,j<n→st.getD j 0=0∨st.getD j 0=1∨st.getD j 0=2)→(∀ o,st.getD o 0=1→o=i∨Pt bo ks o i)→
     (lstW (dfs bo ks f) st l).1=true:=by
    intro l
    induction l with
    |nil=>intro st _ _ _ _ _;rfl
    |cons k l ih=>
     intro st hkl hl hz hv ho
     have hks:Stp bo ks k i:=⟨hb,hkl k List.mem_cons_self⟩
     have hkn:k<n:=hk i hi k (hkl k List.mem_cons_self)
     have hd:=b5v n hk hA f st k hl hkn hz hv fun o h1=>by
      rcases ho o h1 with rfl|h2
      ·exact .one hks
      ·exact .more h2 hks
     rw[lstW,hd,cond_true]
     obtain⟨a1,a2,a3⟩:=b1Y bo ks n hk f st k hl hkn hz (fun j hj=>hA j (hlt st hl j hj)) hv hd
     exact ih _ (fun x hx=>hkl x (List.mem_cons_of_mem _ hx)) a1.len (by have:=a1.zer;omega) a3 fun o h1=>ho o ((a1.one o).2 h1)
   have:=key (ks i) (st.set i 1) (fun k h=>h) (by rw[List.length_set];exact hl) (by omega) (fun j hj=>by
    rw[hgs]
    by_cases e:j=i
    ·rw[if_pos e];exact .inr (.inl rfl)
    ·rw[if_neg e];exact hv j hj) fun o h1=>by
     rw[hgs] at h1
     by_cases e:o=i
     ·exact .inl e
     ·rw[if_neg e] at h1;exact .inr (ho o h1)
   rw[this];rfl
theorem b8i (n f:Nat) (hk:∀ i,i<n→∀ k∈ks i,k<n) (hf:n<f):∀ (m i:Nat) (st:List Int),i+m=n→st.length=n→(∀ j,j<n→st.getD j 0=0∨st.getD j 0=1∨st.getD j 0=2)→(∀ j,st.getD j 0=2→Fin bo ks j)→
  (allW bo ks f st i m).1=true→∀ j,i≤j→j<n→Fin bo ks j
 |0,i,st,hi,hl,hv,hF,h=>fun j h1 h2=>by omega
 |m+1,i,st,hi,hl,hv,hF,h=>by
  rw[allW] at h
  cases hd:(dfs bo ks f st i).1 with
  |false=>rw[hd] at h;cases h
  |true=>
   rw[hd,cond_true] at h
   obtain⟨a1,a2,a3⟩:=b1Y bo ks n hk f st i hl (by omega) (by have:=zer_le st;omega) hF hv hd
   intro j h1 h2
   by_cases e:j=i
   ·subst e;exact a2
   ·exact b8i n f hk hf m (i+1) _ (by omega) a1.len a3 (a1.fin hF) h j (by omega) h2
theorem b5w (n f:Nat) (hk:∀ i,i<n→∀ k∈ks i,k<n) (hf:n<f) (hA:∀ j,j<n→Fin bo ks j):∀ (m i:Nat) (st:List Int),i+m=n→st.length=n→(∀ j,j<n→st.getD j 0=0∨st.getD j 0=1∨st.getD j 0=2)→(∀ j,st.getD j 0≠1)→
  (allW bo ks f st i m).1=true
 |0,i,st,hi,hl,hv,ho=>rfl
 |m+1,i,st,hi,hl,hv,ho=>by
  have hz:zer st<f:=by have:=zer_le st;omega
  have hd:=b5v bo ks n hk hA f st i hl (by omega) hz hv fun o h1=>absurd h1 (ho o)
  have hF:∀ j,st.getD j 0=2→Fin bo ks j:=fun j hj=>by
   by_cases h:j<st.length
   ·exact hA j (by omega)
   ·rw[List.getD_eq_getElem?_getD,List.getElem?_eq_none (by omega)] at hj;exact absurd hj (by decide)
  obtain⟨a1,a2,a3⟩:=b1Y bo ks n hk f st i hl (by omega) hz hF hv hd
  rw[allW,hd,cond_true]
  exact b5w n f hk hf hA m (i+1) _ (by omega) a1.len a3 fun j h1=>ho j ((a1.one j).2 h1)
theorem all_iff (n:Nat) (hk:∀ i,i<n→∀ k∈ks i,k<n):(allW bo ks (n+1) (List.replicate n 0) 0 n).1=true↔ ∀ j,j<n→Fin bo ks j:=by
 have hg:∀ j,(List.replicate n (0:Int)).getD j 0=0:=fun j=>by
  rw[List.getD_eq_getElem?_getD,List.getElem?_replicate];split<;>rfl
 constructor
 ·intro h j hj
  exact b8i bo ks n (n+1) hk (Nat.lt_succ_self n) n 0 _ (by omega) (by simp) (fun j _=> .inl (hg j)) (fun j h=>by rw[hg] at h;exact absurd h (by decide)) h j (Nat.zero_le _) hj
 ·intro hA
  exact b5w bo ks n (n+1) hk (Nat.lt_succ_self n) hA n 0 _ (by omega) (by simp) (fun j _=> .inl (hg j)) (fun j h=>by rw[hg] at h;exact absurd h (by decide))
def rdI (d:List Bool) (i:Nat):List Bool:=d.set i (d.getD i false||(!bo i||(ks i).all fun k=>d.getD k false))
def rdA (d:List Bool):Nat→List Bool
  |0=>d
  |i+1=>rdI bo ks (rdA d i) i
def rds (n:Nat):Nat→List Bool→List Bool
  |0,d=>d
  |r+1,d=>rdA bo ks (rds n r d) n
theorem a7h (d:List Bool) (i j:Nat) (v:Bool) (hi:i<d.length):(d.set i v).getD j false=if j=i then v else d.getD j false:=by
  rw[List.getD_eq_getElem?_getD,List.getD_eq_getElem?_getD,List.getElem?_set]
  by_cases h:i=j
  · subst h;simp[hi]
  · simp[h,Ne.symm h]
theorem c2C (n:Nat) (d:List Bool) (hl:d.length=n) (hF:∀ j,d.getD j false=true→Fin bo ks j):∀ i,i≤n→(rdA bo ks d i).length=n∧(∀ j,d.getD j false=true→(rdA bo ks d i).getD j false=true)∧(∀ j,(rdA bo ks d i).getD j false=true→Fin bo ks j)∧
  ∀ j,j<i→(bo j=true→∀ k∈ks j,d.getD k false=true)→(rdA bo ks d i).getD j false=true
 |0,_=>⟨hl,fun j h=>h,hF,fun j h=>by omega⟩
 |i+1,hi=>by
  obtain⟨h1,h2,h3,h4⟩:=c2C n d hl hF i (by omega)
  have hg:=fun j=>a7h (rdA bo ks d i) i j ((rdA bo ks d i).getD i false||(!bo i||(ks i).all fun k=>(rdA bo ks d i).getD k false)) (by omega)
  have hA:((!bo i||(ks i).all fun k=>(rdA bo ks d i).getD k false)=true)↔(bo i=true→∀ k∈ks i,(rdA bo ks d i).getD k false=true):=by
   cases bo i<;>simp
  refine⟨by show ((rdA bo ks d i).set i _).length=n;rw[List.length_set];exact h1,fun j hj=>?_,fun j hj=>?_,fun j hj hkk=>?_⟩
  ·show ((rdA bo ks d i).set i _).getD j false=true
   rw[hg]
   by_cases e:j=i
   ·subst e;rw[if_pos rfl,h2 j hj];rfl
   ·rw[if_neg e];exact h2 j hj
  ·have hj':((rdA bo ks d i).set i ((rdA bo ks d i).getD i false||(!bo i||(ks i).all fun k=>(rdA bo ks d i).getD k false))).getD j false=true:=hj
   rw[hg] at hj'
   by_cases e:j=i
   ·subst e
    rw[if_pos rfl,Bool.or_eq_true] at hj'
    rcases hj' with hj'|hj'
    ·exact h3 j hj'
    ·exact fin_of bo ks fun hb k hk=>h3 k (hA.1 hj' hb k hk)
   ·rw[if_neg e] at hj';exact h3 j hj'
  ·show ((rdA bo ks d i).set i _).getD j false=true
   rw[hg]
   by_cases e:j=i
   ·subst e
    rw[if_pos rfl,hA.2 fun hb k hk=>h2 k (hkk hb k hk),Bool.or_true]
   ·rw[if_neg e];exact h4 j (by omega) hkk
def b35:List Bool→Nat
  |[]=>0
  |b::d=>(bif b then 1 else 0)+b35 d
theorem b4z:∀ d:List Bool,b35 d≤d.length
 |[]=>Nat.le_refl _
 |b::d=>by
  have:=b4z d
  simp only[b35,List.length_cons]
  cases b<;>simp only[cond_true,cond_false]<;>omega
theorem b3e:∀ d:List Bool,b35 d=d.length→∀ j,j<d.length→d.getD j false=true
 |[],h,j,hj=>by simp at hj
 |b::d,h,j,hj=>by
  have hle:=b4z d
  simp only[b35,List.length_cons] at h
  cases b with
  |false=>simp only[cond_false] at h;omega
  |true=>
   simp only[cond_true] at h
   cases j with
   |zero=>rfl
   |succ j=>exact b3e d (by omega) j (by simpa using hj)
theorem a9K:∀ (d e:List Bool),d.length=e.length→(∀ j,d.getD j false=true→e.getD j false=true)→b35 d≤b35 e
 |[],[],_,_=>Nat.le_refl _
 |b::d,c::e,hl,h=>by
  have ih:=a9K d e (by simpa using hl) fun j hj=>h (j+1) hj
  have h0:=h 0
  simp only[b35]
  cases b with
  |false=>simp only[cond_false];omega
  |true=>
   have:c=true:=h0 rfl
   subst this;simp only[cond_true];omega
theorem b8j:∀ (d e:List Bool),d.length=e.length→(∀ j,d.getD j false=true→e.getD j false=true)→(∃ j,d.getD j false=false∧e.getD j false=true)→b35 d<b35 e
 |[],[],_,_,⟨j,_,h⟩=>by simp at h
 |b::d,c::e,hl,h,⟨j,h1,h2⟩=>by
  have hl':d.length=e.length:=by simpa using hl
  have hm:=fun j hj=>h (j+1) hj
  cases j with
  |zero=>
   have e1:b=false:=h1
   have e2:c=true:=h2
   subst e1 e2
   have:=a9K d e hl' hm
   simp only[b35,cond_true,cond_false];omega
  |succ j=>
   have:=b8j d e hl' hm ⟨j,h1,h2⟩
   have h0:=h 0
   simp only[b35]
   cases b with
   |false=>simp only[cond_false];omega
   |true=>
    have:c=true:=h0 rfl
    subst this;simp only[cond_true];omega
theorem c03 (d:List Bool) {i:Nat} (h:Fin bo ks i):d.getD i false=false→∃ j,d.getD j false=false∧(bo j=true→∀ k∈ks j,d.getD k false=true)∧(j=i∨Pt bo ks i j):=by
 induction h with
 |intro i _ ih=>
  intro hi
  by_cases hall:bo i=true→∀ k∈ks i,d.getD k false=true
  ·exact⟨i,hi,hall, .inl rfl⟩
  ·obtain⟨hb,k,hk,hd⟩:bo i=true∧∃ k,k∈ks i∧d.getD k false=false:=by
    refine Classical.byContradiction fun hn=>hall fun hb k hk=>?_
    cases hd:d.getD k false with
    |true=>rfl
    |false=>exact absurd ⟨hb,k,hk,hd⟩ hn
   obtain⟨j,h1,h2,h3⟩:=ih k ⟨hb,hk⟩ hd
   refine⟨j,h1,h2, .inr ?_⟩
   have hs:Stp bo ks k i:=⟨hb,hk⟩
   rcases h3 with rfl|h3
   ·exact .one hs
   ·clear h1 h2
    induction h3 with
    |one h=>exact .more (.one hs) h
    |more h k ih=>exact .more ih k
theorem c70 (n:Nat) (hk:∀ i,i<n→∀ k∈ks i,k<n) {a b:Nat} (h:Pt bo ks a b):a<n→b<n:=by
  induction h with
  |one h=>exact fun ha=>hk _ ha _ h.2
  |more h k ih=>exact fun ha=>hk _ (ih ha) _ k.2
theorem c2D (n:Nat) (hk:∀ i,i<n→∀ k∈ks i,k<n):∀ r,(rds bo ks n r (List.replicate n false)).length=n∧(∀ j,(rds bo ks n r (List.replicate n false)).getD j false=true→Fin bo ks j)∧
  ((∀ j,j<n→Fin bo ks j)→r≤n→r≤b35 (rds bo ks n r (List.replicate n false)))
 |0=>⟨by simp[rds],(fun j h=>by
  have:(List.replicate n false).getD j false=false:=by rw[List.getD_eq_getElem?_getD,List.getElem?_replicate];split<;>rfl
  change (List.replicate n false).getD j false=true at h
  rw[this] at h;exact absurd h (by decide)),fun _ _=>Nat.zero_le _⟩
 |r+1=>by
  obtain⟨h1,h2,h3⟩:=c2D n hk r
  generalize hd:rds bo ks n r (List.replicate n false)=d at h1 h2 h3
  obtain⟨a1,a2,a3,a4⟩:=c2C bo ks n d h1 h2 n (Nat.le_refl _)
  have e:rds bo ks n (r+1) (List.replicate n false)=rdA bo ks d n:=by rw[rds,hd]
  rw[e]
  refine⟨a1,a3,fun hA hr=>?_⟩
  have ih:=h3 hA (by omega)
  by_cases hfull:∀ j,j<n→d.getD j false=true
  ·have:b35 d=d.length:=by
    have all:∀ d:List Bool,(∀ j,j<d.length→d.getD j false=true)→b35 d=d.length:=by
     intro d
     induction d with
     |nil=>intro _;rfl
     |cons b d ih=>
      intro h
      have hb:b=true:=h 0 (by simp)
      have:=ih fun j hj=>h (j+1) (by simpa using hj)
      subst hb
      simp only[b35,cond_true,List.length_cons];omega
    exact all d (by rw[h1];exact hfull)
   have:=a9K d (rdA bo ks d n) (by rw[h1,a1]) a2
   omega
  ·obtain⟨i,hi,hdi⟩:∃ i,i<n∧d.getD i false=false:=by
    refine Classical.byContradiction fun hn=>hfull fun j hj=>?_
    cases hdj:d.getD j false with
    |true=>rfl
    |false=>exact absurd ⟨j,hj,hdj⟩ hn
   obtain⟨j,j1,j2,j3⟩:=c03 bo ks d (hA i hi) hdi
   have hjn:j<n:=by
    rcases j3 with rfl|j3
    ·exact hi
    ·exact c70 bo ks n hk j3 hi
   have:=b8j d (rdA bo ks d n) (by rw[h1,a1]) a2 ⟨j,j1,a4 j hjn j2⟩
   omega
theorem rds_iff (n:Nat) (hk:∀ i,i<n→∀ k∈ks i,k<n):(∀ j,j<n→(rds bo ks n n (List.replicate n false)).getD j false=true)↔ ∀ j,j<n→Fin bo ks j:=by
 obtain⟨h1,h2,h3⟩:=c2D bo ks n hk n
 constructor
 ·exact fun h j hj=>h2 j (h j hj)
 ·intro hA j hj
  have hc:=h3 hA (Nat.le_refl _)
  have hle:=b4z (rds bo ks n n (List.replicate n false))
  exact b3e _ (by omega) j (by omega)
end Go.Gr
namespace Go.Gr
variable (es:Nat→List Nat)
inductive Rch:Nat→Nat→Prop
  |refl (i:Nat):Rch i i
  |step {i j k:Nat} (h:Rch i j) (hk:k∈es j):Rch i k
theorem Rch.trans {i j k:Nat} (h:Rch es i j) (h2:Rch es j k):Rch es i k:=by
  induction h2 with
  |refl=>exact h
  |step _ hk ih=>exact .step ih hk
def lstR (g:List Bool→Nat→List Bool):List Bool→List Nat→List Bool
  |st,[]=>st
  |st,k::l=>lstR g (g st k) l
def dfR:Nat→List Bool→Nat→List Bool
  |0,st,i=>st
  |f+1,st,i=>bif st.getD i false then st else lstR (dfR f) (st.set i true) (es i)
def zeB:List Bool→Nat
  |[]=>0
  |b::l=>(bif b then 0 else 1)+zeB l
theorem zeB_set:∀ (st:List Bool) (i:Nat),i<st.length→st.getD i false=false→zeB (st.set i true)+1=zeB st
 |[],i,hi,h=>by simp at hi
 |b::st,0,hi,h=>by
  have hb:b=false:=h
  subst hb
  simp only[List.set_cons_zero,zeB,cond_true,cond_false];omega
 |b::st,i+1,hi,h=>by
  have:=zeB_set st i (by simpa using hi) h
  simp only[List.set_cons_succ,zeB];omega
theorem zeB_le:∀ st:List Bool,zeB st≤st.length
 |[]=>Nat.le_refl _
 |b::st=>by
  have:=zeB_le st
  simp only[zeB,List.length_cons]
  cases b<;>simp only[cond_true,cond_false]<;>omega
theorem zeB_mono:∀ (a b:List Bool),a.length=b.length→(∀ j,a.getD j false=true→b.getD j false=true)→zeB b≤zeB a
 |[],[],_,_=>Nat.le_refl _
 |x::a,y::b,hl,h=>by
  have:=zeB_mono a b (by simpa using hl) fun j=>h (j+1)
  have h0:=h 0
  simp only[zeB]
  cases x with
  |false=>simp only[cond_false];cases y<;>simp only[cond_true,cond_false]<;>omega
  |true=>
   have:y=true:=h0 rfl
   subst this;simp only[cond_true];omega
structure Gn (st st':List Bool) (src:List Nat):Prop where
  len:st'.length=st.length
  sub:∀ j,st.getD j false=true→st'.getD j false=true
  has:∀ i∈src,st'.getD i false=true
  cls:∀ j,st'.getD j false=true→st.getD j false=false→∀ k∈es j,st'.getD k false=true
  rch:∀ j,st'.getD j false=true→st.getD j false=false→∃ i∈src,Rch es i j
theorem dfR_ok (n:Nat) (hk:∀ i,i<n→∀ k∈es i,k<n):∀ (f:Nat) (st:List Bool) (i:Nat),st.length=n→i<n→zeB st<f→Gn es st (dfR es f st i) [i]
 |0,st,i,hl,hi,hz=>by omega
 |f+1,st,i,hl,hi,hz=>by
  rw[dfR]
  cases h0:st.getD i false with
  |true=>
   rw[cond_true]
   exact⟨rfl,fun j h=>h,fun k hk=>by rw[List.mem_singleton.1 hk];exact h0,(fun j h h'=>absurd (h.symm.trans h') (by decide)),(fun j h h'=>absurd (h.symm.trans h') (by decide))⟩
  |false=>
   rw[cond_false]
   have hz1:=zeB_set st i (by omega) h0
   have hg:=fun j=>a7h st i j true (by omega)
   have key:∀ (l:List Nat) (st:List Bool),(∀ k∈l,k<n)→st.length=n→zeB st<f→Gn es st (lstR (dfR es f) st l) l:=by
    intro l
    induction l with
    |nil=>intro st _ _ _;exact⟨rfl,fun j h=>h,(fun k hk=>by cases hk),(fun j h h'=>absurd (h.symm.trans h') (by decide)),(fun j h h'=>absurd (h.symm.trans h') (by decide))⟩
    |cons k l ih=>
     intro st hkl hl hz
     have a:=dfR_ok n hk f st k hl (hkl k List.mem_cons_self) hz
     have b:=ih (dfR es f st k) (fun x hx=>hkl x (List.mem_cons_of_mem _ hx)) (by rw[a.len];exact hl) (by have:=zeB_mono st _ a.len.symm a.sub;omega)
     rw[lstR]
     refine⟨b.len.trans a.len,fun j h=>b.sub j (a.sub j h),fun x hx=>?_,fun j h h'=>?_,fun j h h'=>?_⟩
     ·rcases List.mem_cons.1 hx with rfl|hx
      ·exact b.sub _ (a.has _ List.mem_cons_self)
      ·exact b.has x hx
     ·cases hm:(dfR es f st k).getD j false with
      |true=>exact fun x hx=>b.sub x (a.cls j hm h' x hx)
      |false=>exact b.cls j h hm
     ·cases hm:(dfR es f st k).getD j false with
      |true=>
       obtain⟨x,hx,hr⟩:=a.rch j hm h'
       exact⟨x,by rw[List.mem_singleton.1 hx];exact List.mem_cons_self,hr⟩
      |false=>
       obtain⟨x,hx,hr⟩:=b.rch j h hm
       exact⟨x,List.mem_cons_of_mem _ hx,hr⟩
   have a:=key (es i) (st.set i true) (hk i hi) (by rw[List.length_set];exact hl) (by omega)
   generalize lstR (dfR es f) (st.set i true) (es i)=s2 at a
   have hi2:s2.getD i false=true:=a.sub i (by rw[hg,if_pos rfl])
   refine⟨by rw[a.len,List.length_set],fun j h=>a.sub j ?_,fun k hk=>by rw[List.mem_singleton.1 hk];exact hi2,fun j h h'=>?_,fun j h h'=>?_⟩
   ·rw[hg];split
    ·rfl
    ·exact h
   ·by_cases e:j=i
    ·subst e;exact a.has
    ·exact a.cls j h (by rw[hg,if_neg e];exact h')
   ·refine⟨i,List.mem_cons_self,?_⟩
    by_cases e:j=i
    ·subst e;exact .refl j
    ·obtain⟨x,hx,hr⟩:=a.rch j h (by rw[hg,if_neg e];exact h')
     exact(Rch.step (.refl i) hx).trans es hr
theorem c6A {st:List Bool} {r:Nat} (h0:st.getD r false=true) (hc:∀ j,st.getD j false=true→∀ k∈es j,st.getD k false=true) (hr:∀ j,st.getD j false=true→Rch es r j) (j:Nat):st.getD j false=true↔Rch es r j:=by
  refine⟨hr j,fun h=>?_⟩
  induction h with
  |refl=>exact h0
  |step _ hk ih=>exact hc _ ih _ hk
theorem dfR_len (n:Nat) (hk:∀ i,i<n→∀ k∈es i,k<n) (r:Nat) (hr:r<n):(dfR es (n+1) (List.replicate n false) r).length=n:=by
  have a:=dfR_ok es n hk (n+1) (List.replicate n false) r (by simp) hr (by have:=zeB_le (List.replicate n false);simp at this;omega)
  rw[a.len];simp
end Go.Gr

