/- A part of the proof: lemmas about the walk of the program and about plain integers and lists. No conditions beyond those that each lemma states. -/
import Derived.Test.YtogponhonjiidaaDoorTx7
import Derived.Test.YtogponhonjiidaaDoorTx10
import Derived.Test.YtogponhonjiidaaDoorTx6
set_option linter.unusedVariables false
set_option linter.unusedSimpArgs false
namespace Go.Sx
variable {P : Program} {n : Nat} {σ : AS} {Q : Exit → AS → Prop}
theorem lookup_of_mem : ∀ {B : Bx} {k : Nat} {r : Res}, (B.map (·.1)).Nodup → (k, r) ∈ B → B.lookup k = some r
 | (q, s) :: B, k, r, hn, h => by
  simp only [List.map_cons, List.nodup_cons] at hn
  rcases List.mem_cons.1 h with e | h
  ·cases e; simp
  ·have hne : (k == q) = false := by
    rw [beq_eq_false_iff_ne]
    exact fun e => hn.1 (by rw [← e]; exact List.mem_map.2 ⟨_, h, rfl⟩)
   rw [List.lookup_cons, hne]
   exact lookup_of_mem hn.2 h
theorem Bx.put_mem {k : Nat} {r r2 : Res} : ∀ {B : Bx}, B.lookup k = some r → (k, r2) ∈ Bx.put k r2 B
 | (q, s) :: B, h => by
  rw [List.lookup_cons] at h
  unfold Bx.put
  cases hq : (k == q) with
  | true =>
   have : q = k := (by simpa using hq : k = q).symm
   subst this
   simp
  | false =>
   rw [hq] at h
   have : (q == k) = false := by rw [beq_eq_false_iff_ne] at hq ⊢; exact fun e => hq e.symm
   simp only [this, cond_false]
   exact List.mem_cons_of_mem _ (Bx.put_mem h)
theorem Bx.put_mem_ne {k : Nat} {r : Res} {x : Nat × Res} (hx : x.1 ≠ k) : ∀ {B : Bx}, x ∈ B → x ∈ Bx.put k r B
 | p :: B, h => by
  unfold Bx.put
  cases hp : (p.1 == k) with
  | true =>
   rcases List.mem_cons.1 h with rfl | h
   ·exact absurd (by simpa using hp) hx
   ·exact List.mem_cons_of_mem _ h
  | false =>
   rcases List.mem_cons.1 h with rfl | h
   ·exact List.mem_cons_self
   ·exact List.mem_cons_of_mem _ (Bx.put_mem_ne hx h)
structure MidC (κ : Kap) (M0 : Mem) (n : Nat) (l : List Oper) (t : Nat → T) (mk : Nat → Option (Nat × Res)) (B0 B1 : Bx) (c : Nat) (env0 : Env) (listed : Array Bool) (a : Act) (w : World) : Prop where
 size : listed.size = l.length
 closed : Closed l listed
 st : ∃ M ν, M0.ext κ M ∧ a.tmps.size = n ∧ a.defers = [] ∧ EnvOk M ν a.tmps (envA l t (xs listed) env0 l.length) ∧ Sat κ M ν (bxX mk (bif xs listed c then B1 else B0) (xs listed) l.length) w ∧ ∀ k, pin ≤ k → ν k = κ.nu k
theorem genCS_sound {κ : Kap} {M0 : Mem} {l : List Oper} {B0 Bf : Bx} {c kb : Nat} {res res2 : Res} {t : Nat → T} {mk : Nat → Option (Nat × Res)} {env0 : Env} {L : Nat} {Q' : Exit → Act → World → Prop}
  (hback : Back l) (hpairs : Pairs l) (hap : Apart mk B0) (hc0 : B0.lookup kb = some res) (hcm : mk c = none) (hcL : c < L) (hB0 : ∀ x ∈ Bf, x ∈ B0) (hB1 : ∀ x ∈ Bf, x ∈ Bx.put kb res2 B0) (hfB0 : ∀ i p, mk i = some p → Bx.fresh p.1 B0 = true ∧ Bx.fresh p.1 (Bx.put kb res2 B0) = true)
  (hturn : ∀ o, l[c]? = some o → dstOk n o = true ∧ o.guard = none ∧ ∀ B2 : Bx, B2.lookup kb = some res → OpE P o (envA l t (fun _ => true) env0 c) B2 (t c) (Bx.put kb res2 B2)) (hro : RowsOnly mk) (hlen : ∀ i p, mk i = some p → i < l.length)
  {oL : Oper} {B' : Bx} (hL : l.length = L + 1) (hoL : l[L]? = some oL) (hdL : dstOk n oL = true) (hgL : oL.guard = none) (hdep : ∀ i, i < L → depB l L i = true) (hopL : OpE P oL (envA l t (fun _ => true) env0 L) (bxX mk (Bx.put kb res2 B0) (fun _ => true) L) (t L) B')
  (hs : ∀ i o, i < L → i ≠ c → l[i]? = some o → OSpecM P n l Bf o (envA l t (fun _ => true) env0 i) (t i) (mk i))
  (hfr : ∀ g k p, mk g = some p → g < k → k < l.length → (t k).fresh p.1 = true ∨ depB l k g = true)
  (hQ : ∀ a w, St κ M0 n ⟨envA l t (fun _ => true) env0 l.length, B'⟩ a w → Q' .normal a w) :
  ∀ (fuel : Nat) (listed : Array Bool) (a : Act) (w : World), cnt l listed = fuel → (MidC κ M0 n l t mk B0 (Bx.put kb res2 B0) c env0 listed a w ∧ listed.getD L false = false) →
   wpAny P .any l.toArray Q' fuel listed a w := by
 have fin : ∀ (fuel : Nat) (listed : Array Bool) (a : Act) (w : World), listed.size = l.length → (∀ i, i < l.length → listed.getD i false = true) → St κ M0 n ⟨envA l t (fun _ => true) env0 l.length, B'⟩ a w → wpAny P .any l.toArray Q' fuel listed a w := by
  intro fuel listed a w hsz hall hst
  cases fuel with
  | zero => exact ⟨ready_none hsz hall, hQ a w hst⟩
  | succ fuel =>
   refine ⟨fun _ => hQ a w hst, fun i hi => ?_⟩
   exfalso
   rw [ready_none hsz hall] at hi
   cases hi
 intro fuel
 induction fuel with
 | zero =>
  intro listed a w hfuel ⟨hm, hxL⟩
  have hall := cnt_zero hfuel L (by omega)
  rw [hxL] at hall; cases hall
 | succ fuel ih =>
  intro listed a w hfuel ⟨hm, hxL⟩
  refine ⟨fun hr => (by have := ready_least hback hm.size hr L (by omega); rw [hxL] at this; cases this), fun i hi => ?_⟩
  obtain ⟨h0, oi, hoi, hall⟩ := mem_ready.1 hi
  have hil : i < l.length := by have := (Array.getElem?_eq_some_iff.1 hoi).1; simpa using this
  have hoi' : l[i]? = some oi := by simpa using hoi
  have hisz : i < listed.size := by rw [hm.size]; exact hil
  have hxi : listed.getD i false = false := by simp [hisz] at h0 ⊢; exact h0
  obtain ⟨M, ν, h1, h2, h3, h4, h7, h8⟩ := hm.st
  have hd : dstOk n oi = true := by
   by_cases hiL : i < L
   ·by_cases hic : i = c
    ·subst hic; exact (hturn oi hoi').1
    ·exact (hs i oi hiL hic hoi').1
   ·have : i = L := by omega
    subst this
    rw [hoL] at hoi'; cases hoi'; exact hdL
  have look : ∀ d, d ∈ oi.looksAt l.toArray → (envA l t (xs listed) env0 l.length).lookup d = (envA l t (fun _ => true) env0 i).lookup d := by
   intro d hdm
   rw [envA_skip l t (xs listed) env0 d i l.length (by omega) ?_, envA_same l t (xs listed) (fun _ => true) env0 d i ?_]
   ·intro j o hj ho hod
    rcases hpairs j i o oi hj ho hoi' with ⟨e', he', hb', hon⟩ | hap
    ·exact hon ▸ hall e' he' hb'
    ·exact absurd hdm ((Oper.apart_spec hap).1 d hod)
   ·intro j o hj hjl ho hod
    by_cases hji : i = j
    ·subst hji; exact hxi
    ·cases hxj : xs listed j with
     | false => rfl
     | true =>
      rcases hpairs i j oi o (by omega) hoi' ho with ⟨e', he', hb', hon⟩ | hap
      ·have := hm.closed j o ho hxj e' he' hb'
       rw [hon, hxi] at this; cases this
      ·exact absurd hdm ((Oper.apart_spec hap).2.2 d hod)
  have hclosed : Closed l (listed.setIfInBounds i true) := by
   intro j oj hj hx e' he' hb'
   by_cases hji : i = j
   ·subst hji
    rw [hoi'] at hj; cases hj
    exact getD_set_true (hall e' he' hb')
   ·rw [getD_set_ne false hji] at hx
    exact getD_set_true (hm.closed j oj hj hx e' he' hb')
  have hcount : cnt l (listed.setIfInBounds i true) = fuel := by
   have := cnt_set hm.size hil hxi; omega
  have after : ∀ (M' : Mem) (ν' : Nu) (v : Value) (w' : World), M.ext κ M' → EnvOk M ν' a.tmps (envA l t (xs listed) env0 l.length) → (t i).rep M' ν' v → Sat κ M' ν' (bxX mk (bif xs (listed.setIfInBounds i true) c then Bx.put kb res2 B0 else B0) (xs (listed.setIfInBounds i true)) l.length) w' → (∀ k, pin ≤ k → ν' k = κ.nu k) →
    MidC κ M0 n l t mk B0 (Bx.put kb res2 B0) c env0 (listed.setIfInBounds i true) (a.put oi.dst v) w' := by
   intro M' ν' v w' hle h4 hr hsat hpin
   refine ⟨by simpa using hm.size, hclosed, M', ν', h1.trans hle, by rw [Act.put_size]; exact h2, by rw [Act.put_defers']; exact h3, ?_, hsat, hpin⟩
   have hput := EnvOk.put (df := a.defers) (h4.mono hle.1) (dst := oi.dst) (v := v) (t := t i) (fun d he => by rw [h2]; exact dstOk_spec hd d he) hr
   intro k u hu
   refine hput k u ?_
   rw [putE_lookup]
   by_cases hk : oi.dst = some k
   ·rw [if_pos hk]
    have e1 := envA_skip l t (xs (listed.setIfInBounds i true)) env0 k (i + 1) l.length (by omega) (fun j o hj hjl ho hod => by
     cases hxj : xs (listed.setIfInBounds i true) j with
     | false => rfl
     | true =>
      have hne : i ≠ j := by omega
      have hxj' : listed.getD j false = true := by rw [← getD_set_ne false hne]; exact hxj
      rcases hpairs i j oi o (by omega) hoi' ho with ⟨e', he', hb', hon⟩ | hap
      ·have := hm.closed j o ho hxj' e' he' hb'
       rw [hon, hxi] at this; cases this
      ·exact absurd hod ((Oper.apart_spec hap).2.1 k hk))
    rw [e1] at hu
    have hself : xs (listed.setIfInBounds i true) i = true := by simp [xs, hisz]
    rw [envA, hself] at hu
    simp only [cond_true, putE_lookup, hoi', Option.bind_some, hk, if_true] at hu
    exact hu
   ·rw [if_neg hk]
    have e2 := envA_same l t (xs (listed.setIfInBounds i true)) (xs listed) env0 k l.length (fun j o hj ho hod => by
     have hne : i ≠ j := fun h => by subst h; rw [hoi'] at ho; cases ho; exact hk hod
     exact getD_set_ne false hne)
    rw [← e2]; exact hu
  have hon : EnvOn M ν a (envA l t (fun _ => true) env0 i) oi := by
   intro d u hdo hu
   refine h4 d u ?_
   rw [look d (looksAt_op hdo)]; exact hu
  have hgd : ∀ g want d u, oi.guard = some (g, want) → (l[g]?).bind (·.dst) = some d → (envA l t (fun _ => true) env0 i).lookup d = some u → u.rep M ν (a.tmps.getD d undef) := by
   intro g want d u hg hgd hu
   refine h4 d u ?_
   rw [look d (looksAt_guard hg hgd)]; exact hu
  have hap1 : Apart mk (Bx.put kb res2 B0) := ⟨hap.1, fun q p hq x hx => (Bx.fresh_spec (j := x.1) (r := x.2) (hfB0 q p hq).2 hx).1⟩
  by_cases hiL : i = L
  ·subst hiL
   rw [hoL] at hoi'; cases hoi'
   have hlist : ∀ j, j < i → listed.getD j false = true := fun j hj => dep_of (hdep j hj) hoL hm.closed (fun e' he' hb' => hall e' he' hb')
   unfold wpOp
   rw [hoi]
   simp only []
   rw [if_pos (by simp [Region.wanted, hgL])]
   left
   have hxc : xs listed c = true := hlist c hcL
   rw [hxc, cond_true] at h7
   have hbx : ∀ x ∈ bxX mk (Bx.put kb res2 B0) (fun _ => true) i, x ∈ bxX mk (Bx.put kb res2 B0) (xs listed) l.length := by
    intro x hx
    rcases mem_bxX.1 hx with h | ⟨j, hj, _, hk⟩
    ·exact mem_bxX.2 (.inl h)
    ·exact mem_bxX.2 (.inr ⟨j, by omega, hlist j hj, hk⟩)
   refine Oper.wp_mono_Q (Oper.wp_mono ?_ (hopL κ M ν a w hon (h7.drop hbx (nodup_bxX hap1 (nodup_B0 h7.nodup) _))))
   rintro a' w' ⟨v, M', rfl, hle, hr, hsat⟩
   have hall' : ∀ j, j < l.length → (listed.setIfInBounds i true).getD j false = true := by
    intro j hj
    by_cases hji : j = i
    ·subst hji; simp [hisz]
    ·exact getD_set_true (hlist j (by omega))
   refine fin _ _ _ _ (by simpa using hm.size) hall' ⟨M', ν, h1.trans hle, by rw [Act.put_size]; exact h2, by rw [Act.put_defers']; exact h3, ?_, hsat, h8⟩
   have hput := EnvOk.put (df := a.defers) (h4.mono hle.1) (dst := oL.dst) (v := v) (t := t i) (fun d he => by rw [h2]; exact dstOk_spec hd d he) hr
   intro k u hu
   refine hput k u ?_
   rw [putE_lookup]
   have e0 : envA l t (fun _ => true) env0 l.length = putE (envA l t (fun _ => true) env0 i) oL.dst (t i) := by
    rw [hL, envA]
    simp only [cond_true, hoL, Option.bind_some]
    try (cases oL.dst <;> rfl)
   have hup : (putE (envA l t (fun _ => true) env0 i) oL.dst (t i)).lookup k = some u := by rw [← e0]; exact hu
   rw [putE_lookup] at hup
   by_cases hk : oL.dst = some k
   ·rw [if_pos hk] at hup ⊢; exact hup
   ·rw [if_neg hk] at hup ⊢
    have e1 : envA l t (xs listed) env0 l.length = envA l t (xs listed) env0 i := by
     rw [hL, envA]
     have : xs listed i = false := hxL
     rw [this]; rfl
    rw [e1, envA_same l t (xs listed) (fun _ => true) env0 k i (fun j o hj _ _ => hlist j hj)]
    exact hup
  have hiL' : i < L := by omega
  have hxL' : (listed.setIfInBounds i true).getD L false = false := by rw [getD_set_ne false (by omega)]; exact hxL
  have hself : xs (listed.setIfInBounds i true) i = true := by simp [xs, hisz]
  have hold : ∀ j, i ≠ j → xs (listed.setIfInBounds i true) j = xs listed j := fun j hj => getD_set_ne false hj
  have h0nd : (B0.map (·.1)).Nodup := by
   have := nodup_B0 h7.nodup
   cases hxc : xs listed c <;> rw [hxc] at this
   ·exact this
   ·rw [cond_true, Bx.put_keys] at this; exact this
  have hapB : ∀ b : Bool, Apart mk (bif b then Bx.put kb res2 B0 else B0) := fun b => by
   cases b
   ·exact hap
   ·exact hap1
  have hnB : ∀ b : Bool, ((bif b then Bx.put kb res2 B0 else B0).map (·.1)).Nodup := fun b => by
   cases b
   ·exact h0nd
   ·rw [cond_true, Bx.put_keys]; exact h0nd
  have hfixB : ∀ b : Bool, ∀ x ∈ Bf, x ∈ (bif b then Bx.put kb res2 B0 else B0) := fun b x hx => by
   cases b
   ·exact hB0 x hx
   ·exact hB1 x hx
  by_cases hic : i = c
  ·subst hic
   have hco : xs listed i = false := hxi
   rw [hco, cond_false] at h7
   obtain ⟨_, hgn, hop⟩ := hturn oi hoi'
   unfold wpOp
   rw [hoi]
   simp only []
   rw [if_pos (by simp [Region.wanted, hgn])]
   left
   have hlk : (bxX mk B0 (xs listed) l.length).lookup kb = some res := lookup_of_mem h7.nodup (mem_bxX.2 (.inl (lookup_box hc0)))
   refine Oper.wp_mono_Q (Oper.wp_mono ?_ (hop _ hlk κ M ν a w hon h7))
   rintro a' w' ⟨v, M', rfl, hle, hr, hsat⟩
   refine ih _ _ _ hcount ⟨after M' ν v w' hle h4 hr ?_ h8, hxL'⟩
   rw [hself, cond_true]
   refine hsat.drop (fun x hx => ?_) (nodup_bxX hap1 (by rw [Bx.put_keys]; exact h0nd) _)
   rcases mem_bxX.1 hx with h | ⟨j, hj, hX, hkj⟩
   ·rcases Bx.mem_put h0nd h with e | ⟨h1, h2⟩
    ·rw [e]; exact Bx.put_mem hlk
    ·exact Bx.put_mem_ne h2 (mem_bxX.2 (.inl h1))
   ·have hne : i ≠ j := fun e => by subst e; rw [hcm] at hkj; cases hkj
    refine Bx.put_mem_ne ?_ (mem_bxX.2 (.inr ⟨j, hj, by rw [← hold j hne]; exact hX, hkj⟩))
    exact fun e => hap.2 j x hkj (kb, res) (lookup_box hc0) e.symm
  have hspec := (hs i oi hiL' hic hoi').2
  have hcc : xs (listed.setIfInBounds i true) c = xs listed c := hold c hic
  have nod : ((bxX mk (bif xs (listed.setIfInBounds i true) c then Bx.put kb res2 B0 else B0) (xs (listed.setIfInBounds i true)) l.length).map (·.1)).Nodup := nodup_bxX (hapB _) (hnB _) _
  have same : mk i = none → ∀ x ∈ bxX mk (bif xs (listed.setIfInBounds i true) c then Bx.put kb res2 B0 else B0) (xs (listed.setIfInBounds i true)) l.length, x ∈ bxX mk (bif xs listed c then Bx.put kb res2 B0 else B0) (xs listed) l.length := by
   intro hk x hx
   rw [hcc] at hx
   rcases mem_bxX.1 hx with h | ⟨j, hj, hX, hkj⟩
   ·exact mem_bxX.2 (.inl h)
   ·have hne : i ≠ j := fun e => by subst e; rw [hk] at hkj; cases hkj
    exact mem_bxX.2 (.inr ⟨j, hj, by rw [← hold j hne]; exact hX, hkj⟩)
  unfold wpOp
  rw [hoi]
  simp only []
  rcases hspec with ⟨hg, ⟨hjn, hop⟩ | ⟨k, r, hjn, hkp, hfk, _, hop⟩⟩ | ⟨hg, ht, hjn⟩
  ·rw [if_pos (wanted_of hg hgd)]
   left
   refine Oper.wp_mono_Q (Oper.wp_mono ?_ (hop κ M ν a w _ (fun x hx => mem_bxX.2 (.inl (hfixB _ x hx))) hon h7))
   rintro a' w' ⟨v, M', rfl, hle, hr, hsat⟩
   exact ih _ _ _ hcount ⟨after M' ν v w' hle h4 hr (hsat.drop (same hjn) nod) h8, hxL'⟩
  ·rw [if_pos (wanted_of hg hgd)]
   left
   have hfB : Bx.fresh k (bxX mk (bif xs listed c then Bx.put kb res2 B0 else B0) (xs listed) l.length) = true := by
    refine bx_fresh_of fun x hx => ?_
    rcases mem_bxX.1 hx with h | ⟨j, hj, hX, hkj⟩
    ·have hff := hfB0 i (k, r) hjn
     cases hxc : xs listed c <;> rw [hxc] at h
     ·exact Bx.fresh_spec (j := x.1) (r := x.2) hff.1 h
     ·exact Bx.fresh_spec (j := x.1) (r := x.2) hff.2 h
    ·have hne : j ≠ i := fun e => by subst e; unfold xs at hX; rw [hxi] at hX; cases hX
     refine ⟨hap.1 j i x _ hkj hjn hne, fun cs e => ?_⟩
     exact hro j x hkj k cs e
   refine Oper.wp_mono_Q (Oper.wp_mono ?_ (hop _ (fun x hx => mem_bxX.2 (.inl (hfixB _ x hx))) hfB κ M ν a w hon h7))
   rintro a' w' ⟨v, M', ν', rfl, hle, hν, hr, hsat⟩
   obtain ⟨hf0, hft⟩ := fresh_envA i hfk
   have hfresh : Env.fresh k (envA l t (xs listed) env0 l.length) = true := by
    refine envA_fresh' hf0 l.length (fun q hq hx hdq => ?_)
    rcases Nat.lt_trichotomy q i with h | h | h
    ·exact hft q h hdq
    ·subst h; unfold xs at hx; rw [hxi] at hx; cases hx
    ·rcases hfr i q _ hjn h hq with h' | h'
     ·exact h'
     ·exfalso
      have := dep_of h' (List.getElem?_eq_getElem hq) hm.closed (fun e' he' hb' => hm.closed q l[q] (List.getElem?_eq_getElem hq) hx e' he' hb')
      rw [hxi] at this; cases this
   refine ih _ _ _ hcount ⟨after M' ν' v w' hle (h4.fresh hfresh hν) hr (hsat.drop ?_ nod) (fun q hq => by rw [hν q (by omega)]; exact h8 q hq), hxL'⟩
   intro x hx
   rw [hcc] at hx
   rcases mem_bxX.1 hx with h | ⟨j, hj, hX, hkj⟩
   ·exact List.mem_cons_of_mem _ (mem_bxX.2 (.inl h))
   ·by_cases hne : i = j
    ·subst hne; rw [hjn] at hkj; cases hkj; exact List.mem_cons_self
    ·exact List.mem_cons_of_mem _ (mem_bxX.2 (.inr ⟨j, hj, by rw [← hold j hne]; exact hX, hkj⟩))
  ·rw [unwanted_of hg hgd]
   simp only [Bool.false_eq_true, if_false]
   refine ih _ _ _ hcount ⟨after M ν undef w (Mem.ext.refl κ M) h4 (by rw [ht]; simp [undefT, T.rep, Cell.rep, C.rep]) (h7.drop (same hjn) nod) h8, hxL'⟩
theorem parM_trace (all : List Oper) (Bf : Bx) (K : Env → Prop) : ∀ (l : List Oper) (env : Env), dstsOk n l = true → parVC P all Bf l env K →
  ∃ t : Nat → T, (∀ i o, l[i]? = some o → OSpecM P n all Bf o (envA l t (fun _ => true) env i) (t i) none) ∧ K (envA l t (fun _ => true) env l.length)
 | [], env, _, h => ⟨fun _ => undefT, fun i o ho => by simp at ho, h⟩
 | o :: os, env, hd, h => by
  simp only [dstsOk, List.all_cons, Bool.and_eq_true] at hd
  obtain ⟨⟨hd1, hd2⟩, hd3⟩ := hd
  have step : ∃ t0 : T, OSpecM P n all Bf o env t0 none ∧ parVC P all Bf os (putE env o.dst t0) K := by
   rcases guardT_true h with ⟨hg, hx⟩ | ⟨hg, hx⟩
   ·obtain ⟨t, hop, h2⟩ := pureVC_sound hx
    exact ⟨t, ⟨hd1, .inl ⟨hg, .inl ⟨rfl, hop⟩⟩⟩, h2⟩
   ·exact ⟨undefT, ⟨hd1, .inr ⟨hg, rfl, rfl⟩⟩, hx⟩
  obtain ⟨t0, hspec, hk⟩ := step
  obtain ⟨t, hs, hK⟩ := parM_trace all Bf K os _ hd3 hk
  refine ⟨fun i => match i with | 0 => t0 | i + 1 => t i, ?_, ?_⟩
  ·intro i o' ho
   cases i with
   | zero => simp at ho; subst ho; exact hspec
   | succ i => rw [envA_cons]; exact hs i o' (by simpa using ho)
  ·rw [List.length_cons, envA_cons]; exact hK
/-- no name stands in the box -/
def Res.flatB : Res → Bool
 | .cells cs => Cell.allInP (fun _ => false) cs
 | .row _ _ => true
 | .mp _ _ => true
mutual
theorem Cell.fresh_flat (j : Nat) : ∀ c : Cell, c.inP (fun _ => false) = true → c.fresh j = true
 | .dat _, _ => rfl
 | .ref _, _ => rfl
 | .ptr _ _, h => by simp [Cell.inP] at h
 | .own _ _, h => by simp [Cell.inP] at h
 | .rp _ _ _ _, h => by simp [Cell.inP] at h
 | .arr _ _, h => by simp [Cell.inP] at h
 | .mp _, h => by simp [Cell.inP] at h
 | .clo f caps, h => by
  simp only [Cell.inP] at h
  simp only [Cell.fresh]
  exact Cell.freshs_flat j caps h
theorem Cell.freshs_flat (j : Nat) : ∀ cs : List Cell, Cell.allInP (fun _ => false) cs = true → Cell.freshs j cs = true
 | [], _ => rfl
 | c :: cs, h => by
  simp only [Cell.allInP, Bool.and_eq_true] at h
  simp only [Cell.freshs, Bool.and_eq_true]
  exact ⟨Cell.fresh_flat j c h.1, Cell.freshs_flat j cs h.2⟩
end
theorem Bx.fresh_unput {j k : Nat} {res res2 : Res} {B : Bx} (hn : (B.map (·.1)).Nodup) (h : Bx.fresh j (Bx.put k res2 B) = true) (hl : B.lookup k = some res) (hf : res.flatB = true) : Bx.fresh j B = true := by
 refine bx_fresh_of fun x hx => ?_
 by_cases hk : x.1 = k
 ·have e : B.lookup k = some x.2 := lookup_of_mem hn (by rw [← hk]; exact hx)
  rw [hl] at e
  cases e
  have h1 := Bx.fresh_spec h (Bx.put_mem hl)
  refine ⟨by rw [hk]; exact h1.1, fun cs e => ?_⟩
  rw [e] at hf
  exact Cell.freshs_flat j cs hf
 ·exact Bx.fresh_spec (j := x.1) (r := x.2) h (Bx.put_mem_ne hk hx)
/-- what is to be shown of a call that turns a box -/
def turnVC (P : Program) (o : Oper) (env : Env) (B : Bx) (K : T → Bx → Prop) : Prop :=
 match o.op with
 | .call { callee := .value f, args := args, argTypes := ts } =>
  match calleeT (ev P env 0 f), evs P env args.toList ts.toList with
  | some (g, caps), some us => ∃ k res r res', PCBk P g (us ++ caps) k res r res' ∧ B.lookup k = some res ∧ res.flatB = true ∧ K r (Bx.put k res' B)
  | _, _ => False
 | _ => False
theorem turnVC_sound {o : Oper} {env : Env} {B : Bx} {K : T → Bx → Prop} (h : turnVC P o env B K) :
  ∃ k res t res', B.lookup k = some res ∧ res.flatB = true ∧ K t (Bx.put k res' B) ∧ ∀ B2 : Bx, B2.lookup k = some res → OpE P o env B2 t (Bx.put k res' B2) := by
 unfold turnVC at h
 split at h
 ·rename_i f args ts ho
  split at h
  ·rename_i g caps us hf hu
   obtain ⟨k, res, r, res', hpc, hb, hfl, hK⟩ := h
   refine ⟨k, res, r, res', hb, hfl, hK, fun B2 hb2 => ?_⟩
   obtain ⟨u, B', hop, _, rfl, rfl⟩ := vCall1_sound (B := B2) (args := args.toList) (K := fun u B' => u = r ∧ B' = Bx.put k res' B2) (by rw [ho]) hf hu ⟨k, res, r, res', hpc, hb2, rfl, rfl⟩
   exact hop
  ·exact h.elim
 ·exact h.elim
def genVCC (P : Program) (l : List Oper) (es : List Nat) (c m : Nat) (Bf : Bx) (env : Env) (B : Bx) (K : Env → Bx → Prop) : Prop :=
 parVC P l Bf (l.take c) env fun env1 => match l.drop c with
  | o :: os => turnVC P o env1 B fun t B1 => bxSub B1 Bf ∧ genVCM P l es Bf (c + 1) [] (os.take (m - (c + 1))) (putE env1 o.dst t) B1 fun env2 B2 => lastVC P (l.drop m) env2 B2 K
  | [] => False
def genCOk (n : Nat) (l : List Oper) (c m : Nat) : Bool := genMSOk n l m && (Nat.blt c m && (match l[c]? with | some o => o.guard.isNone | none => false))
/-- THE RULE: the call c turns a box; es: the operations that make rows or boxes, behind it in the text; the last operation, that waits for all others, stores -/
theorem AWP.genC {id : Nat} {l : List Oper} {env : Env} {B : Bx} (c : Nat) (es : List Nat) (m : Nat) (ks : List Nat) (hm : P.follows .mixedOrders = true) (hl : genCOk n l c m = true)
  (h : ∀ K : Env → Bx → Prop, (∀ e b, Q .normal ⟨e, b⟩ → K e b) → genVCC P l es c m (Bx.outs B ks) env B K) : AWP P n (.region id l.toArray true) ⟨env, B⟩ Q := by
 simp only [genCOk, genMSOk, genMOk, Bool.and_eq_true, beq_iff_eq] at hl
 obtain ⟨⟨⟨hlex, hds⟩, hlen1, hdep, hgd⟩, hcm, hgc⟩ := hl
 have hcm : c < m := Nat.le_of_ble_eq_true hcm
 have hlt : m < l.length := by omega
 obtain ⟨oL, hoL⟩ : ∃ o, l[m]? = some o := ⟨l[m], by simp [hlt]⟩
 obtain ⟨oC, hoC⟩ : ∃ o, l[c]? = some o := ⟨l[c]'(by omega), by simp [show c < l.length by omega]⟩
 rw [hoL] at hgd
 rw [hoC] at hgc
 have hgL : oL.guard = none := by simpa using hgd
 have hgC : oC.guard = none := by simpa using hgc
 have hdst : ∀ i o, l[i]? = some o → dstOk n o = true ∧ Nat.blt (dstN o) pin = true := fun i o ho => by
  have := List.all_eq_true.1 hds o (List.mem_of_getElem? ho)
  simpa [Bool.and_eq_true] using this
 have hsub : ∀ l' : List Oper, (∀ x ∈ l', x ∈ l) → dstsOk n l' = true := fun l' hs => List.all_eq_true.2 fun x hx => List.all_eq_true.1 hds x (hs x hx)
 have hdropm : l.drop m = [oL] := by
  rw [List.drop_eq_getElem_cons hlt, List.drop_eq_nil_of_le (by omega)]
  have := List.getElem?_eq_getElem hlt
  rw [hoL] at this
  rw [Option.some.inj this]
 have hdropc : l.drop c = oC :: l.drop (c + 1) := by
  rw [List.drop_eq_getElem_cons (by omega)]
  have := List.getElem?_eq_getElem (show c < l.length by omega)
  rw [hoC] at this
  rw [Option.some.inj this]
 intro κ M0 a w hs
 have hBn : (B.map (·.1)).Nodup := by obtain ⟨M, ν, _, _, _, _, h7, _⟩ := hs; exact h7.nodup
 obtain ⟨hback, hpairs, _⟩ := lex_pairs hlex
 have hv := h (fun e b => Q .normal ⟨e, b⟩) (fun _ _ k => k)
 unfold genVCC at hv
 obtain ⟨t1, hs1, hK1⟩ := parM_trace l _ _ (l.take c) env (hsub _ fun x hx => List.mem_of_mem_take hx) hv
 rw [hdropc] at hK1
 simp only [List.length_take, show min c l.length = c by omega] at hK1
 obtain ⟨kb, res, tc, res2, hlk, hflat, ⟨hb1, hv2⟩, hop⟩ := turnVC_sound hK1
 have hB1f : ∀ x ∈ Bx.outs B ks, x ∈ Bx.put kb res2 B := bxSub_spec hb1
 obtain ⟨t2, mk2, hs2, hlen2, hro2, hfb2, hdis2, _, hjj2, hK2⟩ := genM_trace l es (Bx.outs B ks) _ ((l.drop (c + 1)).take (m - (c + 1))) (c + 1) [] _ _ (hsub _ fun x hx => List.mem_of_mem_drop (List.mem_of_mem_take hx)) hB1f hv2
 have hl2 : ((l.drop (c + 1)).take (m - (c + 1))).length = m - (c + 1) := by simp; omega
 rw [hl2] at hlen2 hjj2 hK2
 rw [hdropm] at hK2
 let t : Nat → T := fun i => if i < c then t1 i else if i = c then tc else if i < m then t2 (i - (c + 1)) else undefT
 let mk : Nat → Option (Nat × Res) := fun i => if c < i then mk2 (i - (c + 1)) else none
 have e1 : ∀ i, i ≤ c → envA l t (fun _ => true) env i = envA (l.take c) t1 (fun _ => true) env i := by
  intro i
  induction i with
  | zero => intro _; rfl
  | succ i ih =>
   intro hi
   rw [envA, envA, ih (by omega), List.getElem?_take_of_lt (by omega)]
   simp only [t, show i < c by omega, if_true]
 have ec : envA l t (fun _ => true) env (c + 1) = putE (envA (l.take c) t1 (fun _ => true) env c) oC.dst tc := by
  rw [envA, e1 c (Nat.le_refl _), hoC]
  simp only [cond_true, Option.bind_some, t, Nat.lt_irrefl, if_false, if_true]
 have e2 : ∀ i, c + 1 + i ≤ m → envA l t (fun _ => true) env (c + 1 + i) = envA ((l.drop (c + 1)).take (m - (c + 1))) t2 (fun _ => true) (putE (envA (l.take c) t1 (fun _ => true) env c) oC.dst tc) i := by
  intro i
  induction i with
  | zero => intro _; exact ec
  | succ i ih =>
   intro hi
   rw [show c + 1 + (i + 1) = (c + 1 + i) + 1 by omega, envA, envA, ih (by omega), List.getElem?_take_of_lt (by omega), List.getElem?_drop]
   simp only [t, show ¬ (c + 1 + i < c) by omega, show ¬ (c + 1 + i = c) by omega, show c + 1 + i < m by omega, if_false, if_true, show c + 1 + i - (c + 1) = i by omega]
 have em := e2 (m - (c + 1)) (by omega)
 rw [show c + 1 + (m - (c + 1)) = m by omega] at em
 have htm : t m = undefT := by simp only [t, show ¬ (m < c) by omega, show ¬ (m = c) by omega, Nat.lt_irrefl, if_false]
 have hbx : ∀ q, bxX mk (Bx.put kb res2 B) (fun _ => true) (c + 1 + q) = bxX mk2 (Bx.put kb res2 B) (fun _ => true) q := by
  intro q
  induction q with
  | zero =>
   have : ∀ q, q ≤ c + 1 → bxX mk (Bx.put kb res2 B) (fun _ => true) q = Bx.put kb res2 B := by
    intro q
    induction q with
    | zero => intro _; rfl
    | succ q ih =>
     intro hq
     rw [bxX, ih (by omega)]
     simp only [mk, show ¬ (c < q) by omega, if_false]
   exact this _ (Nat.le_refl _)
  | succ q ih =>
   rw [show c + 1 + (q + 1) = (c + 1 + q) + 1 by omega, bxX, bxX, ih]
   simp only [mk, show c < c + 1 + q by omega, if_true, show c + 1 + q - (c + 1) = q by omega]
 have hbm := hbx (m - (c + 1))
 rw [show c + 1 + (m - (c + 1)) = m by omega] at hbm
 rw [← em, ← hbm] at hK2
 obtain ⟨B', hopL, hKB⟩ : ∃ B', OpE P oL (envA l t (fun _ => true) env m) (bxX mk (Bx.put kb res2 B) (fun _ => true) m) undefT B' ∧ Q .normal ⟨putE (envA l t (fun _ => true) env m) oL.dst undefT, B'⟩ := by
  simp only [lastVC] at hK2
  split at hK2
  ·rename_i ho
   exact vStore_sound ho hK2
  ·exact hK2.elim
 have hmkS : ∀ i p, mk i = some p → c < i ∧ i < m ∧ mk2 (i - (c + 1)) = some p := by
  intro i p hp
  by_cases hci : c < i
  ·simp only [mk, hci, if_true] at hp
   have := hlen2 _ p hp
   exact ⟨hci, by omega, hp⟩
  ·simp only [mk, hci, if_false] at hp; cases hp
 have hfr1 : ∀ i p, mk i = some p → Bx.fresh p.1 (Bx.put kb res2 B) = true := fun i p hp => hfb2 _ p (hmkS i p hp).2.2
 have hfr0 : ∀ i p, mk i = some p → Bx.fresh p.1 B = true := fun i p hp => Bx.fresh_unput hBn (hfr1 i p hp) hlk hflat
 refine wp_region_any hm ?_
 have hsz : l.toArray.size = l.length := by simp
 rw [hsz]
 have hrep : ∀ j, (Array.replicate l.length false).getD j false = false := fun j => rep_getD _ j
 have hxs : ∀ j, xs (Array.replicate l.length false) j = false := fun j => rep_getD _ j
 have hend : envA l t (fun _ => true) env l.length = putE (envA l t (fun _ => true) env m) oL.dst undefT := by
  rw [hlen1, envA]
  simp only [cond_true, hoL, Option.bind_some, htm]
 refine genCS_sound (κ := κ) (M0 := M0) (t := t) (mk := mk) (B0 := B) (Bf := Bx.outs B ks) (c := c) (kb := kb) (res := res) (res2 := res2) (env0 := env) (L := m) (oL := oL) (B' := B') hback hpairs
  ⟨fun i j p q hp hq hij => ?_, fun i p hp x hx => (Bx.fresh_spec (j := x.1) (r := x.2) (hfr0 i p hp) hx).1⟩ hlk (by simp only [mk, Nat.lt_irrefl, if_false]) hcm (fun x hx => Bx.outs_sub hx) hB1f (fun i p hp => ⟨hfr0 i p hp, hfr1 i p hp⟩) (fun o ho => ?_)
  (fun i p hp => hro2 _ p (hmkS i p hp).2.2) (fun i p hp => by have := hmkS i p hp; omega) hlen1 hoL (hdst m oL hoL).1 hgL (fun i hi => List.all_eq_true.1 hdep i (List.mem_range.2 hi)) ?_ ?_ ?_ (fun a w s => ?_) l.length _ a _ ?_ ?_
 ·have h1 := hmkS i p hp
  have h2 := hmkS j q hq
  exact hdis2 _ _ p q h1.2.2 h2.2.2 (by omega)
 ·rw [hoC] at ho; cases ho
  refine ⟨(hdst c oC hoC).1, hgC, fun B2 hb2 => ?_⟩
  rw [e1 c (Nat.le_refl _)]
  have : t c = tc := by simp only [t, Nat.lt_irrefl, if_false, if_true]
  rw [this]
  exact hop B2 hb2
 ·rw [htm]; exact hopL
 ·intro i o hi hic ho
  by_cases hci : i < c
  ·rw [e1 i (by omega)]
   have h1 := hs1 i o (by rw [List.getElem?_take_of_lt hci]; exact ho)
   have : t i = t1 i := by simp only [t, hci, if_true]
   have hm0 : mk i = none := by simp only [mk, show ¬ (c < i) by omega, if_false]
   rw [this, hm0]; exact h1
  ·have hq : c + 1 + (i - (c + 1)) = i := by omega
   have he := e2 (i - (c + 1)) (by omega)
   rw [hq] at he
   have h1 := hs2 (i - (c + 1)) o (by rw [List.getElem?_take_of_lt (by omega), List.getElem?_drop, hq]; exact ho)
   have : t i = t2 (i - (c + 1)) := by simp only [t, hci, hic, hi, if_false, if_true]
   have hm0 : mk i = mk2 (i - (c + 1)) := by simp only [mk, show c < i by omega, if_true]
   rw [this, hm0, he]; exact h1
 ·intro g k p hg hgk hk
  obtain ⟨h1, h2, h3⟩ := hmkS g p hg
  by_cases hkm : k < m
  ·have := hjj2 (g - (c + 1)) (k - (c + 1)) p h3 (by omega) (by omega)
   have htk : t k = t2 (k - (c + 1)) := by simp only [t, show ¬ (k < c) by omega, show ¬ (k = c) by omega, hkm, if_false, if_true]
   rw [htk]
   rw [show c + 1 + (k - (c + 1)) = k by omega, show c + 1 + (g - (c + 1)) = g by omega] at this
   exact this
  ·left
   have : t k = undefT := by simp only [t, show ¬ (k < c) by omega, show ¬ (k = c) by omega, hkm, if_false]
   rw [this]; rfl
 ·rw [hend] at s
  exact ⟨_, s, hKB⟩
 ·unfold cnt
  have hfil : (List.range l.length).filter (fun i => !(Array.replicate l.length false).getD i false) = List.range l.length := by
   rw [List.filter_eq_self]
   intro x _
   simp only [hrep x, Bool.not_false]
  rw [hfil, List.length_range]
 ·have hst := mid_start (σ := ⟨env, B⟩) (l := l) (t := t) (b := fun _ => B) (e := fun _ => false) rfl hs
  obtain ⟨M, ν, _, h1, h2, h3, h4, _, _, h7, h8⟩ := hst.st
  have hbx0 : ∀ q, bxX mk B (xs (Array.replicate l.length false)) q = B := by
   intro q
   induction q with
   | zero => rfl
   | succ q ih => unfold bxX; rw [hxs q]; simp only [ih]
  exact ⟨⟨hst.size, hst.closed, M, ν, h1, h2, h3, h4, by rw [hxs c, cond_false, hbx0]; exact h7, h8⟩, hrep m⟩
attribute [go_sem] turnVC Res.flatB Cell.allInP Cell.inP
end Go.Sx
set_option linter.unusedSimpArgs false
set_option linter.unusedVariables false
set_option maxRecDepth 20000
set_option maxHeartbeats 16000000
namespace Go.Proofs.YtogponhonjiidaaDoor
open Go Go.Sx
open Nat renaming reduceBEq → zA, reduceBNe → zB, reduceAdd → zC, reduceSub → zD, reduceMul → zE, reduceLeDiff → zF, reduceLT → zG, reduceEqDiff → zH
open Int renaming reduceToNat → zI, reduceLE → zJ, reduceLT → zK, reduceEq → zL
open Bool renaming not_eq_true' → zM, not_eq_false' → zN
def fghL : List (List UInt8) := [[102], [103], [104]]
def parN : Nat → List Int × Gn → List Int × Gn
 | 0, r => r
 | k + 1, r => parN k (r.1 ++ [drawV r.2.s 8], nxt r.2 8)
def calN (mod : List UInt8) (i : Nat) (g : Gn) : CalD × Gn :=
 (⟨mod, fghL.getD i [], (parN (drawV (nxt g 8).s 3).toNat ([], nxt (nxt g 8) 3)).1, drawV g.s 8⟩, (parN (drawV (nxt g 8).s 3).toNat ([], nxt (nxt g 8) 3)).2)
def calsAt (mod : List UInt8) (g : Gn) : Nat → List CalD × Gn
 | 0 => ([], g)
 | i + 1 => ((calsAt mod g i).1 ++ [(calN mod i (calsAt mod g i).2).1], (calN mod i (calsAt mod g i).2).2)
theorem parN_fine : ∀ (k : Nat) (r : List Int × Gn), r.2.s.ok → (∀ p ∈ r.1, 0 ≤ p ∧ p < 8) → (parN k r).2.s.ok ∧ (∀ p ∈ (parN k r).1, 0 ≤ p ∧ p < 8) ∧ (parN k r).1.length = r.1.length + k
 | 0, r, h, hp => ⟨h, hp, rfl⟩
 | k + 1, r, h, hp => by
  have ih := parN_fine k (r.1 ++ [drawV r.2.s 8], nxt r.2 8) (ok_nxt h 8) (fun p hm => by
   rcases List.mem_append.1 hm with hm | hm
   ·exact hp p hm
   ·rw [List.mem_singleton.1 hm]; exact drawV_in r.2.s (n := 8) (by omega))
  refine ⟨ih.1, ih.2.1, ?_⟩
  have := ih.2.2
  simp only [List.length_append, List.length_cons, List.length_nil] at this
  simp only [parN]; omega
theorem calN_fine (mod : List UInt8) (hm : mod.length ≤ 100) (i : Nat) (hi : i < 3) (g : Gn) (hg : g.s.ok) : (calN mod i g).2.s.ok ∧ CalOk (calN mod i g).1 ∧ HdOk (calN mod i g).1 := by
 have hv := drawV_in (nxt g 8).s (n := 3) (by omega)
 have h := parN_fine (drawV (nxt g 8).s 3).toNat ([], nxt (nxt g 8) 3) (ok_nxt (ok_nxt hg 8) 3) (fun p hp => by cases hp)
 have hn : (fghL.getD i []).length ≤ 100 := by
  have : ∀ i, i < 3 → (fghL.getD i []).length ≤ 100 := by decide
  exact this i hi
 refine ⟨h.1, ⟨hm, hn, ?_⟩, drawV_in g.s (n := 8) (by omega), h.2.1⟩
 have := h.2.2
 simp only [List.length_nil] at this
 simp only [calN]; omega
theorem calsAt_fine (mod : List UInt8) (hm : mod.length ≤ 100) (g : Gn) (hg : g.s.ok) : ∀ i, i ≤ 3 → (calsAt mod g i).2.s.ok ∧ (calsAt mod g i).1.length = i ∧ ∀ d ∈ (calsAt mod g i).1, CalOk d ∧ HdOk d
 | 0, _ => ⟨hg, rfl, fun d hd => by cases hd⟩
 | i + 1, hi => by
  have ih := calsAt_fine mod hm g hg i (by omega)
  have h := calN_fine mod hm i (by omega) _ ih.1
  refine ⟨h.1, by simp only [calsAt, List.length_append, List.length_cons, List.length_nil]; omega, fun d hd => ?_⟩
  rcases List.mem_append.1 hd with hd | hd
  ·exact ih.2.2 d hd
  ·rw [List.mem_singleton.1 hd]; exact h.2
theorem int_snoc (l : List Int) (n : Int) : l.map encZ ++ [[C.int .i64 n]] = (l ++ [n]).map encZ := by rw [List.map_append]; rfl
theorem callees_c (c : Cst) (g : Gn) (hg : g.s.ok) (mod : List UInt8) (hm : mod.length ≤ 100) (n : Nat) (hn : n ≤ 3) : PCB Tryd.prog 31 [Sp 1000000, S mod, I .i64 (n : Int)] (gB c g) (.one (.dat (.sl 4 ((calsAt mod g n).1.map encCal)))) (gB c (calsAt mod g n).2) := by
 have hmax : 1000000 ≤ maxLen := by unfold maxLen; omega
 have hca := calsAt_fine mod hm g hg
 refine PCB.of_body Tryd.func31 rfl (by decide) Tryd.ntmps31 Tryd.results31 rfl rfl rfl ?_ rfl rfl
 repeat' (first | (simp only [go_sem, zA, zB, zC, zD, zE, zF, zG, reduceCtorEq, zH, zI, zJ, zK, zL, List.length_map]; all_goals fail_if_success guard_target =ₛ False) | (with_reducible first | ((first | refine seqVC_stepN rfl ?_ | refine AWP.seq ?_ | refine AWP.seqR (by kernel_rfl) ?_ | refine parVC_stepN rfl ?_ | refine parEVC_stepN rfl ?_ | refine genVC_stepN rfl ?_); intro K hK) | ((first | refine hK _ _ _ ?_ | refine hK _ _ ?_ | refine hK _ ?_); clear hK K) | refine seqVC_nil ?_ | refine parVC_nil ?_ | refine parEVC_nil ?_ | refine genVC_nil ?_ | refine AWP.block ?_ | (refine AWP.cond (by with_unfolding_all rfl) ?_ ?_ <;> intro h <;> (try simp only [zM, zN] at h) <;> try exact absurd h (by decide)) | refine AWP.skip ?_ | refine AWP.ret ?_ | refine AWP.exit ?_ | (refine AWP.segP (id := 5) 11 mixed (by kernel_rfl) fun K hK => ?_; simp only [List.take_succ_cons, List.take_zero, List.drop_succ_cons, List.drop_zero]) | (refine AWP.segP (id := 9) 8 mixed (by kernel_rfl) fun K hK => ?_; simp only [List.take_succ_cons, List.take_zero, List.drop_succ_cons, List.drop_zero]) | refine AWP.parR mixed (by kernel_rfl) fun K hK => ?_ | refine ⟨(by kernel_rfl : depB _ _ _ = true), ?_⟩ | refine Or.inl ?_) | (clear hK K))
 refine AWP.gh (Gh.nilrow 7 900 rfl rfl rfl (by simp [Bx.fresh, Cell.freshs, Cell.fresh])) ?_
 refine AWP.loopF (X := Nat) (fun i => [(7, .one (.own 900 i)), (8, I .i64 (i : Int))]) (fun i => [(900, .row 4 ((calsAt mod g i).1.map encCal)), (1000000, mkB c (calsAt mod g i).2), (1000001, srcB (calsAt mod g i).2.s)]) [0, 1, 2] [] (fun i => i ≤ n) (fun i => n - i) (0) (by simp only [go_sem, zA, zB, zC, zD, zE, zF, zG, reduceCtorEq, zH, zI, zJ, zK, zL]; exact Gh.to [] (by repeat (first | exact trivial | refine ⟨rfl, ?_⟩ | refine ⟨by (simp only [go_sem, zA, zB, zC, zD, zE, zF, zG, reduceCtorEq, zH, zI, zJ, zK, zL, List.length_append, List.length_map, List.length_cons, List.length_nil, Nat.zero_add]) <;> rfl, ?_⟩)) (by repeat (first | exact trivial | refine ⟨rfl, ?_⟩ | refine ⟨by (simp only [go_sem, zA, zB, zC, zD, zE, zF, zG, reduceCtorEq, zH, zI, zJ, zK, zL, List.length_append, List.length_map, List.length_cons, List.length_nil, Nat.zero_add]) <;> rfl, ?_⟩)) rfl rfl rfl) ?_ ?_
 ·exact Nat.zero_le _
 rintro i hi
 simp only [go_sem, zA, zB, zC, zD, zE, zF, zG, reduceCtorEq, zH, zI, zJ, zK, zL]
 by_cases hlt : i < n
 ·have hd : decide ((i : Int) < (n : Int)) = true := by rw [decide_eq_true_eq]; omega
  have hok := (hca i (by omega)).1
  have hli := (hca i (by omega)).2.1
  have hsuc : calsAt mod g (i + 1) = ((calsAt mod g i).1 ++ [(calN mod i (calsAt mod g i).2).1], (calN mod i (calsAt mod g i).2).2) := rfl
  generalize calsAt mod g i = r at *
  obtain ⟨l, g1⟩ := r
  simp only at hok hli hsuc
  have hwi : IntKind.i64.wrap ((i : Int) + 1) = ((i + 1 : Nat) : Int) := by rw [wrapI _ (by omega) (by omega)]; rfl
  have hf := lit_get (fun x => [C.str x]) fghL [] (v := (i : Int)) ⟨by omega, by show _ < (3 : Int); omega⟩
  rw [Int.toNat_natCast] at hf
  repeat' (first | (simp only [go_sem, zA, zB, zC, zD, zE, zF, zG, reduceCtorEq, zH, zI, zJ, zK, zL, List.length_map, hd, hwi]; all_goals fail_if_success guard_target =ₛ False) | (with_reducible first | ((first | refine seqVC_stepN rfl ?_ | refine AWP.seq ?_ | refine AWP.seqR (by kernel_rfl) ?_ | refine parVC_stepN rfl ?_ | refine parEVC_stepN rfl ?_ | refine genVC_stepN rfl ?_ | refine genMVC_stepN rfl ?_); intro K hK) | ((first | refine hK _ _ _ ?_ | refine hK _ _ ?_ | refine hK _ ?_); clear hK K) | refine seqVC_nil ?_ | refine parVC_nil ?_ | refine parEVC_nil ?_ | refine genVC_nil ?_ | refine genMVC_nil ?_ | refine AWP.block ?_ | (refine AWP.cond (by with_unfolding_all rfl) ?_ ?_ <;> intro h <;> (try simp only [zM, zN] at h) <;> try exact absurd h (by decide)) | refine AWP.skip ?_ | refine AWP.ret ?_ | refine AWP.exit ?_) | (refine ⟨1000001, _, _, _, draw_k 1000001 g1.s hok 8 (by omega), rfl, ?_⟩) | (refine ⟨1000001, _, _, _, draw_k 1000001 (nxt g1 8).s (ok_nxt hok 8) 3 (by omega), rfl, ?_⟩) | ( refine ⟨by omega, [.str (fghL.getD i [])], hf, ?_⟩) | ( refine ⟨[.str (fghL.getD i [])], hf, ?_⟩) | (with_reducible first | (refine AWP.genC (id := 5) 9 [11] 12 [1000001] mixed (by kernel_rfl) fun K hK => ?_; simp only [genVCC, List.take_succ_cons, List.take_zero, List.drop_succ_cons, List.drop_zero, Bx.outs, Bx.drop, cond_true, cond_false, Nat.reduceBEq, Nat.reduceAdd, Nat.reduceSub, go_sem]) | (refine AWP.segP (id := 9) 8 mixed (by kernel_rfl) fun K hK => ?_; simp only [List.take_succ_cons, List.take_zero, List.drop_succ_cons, List.drop_zero]) | refine AWP.parR mixed (by kernel_rfl) fun K hK => ?_ | refine ⟨(by kernel_rfl : depB _ _ _ = true), ?_⟩ | refine Or.inl ?_) | (clear hK K))
  have hv3 := drawV_in (nxt g1 8).s (n := 3) (by omega)
  have hpf := parN_fine (drawV (nxt g1 8).s 3).toNat ([], nxt (nxt g1 8) 3) (ok_nxt (ok_nxt hok 8) 3) (fun p hp => by cases hp)
  have hcal : calN mod i g1 = (⟨mod, fghL.getD i [], (parN (drawV (nxt g1 8).s 3).toNat ([], nxt (nxt g1 8) 3)).1, drawV g1.s 8⟩, (parN (drawV (nxt g1 8).s 3).toNat ([], nxt (nxt g1 8) 3)).2) := rfl
  have hk3 : ((drawV (nxt g1 8).s 3).toNat : Int) = drawV (nxt g1 8).s 3 := Int.toNat_of_nonneg hv3.1
  generalize hkk : (drawV (nxt g1 8).s 3).toNat = k3 at *
  refine AWP.gh (Gh.nilcell 9 2 901 rfl rfl rfl (by simp only [go_sem, zA, zB, zC, zD, zE, zF, zG, reduceCtorEq, zH, zI, zJ, zK, zL]) (by simp only [go_sem, zA, zB, zC, zD, zE, zF, zG, reduceCtorEq, zH, zI, zJ, zK, zL])) ?_
  refine AWP.loopF (X := Nat × List Int × Gn) (fun t => [(10, I .i64 (t.1 : Int))]) (fun t => [(9, .cells [.dat (.str mod), .dat (.str (fghL.getD i [])), .own 901 t.2.1.length, .dat (.int .i64 (drawV g1.s 8))]), (901, .row 1 (t.2.1.map encZ)), (900, .row 4 (l.map encCal)), (1000000, mkB c t.2.2), (1000001, srcB t.2.2.s)]) [0, 1, 2, 7, 8, 9] [] (fun t => t.2.2.s.ok ∧ t.1 ≤ 3 ∧ t.2.1.length + t.1 ≤ 3 ∧ parN t.1 t.2 = parN k3 ([], nxt (nxt g1 8) 3)) (fun t => t.1) ((k3, [], nxt (nxt g1 8) 3)) (by simp only [go_sem, zA, zB, zC, zD, zE, zF, zG, reduceCtorEq, zH, zI, zJ, zK, zL, hk3]; exact Gh.to [] (by repeat (first | exact trivial | refine ⟨rfl, ?_⟩ | refine ⟨by (simp only [go_sem, zA, zB, zC, zD, zE, zF, zG, reduceCtorEq, zH, zI, zJ, zK, zL, List.length_append, List.length_map, List.length_cons, List.length_nil, Nat.zero_add]) <;> rfl, ?_⟩)) (by repeat (first | exact trivial | refine ⟨rfl, ?_⟩ | refine ⟨by (simp only [go_sem, zA, zB, zC, zD, zE, zF, zG, reduceCtorEq, zH, zI, zJ, zK, zL, List.length_append, List.length_map, List.length_cons, List.length_nil, Nat.zero_add]) <;> rfl, ?_⟩)) rfl rfl rfl) ?_ ?_
  ·exact ⟨ok_nxt (ok_nxt hok 8) 3, by omega, by simp only [List.length_nil]; omega, rfl⟩
  rintro ⟨k, ps, g2⟩ ⟨ht1, ht2, ht3, ht4⟩
  simp only at ht1 ht2 ht3 ht4
  simp only [go_sem, zA, zB, zC, zD, zE, zF, zG, reduceCtorEq, zH, zI, zJ, zK, zL]
  cases k with
  | zero =>
   have hd0 : decide (0 < ((0 : Nat) : Int)) = false := by decide
   have hsn : l.map encCal ++ [[.str mod, .str (fghL.getD i []), .sl 1 (ps.map encZ), .int .i64 (drawV g1.s 8)]] = (calsAt mod g (i + 1)).1.map encCal := by
    rw [hsuc, hcal, ← ht4]; exact cal_snoc l ⟨mod, fghL.getD i [], ps, drawV g1.s 8⟩
   have hln : (calsAt mod g (i + 1)).1.length = i + 1 := by rw [hsuc]; simp only [List.length_append, List.length_cons, List.length_nil]; omega
   have hg2 : (calsAt mod g (i + 1)).2 = g2 := by rw [hsuc, hcal, ← ht4]; rfl
   refine AWP.gh (Gh.freeze 901 rfl rfl (by simp only [go_sem, zA, zB, zC, zD, zE, zF, zG, reduceCtorEq, zH, zI, zJ, zK, zL, List.length_map]) (by simp only [go_sem, zA, zB, zC, zD, zE, zF, zG, reduceCtorEq, zH, zI, zJ, zK, zL, List.length_map])) ?_
   simp only [go_sem, zA, zB, zC, zD, zE, zF, zG, reduceCtorEq, zH, zI, zJ, zK, zL, List.length_map]
   repeat' (first | (simp only [go_sem, zA, zB, zC, zD, zE, zF, zG, reduceCtorEq, zH, zI, zJ, zK, zL, List.length_map, hd0, hwi, hsn, hln]; all_goals fail_if_success guard_target =ₛ False) | (with_reducible first | ((first | refine seqVC_stepN rfl ?_ | refine AWP.seq ?_ | refine AWP.seqR (by kernel_rfl) ?_ | refine parVC_stepN rfl ?_ | refine parEVC_stepN rfl ?_ | refine genVC_stepN rfl ?_); intro K hK) | ((first | refine hK _ _ _ ?_ | refine hK _ _ ?_ | refine hK _ ?_); clear hK K) | refine seqVC_nil ?_ | refine parVC_nil ?_ | refine parEVC_nil ?_ | refine genVC_nil ?_ | refine AWP.block ?_ | (refine AWP.cond (by with_unfolding_all rfl) ?_ ?_ <;> intro h <;> (try simp only [zM, zN] at h) <;> try exact absurd h (by decide)) | refine AWP.skip ?_ | refine AWP.ret ?_ | refine AWP.exit ?_ | refine ⟨hli.symm, by omega, ?_⟩ | refine ⟨(by omega : _ ≤ _), ?_⟩ | (refine ⟨(by first | omega | (simp only [List.length_append, List.length_map, List.length_take, List.length_drop, List.length_cons, List.length_nil, List.length_replicate]; omega) : _ ≤ _), ?_⟩) | refine ⟨by omega, by omega, ?_⟩ | (refine AWP.segP (id := 5) 11 mixed (by kernel_rfl) fun K hK => ?_; simp only [List.take_succ_cons, List.take_zero, List.drop_succ_cons, List.drop_zero]) | (refine AWP.segP (id := 9) 8 mixed (by kernel_rfl) fun K hK => ?_; simp only [List.take_succ_cons, List.take_zero, List.drop_succ_cons, List.drop_zero]) | refine AWP.parR mixed (by kernel_rfl) fun K hK => ?_ | refine ⟨(by kernel_rfl : depB _ _ _ = true), ?_⟩ | refine Or.inl ?_) | (clear hK K))
   all_goals (rw [← hg2]; exact ⟨i + 1, by omega, by omega, Gh.to [(900, 49)] (by repeat (first | exact trivial | refine ⟨rfl, ?_⟩ | refine ⟨by (simp only [go_sem, zA, zB, zC, zD, zE, zF, zG, reduceCtorEq, zH, zI, zJ, zK, zL, List.length_append, List.length_map, List.length_cons, List.length_nil, Nat.zero_add]) <;> rfl, ?_⟩)) (by repeat (first | exact trivial | refine ⟨rfl, ?_⟩ | refine ⟨by (simp only [go_sem, zA, zB, zC, zD, zE, zF, zG, reduceCtorEq, zH, zI, zJ, zK, zL, List.length_append, List.length_map, List.length_cons, List.length_nil, Nat.zero_add]) <;> rfl, ?_⟩)) rfl rfl rfl⟩)
  | succ k =>
   have hd0 : decide (0 < ((k + 1 : Nat) : Int)) = true := by rw [decide_eq_true_eq]; omega
   have hw1 : IntKind.i64.wrap (((k + 1 : Nat) : Int) - 1) = (k : Int) := by rw [wrapI _ (by omega) (by omega)]; omega
   repeat' (first | (simp only [go_sem, zA, zB, zC, zD, zE, zF, zG, reduceCtorEq, zH, zI, zJ, zK, zL, List.length_map, hd0, hw1, int_snoc]; all_goals fail_if_success guard_target =ₛ False) | (with_reducible first | ((first | refine seqVC_stepN rfl ?_ | refine AWP.seq ?_ | refine AWP.seqR (by kernel_rfl) ?_ | refine parVC_stepN rfl ?_ | refine parEVC_stepN rfl ?_ | refine genVC_stepN rfl ?_ | refine gen2VC_stepN rfl ?_); intro K hK) | ((first | refine hK _ _ _ ?_ | refine hK _ _ ?_ | refine hK _ ?_); clear hK K) | refine seqVC_nil ?_ | refine parVC_nil ?_ | refine parEVC_nil ?_ | refine genVC_nil ?_ | refine gen2VC_nil ?_ | refine AWP.block ?_ | (refine AWP.cond (by with_unfolding_all rfl) ?_ ?_ <;> intro h <;> (try simp only [zM, zN] at h) <;> try exact absurd h (by decide)) | refine AWP.skip ?_ | refine AWP.ret ?_ | refine AWP.exit ?_ | (refine ⟨(by first | omega | (simp only [List.length_append, List.length_map, List.length_take, List.length_drop, List.length_cons, List.length_nil, List.length_replicate]; omega) : _ ≤ _), ?_⟩) | refine ⟨by omega, by omega, ?_⟩ | refine ⟨(by omega : _ ≤ _), ?_⟩) | (refine ⟨1000001, _, _, _, draw_k 1000001 g2.s ht1 8 (by omega), rfl, ?_⟩) | (with_reducible first | (refine AWP.genR2 (id := 9) [6,8,10] [1000001,9,901] [1] 10 [1000001,901] mixed (by kernel_rfl) fun K hK => ?_; simp only [Bx.outs, Bx.drop, cond_true, cond_false, Nat.reduceBEq, go_sem]) | (refine AWP.segP (id := 5) 11 mixed (by kernel_rfl) fun K hK => ?_; simp only [List.take_succ_cons, List.take_zero, List.drop_succ_cons, List.drop_zero]) | refine AWP.parR mixed (by kernel_rfl) fun K hK => ?_ | refine ⟨(by kernel_rfl : depB _ _ _ = true), ?_⟩ | refine Or.inl ?_) | (clear hK K))
   all_goals (refine ⟨(k, ps ++ [drawV g2.s 8], nxt g2 8), by simp only; omega, ⟨ok_nxt ht1 8, by omega, by simp only [List.length_append, List.length_cons, List.length_nil]; omega, ht4⟩, Gh.to [(901, 44)] (by repeat (first | exact trivial | refine ⟨rfl, ?_⟩ | refine ⟨by (simp only [go_sem, zA, zB, zC, zD, zE, zF, zG, reduceCtorEq, zH, zI, zJ, zK, zL, List.length_append, List.length_map, List.length_cons, List.length_nil, Nat.zero_add]) <;> rfl, ?_⟩)) (by repeat (first | exact trivial | refine ⟨rfl, ?_⟩ | refine ⟨by (simp only [go_sem, zA, zB, zC, zD, zE, zF, zG, reduceCtorEq, zH, zI, zJ, zK, zL, List.length_append, List.length_map, List.length_cons, List.length_nil, Nat.zero_add]) <;> rfl, ?_⟩)) rfl rfl rfl⟩)
 ·have hd : decide ((i : Int) < (n : Int)) = false := by rw [decide_eq_false_iff_not]; omega
  obtain rfl : i = n := by omega
  have hli := (hca i (by omega)).2.1
  generalize calsAt mod g i = r at *
  obtain ⟨l, g1⟩ := r
  simp only at hli
  subst hli
  refine AWP.gh (Gh.freeze 900 rfl rfl (by simp only [go_sem, zA, zB, zC, zD, zE, zF, zG, reduceCtorEq, zH, zI, zJ, zK, zL, List.length_map]) (by simp only [go_sem, zA, zB, zC, zD, zE, zF, zG, reduceCtorEq, zH, zI, zJ, zK, zL, List.length_map])) ?_
  simp only [go_sem, zA, zB, zC, zD, zE, zF, zG, reduceCtorEq, zH, zI, zJ, zK, zL, List.length_map]
  repeat' (first | (simp only [go_sem, zA, zB, zC, zD, zE, zF, zG, reduceCtorEq, zH, zI, zJ, zK, zL, List.length_map, hd]; all_goals fail_if_success guard_target =ₛ False) | (with_reducible first | ((first | refine seqVC_stepN rfl ?_ | refine AWP.seq ?_ | refine AWP.seqR (by kernel_rfl) ?_ | refine parVC_stepN rfl ?_ | refine parEVC_stepN rfl ?_ | refine genVC_stepN rfl ?_); intro K hK) | ((first | refine hK _ _ _ ?_ | refine hK _ _ ?_ | refine hK _ ?_); clear hK K) | refine seqVC_nil ?_ | refine parVC_nil ?_ | refine parEVC_nil ?_ | refine genVC_nil ?_ | refine AWP.block ?_ | (refine AWP.cond (by with_unfolding_all rfl) ?_ ?_ <;> intro h <;> (try simp only [zM, zN] at h) <;> try exact absurd h (by decide)) | refine AWP.skip ?_ | refine AWP.ret ?_ | refine AWP.exit ?_ | (refine AWP.segP (id := 5) 11 mixed (by kernel_rfl) fun K hK => ?_; simp only [List.take_succ_cons, List.take_zero, List.drop_succ_cons, List.drop_zero]) | (refine AWP.segP (id := 9) 8 mixed (by kernel_rfl) fun K hK => ?_; simp only [List.take_succ_cons, List.take_zero, List.drop_succ_cons, List.drop_zero]) | refine AWP.parR mixed (by kernel_rfl) fun K hK => ?_ | refine ⟨(by kernel_rfl : depB _ _ _ = true), ?_⟩ | refine Or.inl ?_) | (clear hK K))
  all_goals exact fun x hx => hx
/-- a clause under way -/
structure Cl where
 s : List UInt8
 env : List NamD
 guard : List UInt8
 g : Gn
def clPar (sp : Bool) (k : Nat) (p : Int) (t : Cl) : Cl :=
 bif sp && decide (k = 0) then ⟨t.s ++ (patternV p t.g).1, t.env, t.guard, (patternV p t.g).2⟩
 else ⟨(bif decide (k = 0) then t.s else t.s ++ [44, 32]) ++ freshV t.g, t.env ++ [⟨freshV t.g, p⟩],
  bif decide (t.guard = []) then (testV (freshV t.g) p (incK t.g)).1 else [40] ++ t.guard ++ [32, 97, 110, 100, 32] ++ (testV (freshV t.g) p (incK t.g)).1 ++ [41], (testV (freshV t.g) p (incK t.g)).2⟩
def clAt (sp : Bool) (d : CalD) (g : Gn) : Nat → Cl
 | 0 => ⟨d.name ++ [40], [], [], g⟩
 | k + 1 => clPar sp k (d.params.getD k 0) (clAt sp d g k)
def clBody (c : Cst) (d : CalD) (n : Nat) (t : Cl) : List UInt8 × Gn :=
 let g2 := bif decide (t.guard = []) then t.g else nxt t.g 5
 let s2 := bif decide (t.guard = []) then t.s ++ [41] else bif decide (0 < drawV t.g.s 5) then t.s ++ [41] ++ ([32, 119, 104, 101, 110, 32] ++ t.guard) else t.s ++ [41]
 (s2 ++ [32, 45, 62, 32] ++ (exprV c n d.res t.env g2).1, (exprV c n d.res t.env g2).2)
def clauseV (c : Cst) (sp : Bool) (d : CalD) (n : Nat) (g : Gn) : List UInt8 × Gn := clBody c d n (clAt sp d g d.params.length)
structure ClOk (k : Nat) (t : Cl) : Prop where
 s : t.s.length ≤ 110 + 60 * k
 env : t.env.length ≤ k
 txt : ∀ x ∈ t.env, x.text.length ≤ 200
 guard : t.guard.length ≤ 600 * k
 g : t.g.s.ok
theorem clPar_ok (sp : Bool) (k : Nat) (p : Int) (t : Cl) (h : ClOk k t) : ClOk (k + 1) (clPar sp k p t) := by
 obtain ⟨h1, h2, h3, h4, h5⟩ := h
 have hf := freshV_len t.g
 unfold clPar
 cases sp && decide (k = 0) with
 | true =>
  have hp := patternV_fine p t.g h5
  exact ⟨by have := hp.2; simp only [cond_true, List.length_append]; omega, by simp only [cond_true]; omega, h3, by simp only [cond_true]; omega, hp.1⟩
 | false =>
  have ht := testV_fine (freshV t.g) (by omega) p (incK t.g) h5
  have hb : (bif decide (k = 0) then t.s else t.s ++ [44, 32]).length ≤ t.s.length + 2 := by cases decide (k = 0) <;> simp
  refine ⟨by simp only [cond_false, List.length_append]; omega, by simp only [cond_false, List.length_append, List.length_cons, List.length_nil]; omega, fun x hx => ?_, ?_, ht.1⟩
  ·rcases List.mem_append.1 hx with hx | hx
   ·exact h3 x hx
   ·rw [List.mem_singleton.1 hx]; simp only; omega
  ·have h6 := ht.2
   simp only [cond_false]
   cases decide (t.guard = []) <;> simp only [cond_true, cond_false, List.length_append, List.length_cons, List.length_nil] <;> omega
theorem clAt_ok (sp : Bool) (d : CalD) (hd : CalOk d) (g : Gn) (hg : g.s.ok) : ∀ k, ClOk k (clAt sp d g k)
 | 0 => ⟨by have := hd.2.1; simp only [clAt, List.length_append, List.length_cons, List.length_nil]; omega, Nat.zero_le _, fun x hx => (by cases hx), Nat.zero_le _, hg⟩
 | k + 1 => clPar_ok sp k _ _ (clAt_ok sp d hd g hg k)
theorem clBody_fine {c : Cst} {n m : Nat} {L : Nat} {D : Int} (hE : Good c D m L (exprV c n)) (hm : 2 ≤ m) (d : CalD) (t : Cl) (h : ClOk 2 t) : Fine (L + 2000) (clBody c d n t) := by
 obtain ⟨h1, h2, h3, h4, h5⟩ := h
 have he : EOk m t.env := ⟨by omega, h3⟩
 unfold clBody
 cases decide (t.guard = []) with
 | true =>
  exact ⟨hE.ok _ _ _ h5 he, by have := hE.len d.res t.env t.g h5 he; simp only [cond_true, List.length_append, List.length_cons, List.length_nil]; omega⟩
 | false =>
  cases decide (0 < drawV t.g.s 5) <;> exact ⟨hE.ok _ _ _ (ok_nxt h5 5) he, by have := hE.len d.res t.env (nxt t.g 5) (ok_nxt h5 5) he; simp only [cond_true, cond_false, List.length_append, List.length_cons, List.length_nil]; omega⟩
theorem ClOk.mono {k j : Nat} {t : Cl} (h : ClOk k t) (hkj : k ≤ j) : ClOk j t := ⟨by have := h.s; omega, by have := h.env; omega, h.txt, by have := h.guard; omega, h.g⟩
theorem clauseS_c (c : Cst) (n m L : Nat) (hE : Good c (n : Int) m L (exprV c n)) (hm : 2 ≤ m) (hL : L ≤ 1000000) (hn : n ≤ 10) (g : Gn) (hg : g.s.ok) (d : CalD) (hd : CalOk d) : PCB Tryd.prog 35 [Sp 1000000, .st (encCal d), I .i64 (n : Int), Bo true] (gB c g) (S (clauseV c true d n g).1) (gB c (clauseV c true d n g).2) := by
 have hmax : 10000000 ≤ maxLen := by unfold maxLen; omega
 have hca := clAt_ok true d hd g hg
 have hpl := hd.2.2
 have hnl := hd.2.1
 unfold clauseV
 refine PCB.of_body Tryd.func35 rfl (by decide) Tryd.ntmps35 Tryd.results35 rfl rfl rfl ?_ rfl rfl
 unfold encCal
 repeat' (first | (simp only [go_sem, zA, zB, zC, zD, zE, zF, zG, reduceCtorEq, zH, zI, zJ, zK, zL, List.length_map]; all_goals fail_if_success guard_target =ₛ False) | (with_reducible first | ((first | refine seqVC_stepN rfl ?_ | refine seqVC_stepG rfl (by with_unfolding_all rfl) ?_ | refine AWP.seq ?_ | refine AWP.seqR (by kernel_rfl) ?_); intro K hK) | ((first | refine hK _ _ _ ?_ | refine hK _ _ ?_ | refine hK _ ?_); clear hK K) | refine seqVC_nil ?_ | refine AWP.block ?_ | (refine AWP.cond (by with_unfolding_all rfl) ?_ ?_ <;> intro h <;> (try simp only [zM, zN] at h) <;> try exact absurd h (by decide)) | refine AWP.skip ?_ | refine AWP.ret ?_ | refine AWP.exit ?_ | (refine ⟨fun h => ?_, fun h => ?_⟩ <;> (try simp only [zM, zN] at h) <;> try simp only [h]) | (refine ⟨(by first | omega | (simp only [List.length_append, List.length_map, List.length_take, List.length_drop, List.length_cons, List.length_nil, List.length_replicate]; omega) : _ ≤ _), ?_⟩) | refine ⟨by omega, by omega, ?_⟩ | refine Or.inl ?_) | (clear hK K))
 refine AWP.gh (Gh.nilrow 10 900 rfl rfl rfl (by simp [Bx.fresh, Cell.freshs, Cell.fresh])) ?_
 refine AWP.len 20 rfl fun hlen0 => ?_
 (try rw [List.length_map] at hlen0)
 refine AWP.range (S := Cl) (d.params) encZ (fun k t => (22, I .i64 (k : Nat)) :: [(9, S t.s), (10, .one (.own 900 t.env.length)), (11, S t.guard)]) (fun k t => [(900, .row 2 (t.env.map encNam)), (5, .cells [.dat (.str d.mod), .dat (.str d.name), .dat (.sl 1 (d.params.map encZ)), .dat (.int .i64 d.res)]), (1000000, mkB c t.g), (1000001, srcB t.g.s)]) [0, 2, 3, 5, 20, 21] [] (fun k t => t = clAt true d g k) (⟨d.name ++ [40], [], [], g⟩) (by simp only [go_sem, zA, zB, zC, zD, zE, zF, zG, reduceCtorEq, zH, zI, zJ, zK, zL]; exact Gh.to [] (by repeat (first | exact trivial | refine ⟨rfl, ?_⟩ | refine ⟨by (simp only [go_sem, zA, zB, zC, zD, zE, zF, zG, reduceCtorEq, zH, zI, zJ, zK, zL, List.length_append, List.length_map, List.length_cons, List.length_nil, Nat.zero_add]) <;> rfl, ?_⟩)) (by repeat (first | exact trivial | refine ⟨rfl, ?_⟩ | refine ⟨by (simp only [go_sem, zA, zB, zC, zD, zE, zF, zG, reduceCtorEq, zH, zI, zJ, zK, zL, List.length_append, List.length_map, List.length_cons, List.length_nil, Nat.zero_add]) <;> rfl, ?_⟩)) rfl rfl rfl) ?_ ?_ ?_
 ·rfl
 ·intro k t p hlt hx hx' hbb hok
  simp only [go_sem, zA, zB, zC, zD, zE, zF, zG, reduceCtorEq, zH, zI, zJ, zK, zL]
  have hok2 := hca k
  have hsuc : clAt true d g (k + 1) = clPar true k p t := by rw [hok]; show clPar true k (d.params.getD k 0) _ = _; rw [List.getD_eq_getElem?_getD, hx]; rfl
  rw [← hok] at hok2
  obtain ⟨h1, h2, h3, h4, h5⟩ := hok2
  have hf := freshV_len t.g
  have htf := testV_fine (freshV t.g) (by omega) p (incK t.g) h5
  have htl := htf.2
  have htc := test_c c (incK t.g) h5 (freshV t.g) (by omega) p
  have hpf := (patternV_fine p t.g h5).2
  by_cases hk0 : k = 0
  ·have hd0 : decide (0 < (k : Int)) = false := by rw [decide_eq_false_iff_not]; omega
   have hde : decide ((k : Int) = 0) = true := by rw [decide_eq_true_eq]; omega
   have hcp : clPar true k p t = ⟨t.s ++ (patternV p t.g).1, t.env, t.guard, (patternV p t.g).2⟩ := by unfold clPar; rw [show decide (k = 0) = true from by simp [hk0]]; rfl
   rw [hcp] at hsuc
   repeat' (first | (simp only [go_sem, zA, zB, zC, zD, zE, zF, zG, reduceCtorEq, zH, zI, zJ, zK, zL, List.length_map, hbb, encZ, hd0, hde, Bx.puts]; all_goals fail_if_success guard_target =ₛ False) | (with_reducible first | ((first | refine seqVC_stepN rfl ?_ | refine seqVC_stepG rfl (by with_unfolding_all rfl) ?_ | refine AWP.seq ?_ | refine AWP.seqR (by kernel_rfl) ?_); intro K hK) | ((first | refine hK _ _ _ ?_ | refine hK _ _ ?_ | refine hK _ ?_); clear hK K) | refine seqVC_nil ?_ | refine AWP.block ?_ | (refine AWP.cond (by with_unfolding_all rfl) ?_ ?_ <;> intro h <;> (try simp only [zM, zN] at h) <;> try exact absurd h (by decide)) | refine AWP.skip ?_ | refine AWP.ret ?_ | refine AWP.exit ?_ | (refine ⟨fun h => ?_, fun h => ?_⟩ <;> (try simp only [zM, zN] at h) <;> try simp only [h]) | refine ⟨by omega, encZ p, hx', ?_⟩ | refine ⟨encZ p, hx', ?_⟩ | (refine ⟨(by first | omega | (simp only [List.length_append, List.length_map, List.length_take, List.length_drop, List.length_cons, List.length_nil, List.length_replicate]; omega) : _ ≤ _), ?_⟩) | refine ⟨by omega, by omega, ?_⟩) | ( refine Or.inr ⟨_, _, _, pattern_c c t.g h5 p, ⟨rfl, rfl, trivial⟩, rfl, rfl, ?_⟩) | (with_reducible first | refine Or.inl ?_) | (clear hK K))
   all_goals (rw [wrap_succ hlt hlen0, hsuc]; exact Gh.to [] (by repeat (first | exact trivial | refine ⟨rfl, ?_⟩ | refine ⟨by (simp only [go_sem, zA, zB, zC, zD, zE, zF, zG, reduceCtorEq, zH, zI, zJ, zK, zL, List.length_append, List.length_map, List.length_cons, List.length_nil, Nat.zero_add]) <;> rfl, ?_⟩)) (by repeat (first | exact trivial | refine ⟨rfl, ?_⟩ | refine ⟨by (simp only [go_sem, zA, zB, zC, zD, zE, zF, zG, reduceCtorEq, zH, zI, zJ, zK, zL, List.length_append, List.length_map, List.length_cons, List.length_nil, Nat.zero_add]) <;> rfl, ?_⟩)) rfl rfl rfl)
  ·have hd0 : decide (0 < (k : Int)) = true := by rw [decide_eq_true_eq]; omega
   have hde : decide ((k : Int) = 0) = false := by rw [decide_eq_false_iff_not]; omega
   have hcp : clPar true k p t = ⟨t.s ++ [44, 32] ++ freshV t.g, t.env ++ [⟨freshV t.g, p⟩], bif decide (t.guard = []) then (testV (freshV t.g) p (incK t.g)).1 else [40] ++ t.guard ++ [32, 97, 110, 100, 32] ++ (testV (freshV t.g) p (incK t.g)).1 ++ [41], (testV (freshV t.g) p (incK t.g)).2⟩ := by unfold clPar; rw [show decide (k = 0) = false from by simp [hk0], Bool.and_false]; rfl
   rw [hcp] at hsuc
   cases hgd : decide (t.guard = []) with
   | true =>
    rw [hgd, cond_true] at hsuc
    repeat' (first | (simp only [go_sem, zA, zB, zC, zD, zE, zF, zG, reduceCtorEq, zH, zI, zJ, zK, zL, List.length_map, hbb, encZ, hd0, hde, hgd, nam_snoc, Bx.puts]; all_goals fail_if_success guard_target =ₛ False) | (with_reducible first | ((first | refine seqVC_stepN rfl ?_ | refine seqVC_stepG rfl (by with_unfolding_all rfl) ?_ | refine AWP.seq ?_ | refine AWP.seqR (by kernel_rfl) ?_); intro K hK) | ((first | refine hK _ _ _ ?_ | refine hK _ _ ?_ | refine hK _ ?_); clear hK K) | refine seqVC_nil ?_ | refine AWP.block ?_ | (refine AWP.cond (by with_unfolding_all rfl) ?_ ?_ <;> intro h <;> (try simp only [zM, zN] at h) <;> try exact absurd h (by decide)) | refine AWP.skip ?_ | refine AWP.ret ?_ | refine AWP.exit ?_ | (refine ⟨fun h => ?_, fun h => ?_⟩ <;> (try simp only [zM, zN] at h) <;> try simp only [h]) | refine ⟨by omega, encZ p, hx', ?_⟩ | refine ⟨encZ p, hx', ?_⟩ | refine ⟨(by omega : _ ≤ _), ?_⟩ | refine ⟨(by omega : _ ≤ _), (by omega : _ ≤ _), ?_⟩ | (refine ⟨(by first | omega | (simp only [List.length_append, List.length_map, List.length_take, List.length_drop, List.length_cons, List.length_nil, List.length_replicate]; omega) : _ ≤ _), ?_⟩) | refine ⟨by omega, by omega, ?_⟩) | ( refine Or.inr ⟨_, _, _, fresh_c c t.g, ⟨rfl, rfl, trivial⟩, rfl, rfl, ?_⟩) | ( refine Or.inr ⟨_, _, _, htc, ⟨rfl, rfl, trivial⟩, rfl, rfl, ?_⟩) | (with_reducible first | refine Or.inl ?_) | (clear hK K))
    all_goals (rw [wrap_succ hlt hlen0, hsuc]; exact Gh.to [(900, 48)] (by repeat (first | exact trivial | refine ⟨rfl, ?_⟩ | refine ⟨by (simp only [go_sem, zA, zB, zC, zD, zE, zF, zG, reduceCtorEq, zH, zI, zJ, zK, zL, List.length_append, List.length_map, List.length_cons, List.length_nil, Nat.zero_add]) <;> rfl, ?_⟩)) (by repeat (first | exact trivial | refine ⟨rfl, ?_⟩ | refine ⟨by (simp only [go_sem, zA, zB, zC, zD, zE, zF, zG, reduceCtorEq, zH, zI, zJ, zK, zL, List.length_append, List.length_map, List.length_cons, List.length_nil, Nat.zero_add]) <;> rfl, ?_⟩)) rfl rfl rfl)
   | false =>
    rw [hgd, cond_false] at hsuc
    repeat' (first | (simp only [go_sem, zA, zB, zC, zD, zE, zF, zG, reduceCtorEq, zH, zI, zJ, zK, zL, List.length_map, hbb, encZ, hd0, hde, hgd, nam_snoc, Bx.puts]; all_goals fail_if_success guard_target =ₛ False) | (with_reducible first | ((first | refine seqVC_stepN rfl ?_ | refine seqVC_stepG rfl (by with_unfolding_all rfl) ?_ | refine AWP.seq ?_ | refine AWP.seqR (by kernel_rfl) ?_); intro K hK) | ((first | refine hK _ _ _ ?_ | refine hK _ _ ?_ | refine hK _ ?_); clear hK K) | refine seqVC_nil ?_ | refine AWP.block ?_ | (refine AWP.cond (by with_unfolding_all rfl) ?_ ?_ <;> intro h <;> (try simp only [zM, zN] at h) <;> try exact absurd h (by decide)) | refine AWP.skip ?_ | refine AWP.ret ?_ | refine AWP.exit ?_ | (refine ⟨fun h => ?_, fun h => ?_⟩ <;> (try simp only [zM, zN] at h) <;> try simp only [h]) | refine ⟨by omega, encZ p, hx', ?_⟩ | refine ⟨encZ p, hx', ?_⟩ | refine ⟨(by omega : _ ≤ _), ?_⟩ | refine ⟨(by omega : _ ≤ _), (by omega : _ ≤ _), ?_⟩ | (refine ⟨(by first | omega | (simp only [List.length_append, List.length_map, List.length_take, List.length_drop, List.length_cons, List.length_nil, List.length_replicate]; omega) : _ ≤ _), ?_⟩) | refine ⟨by omega, by omega, ?_⟩) | ( refine Or.inr ⟨_, _, _, fresh_c c t.g, ⟨rfl, rfl, trivial⟩, rfl, rfl, ?_⟩) | ( refine Or.inr ⟨_, _, _, htc, ⟨rfl, rfl, trivial⟩, rfl, rfl, ?_⟩) | (with_reducible first | refine Or.inl ?_) | (clear hK K))
    all_goals (rw [wrap_succ hlt hlen0, hsuc]; exact Gh.to [(900, 48)] (by repeat (first | exact trivial | refine ⟨rfl, ?_⟩ | refine ⟨by (simp only [go_sem, zA, zB, zC, zD, zE, zF, zG, reduceCtorEq, zH, zI, zJ, zK, zL, List.length_append, List.length_map, List.length_cons, List.length_nil, Nat.zero_add]) <;> rfl, ?_⟩)) (by repeat (first | exact trivial | refine ⟨rfl, ?_⟩ | refine ⟨by (simp only [go_sem, zA, zB, zC, zD, zE, zF, zG, reduceCtorEq, zH, zI, zJ, zK, zL, List.length_append, List.length_map, List.length_cons, List.length_nil, Nat.zero_add]) <;> rfl, ?_⟩)) rfl rfl rfl)
 ·intro t hbb hok
  simp only [go_sem, zA, zB, zC, zD, zE, zF, zG, reduceCtorEq, zH, zI, zJ, zK, zL]
  have hok2 := (hca d.params.length).mono hpl
  rw [← hok] at hok2
  obtain ⟨h1, h2, h3, h4, h5⟩ := hok2
  have he : EOk m t.env := ⟨by omega, h3⟩
  refine AWP.gh (Gh.freeze 900 rfl rfl (by simp only [go_sem, zA, zB, zC, zD, zE, zF, zG, reduceCtorEq, zH, zI, zJ, zK, zL, List.length_map]) (by simp only [go_sem, zA, zB, zC, zD, zE, zF, zG, reduceCtorEq, zH, zI, zJ, zK, zL, List.length_map])) ?_
  simp only [go_sem, zA, zB, zC, zD, zE, zF, zG, reduceCtorEq, zH, zI, zJ, zK, zL, List.length_map]
  cases hgd : decide (t.guard = []) with
  | true =>
   have r0 := hE.run d.res t.env t.g h5 he
   have l0 := hE.len d.res t.env t.g h5 he
   have hbody : clBody c d n t = (t.s ++ [41] ++ [32, 45, 62, 32] ++ (exprV c n d.res t.env t.g).1, (exprV c n d.res t.env t.g).2) := by unfold clBody; rw [hgd]; rfl
   repeat' (first | (simp only [go_sem, zA, zB, zC, zD, zE, zF, zG, reduceCtorEq, zH, zI, zJ, zK, zL, List.length_map, hbb, hgd, Bx.puts]; all_goals fail_if_success guard_target =ₛ False) | (with_reducible first | ((first | refine seqVC_stepN rfl ?_ | refine seqVC_stepG rfl (by with_unfolding_all rfl) ?_ | refine AWP.seq ?_ | refine AWP.seqR (by kernel_rfl) ?_); intro K hK) | ((first | refine hK _ _ _ ?_ | refine hK _ _ ?_ | refine hK _ ?_); clear hK K) | refine seqVC_nil ?_ | refine AWP.block ?_ | (refine AWP.cond (by with_unfolding_all rfl) ?_ ?_ <;> intro h <;> (try simp only [zM, zN] at h) <;> try exact absurd h (by decide)) | refine AWP.skip ?_ | refine AWP.ret ?_ | refine AWP.exit ?_ | (refine ⟨fun h => ?_, fun h => ?_⟩ <;> (try simp only [zM, zN] at h) <;> try simp only [h]) | (refine ⟨(by first | omega | (simp only [List.length_append, List.length_map, List.length_take, List.length_drop, List.length_cons, List.length_nil, List.length_replicate]; omega) : _ ≤ _), ?_⟩) | refine ⟨by omega, by omega, ?_⟩) | (refine ⟨1000001, _, _, _, draw_k 1000001 t.g.s h5 5 (by omega), rfl, ?_⟩) | ( refine Or.inr ⟨_, _, _, r0, ⟨rfl, rfl, trivial⟩, rfl, rfl, ?_⟩) | (with_reducible first | refine Or.inl ?_) | (clear hK K))
   all_goals (rw [← hok, hbody]; exact ⟨rfl, fun x hx => List.mem_cons_of_mem _ hx⟩)
  | false =>
   have r0 := hE.run d.res t.env (nxt t.g 5) (ok_nxt h5 5) he
   have l0 := hE.len d.res t.env (nxt t.g 5) (ok_nxt h5 5) he
   cases hwh : decide (0 < drawV t.g.s 5) with
   | true =>
    have hbody : clBody c d n t = (t.s ++ [41] ++ ([32, 119, 104, 101, 110, 32] ++ t.guard) ++ [32, 45, 62, 32] ++ (exprV c n d.res t.env (nxt t.g 5)).1, (exprV c n d.res t.env (nxt t.g 5)).2) := by unfold clBody; rw [hgd, hwh]; rfl
    repeat' (first | (simp only [go_sem, zA, zB, zC, zD, zE, zF, zG, reduceCtorEq, zH, zI, zJ, zK, zL, List.length_map, hbb, hgd, hwh, Bx.puts]; all_goals fail_if_success guard_target =ₛ False) | (with_reducible first | ((first | refine seqVC_stepN rfl ?_ | refine seqVC_stepG rfl (by with_unfolding_all rfl) ?_ | refine AWP.seq ?_ | refine AWP.seqR (by kernel_rfl) ?_); intro K hK) | ((first | refine hK _ _ _ ?_ | refine hK _ _ ?_ | refine hK _ ?_); clear hK K) | refine seqVC_nil ?_ | refine AWP.block ?_ | (refine AWP.cond (by with_unfolding_all rfl) ?_ ?_ <;> intro h <;> (try simp only [zM, zN] at h) <;> try exact absurd h (by decide)) | refine AWP.skip ?_ | refine AWP.ret ?_ | refine AWP.exit ?_ | (refine ⟨fun h => ?_, fun h => ?_⟩ <;> (try simp only [zM, zN] at h) <;> try simp only [h]) | (refine ⟨(by first | omega | (simp only [List.length_append, List.length_map, List.length_take, List.length_drop, List.length_cons, List.length_nil, List.length_replicate]; omega) : _ ≤ _), ?_⟩) | refine ⟨by omega, by omega, ?_⟩) | (refine ⟨1000001, _, _, _, draw_k 1000001 t.g.s h5 5 (by omega), rfl, ?_⟩) | ( refine Or.inr ⟨_, _, _, r0, ⟨rfl, rfl, trivial⟩, rfl, rfl, ?_⟩) | (with_reducible first | refine Or.inl ?_) | (clear hK K))
    all_goals (rw [← hok, hbody]; exact ⟨rfl, fun x hx => List.mem_cons_of_mem _ hx⟩)
   | false =>
    have hbody : clBody c d n t = (t.s ++ [41] ++ [32, 45, 62, 32] ++ (exprV c n d.res t.env (nxt t.g 5)).1, (exprV c n d.res t.env (nxt t.g 5)).2) := by unfold clBody; rw [hgd, hwh]; rfl
    repeat' (first | (simp only [go_sem, zA, zB, zC, zD, zE, zF, zG, reduceCtorEq, zH, zI, zJ, zK, zL, List.length_map, hbb, hgd, hwh, Bx.puts]; all_goals fail_if_success guard_target =ₛ False) | (with_reducible first | ((first | refine seqVC_stepN rfl ?_ | refine seqVC_stepG rfl (by with_unfolding_all rfl) ?_ | refine AWP.seq ?_ | refine AWP.seqR (by kernel_rfl) ?_); intro K hK) | ((first | refine hK _ _ _ ?_ | refine hK _ _ ?_ | refine hK _ ?_); clear hK K) | refine seqVC_nil ?_ | refine AWP.block ?_ | (refine AWP.cond (by with_unfolding_all rfl) ?_ ?_ <;> intro h <;> (try simp only [zM, zN] at h) <;> try exact absurd h (by decide)) | refine AWP.skip ?_ | refine AWP.ret ?_ | refine AWP.exit ?_ | (refine ⟨fun h => ?_, fun h => ?_⟩ <;> (try simp only [zM, zN] at h) <;> try simp only [h]) | (refine ⟨(by first | omega | (simp only [List.length_append, List.length_map, List.length_take, List.length_drop, List.length_cons, List.length_nil, List.length_replicate]; omega) : _ ≤ _), ?_⟩) | refine ⟨by omega, by omega, ?_⟩) | (refine ⟨1000001, _, _, _, draw_k 1000001 t.g.s h5 5 (by omega), rfl, ?_⟩) | ( refine Or.inr ⟨_, _, _, r0, ⟨rfl, rfl, trivial⟩, rfl, rfl, ?_⟩) | (with_reducible first | refine Or.inl ?_) | (clear hK K))
    all_goals (rw [← hok, hbody]; exact ⟨rfl, fun x hx => List.mem_cons_of_mem _ hx⟩)
theorem clauseN_c (c : Cst) (n m L : Nat) (hE : Good c (n : Int) m L (exprV c n)) (hm : 2 ≤ m) (hL : L ≤ 1000000) (hn : n ≤ 10) (g : Gn) (hg : g.s.ok) (d : CalD) (hd : CalOk d) : PCB Tryd.prog 35 [Sp 1000000, .st (encCal d), I .i64 (n : Int), Bo false] (gB c g) (S (clauseV c false d n g).1) (gB c (clauseV c false d n g).2) := by
 have hmax : 10000000 ≤ maxLen := by unfold maxLen; omega
 have hca := clAt_ok false d hd g hg
 have hpl := hd.2.2
 have hnl := hd.2.1
 unfold clauseV
 refine PCB.of_body Tryd.func35 rfl (by decide) Tryd.ntmps35 Tryd.results35 rfl rfl rfl ?_ rfl rfl
 unfold encCal
 repeat' (first | (simp only [go_sem, zA, zB, zC, zD, zE, zF, zG, reduceCtorEq, zH, zI, zJ, zK, zL, List.length_map]; all_goals fail_if_success guard_target =ₛ False) | (with_reducible first | ((first | refine seqVC_stepN rfl ?_ | refine seqVC_stepG rfl (by with_unfolding_all rfl) ?_ | refine AWP.seq ?_ | refine AWP.seqR (by kernel_rfl) ?_); intro K hK) | ((first | refine hK _ _ _ ?_ | refine hK _ _ ?_ | refine hK _ ?_); clear hK K) | refine seqVC_nil ?_ | refine AWP.block ?_ | (refine AWP.cond (by with_unfolding_all rfl) ?_ ?_ <;> intro h <;> (try simp only [zM, zN] at h) <;> try exact absurd h (by decide)) | refine AWP.skip ?_ | refine AWP.ret ?_ | refine AWP.exit ?_ | (refine ⟨fun h => ?_, fun h => ?_⟩ <;> (try simp only [zM, zN] at h) <;> try simp only [h]) | (refine ⟨(by first | omega | (simp only [List.length_append, List.length_map, List.length_take, List.length_drop, List.length_cons, List.length_nil, List.length_replicate]; omega) : _ ≤ _), ?_⟩) | refine ⟨by omega, by omega, ?_⟩ | refine Or.inl ?_) | (clear hK K))
 refine AWP.gh (Gh.nilrow 10 900 rfl rfl rfl (by simp [Bx.fresh, Cell.freshs, Cell.fresh])) ?_
 refine AWP.len 20 rfl fun hlen0 => ?_
 (try rw [List.length_map] at hlen0)
 refine AWP.range (S := Cl) (d.params) encZ (fun k t => (22, I .i64 (k : Nat)) :: [(9, S t.s), (10, .one (.own 900 t.env.length)), (11, S t.guard)]) (fun k t => [(900, .row 2 (t.env.map encNam)), (5, .cells [.dat (.str d.mod), .dat (.str d.name), .dat (.sl 1 (d.params.map encZ)), .dat (.int .i64 d.res)]), (1000000, mkB c t.g), (1000001, srcB t.g.s)]) [0, 2, 3, 5, 20, 21] [] (fun k t => t = clAt false d g k) (⟨d.name ++ [40], [], [], g⟩) (by simp only [go_sem, zA, zB, zC, zD, zE, zF, zG, reduceCtorEq, zH, zI, zJ, zK, zL]; exact Gh.to [] (by repeat (first | exact trivial | refine ⟨rfl, ?_⟩ | refine ⟨by (simp only [go_sem, zA, zB, zC, zD, zE, zF, zG, reduceCtorEq, zH, zI, zJ, zK, zL, List.length_append, List.length_map, List.length_cons, List.length_nil, Nat.zero_add]) <;> rfl, ?_⟩)) (by repeat (first | exact trivial | refine ⟨rfl, ?_⟩ | refine ⟨by (simp only [go_sem, zA, zB, zC, zD, zE, zF, zG, reduceCtorEq, zH, zI, zJ, zK, zL, List.length_append, List.length_map, List.length_cons, List.length_nil, Nat.zero_add]) <;> rfl, ?_⟩)) rfl rfl rfl) ?_ ?_ ?_
 ·rfl
 ·intro k t p hlt hx hx' hbb hok
  simp only [go_sem, zA, zB, zC, zD, zE, zF, zG, reduceCtorEq, zH, zI, zJ, zK, zL]
  have hok2 := hca k
  have hsuc : clAt false d g (k + 1) = clPar false k p t := by rw [hok]; show clPar false k (d.params.getD k 0) _ = _; rw [List.getD_eq_getElem?_getD, hx]; rfl
  rw [← hok] at hok2
  obtain ⟨h1, h2, h3, h4, h5⟩ := hok2
  have hf := freshV_len t.g
  have htf := testV_fine (freshV t.g) (by omega) p (incK t.g) h5
  have htl := htf.2
  have htc := test_c c (incK t.g) h5 (freshV t.g) (by omega) p
  have hpf := (patternV_fine p t.g h5).2
  by_cases hk0 : k = 0
  ·have hd0 : decide (0 < (k : Int)) = false := by rw [decide_eq_false_iff_not]; omega
   have hde : decide ((k : Int) = 0) = true := by rw [decide_eq_true_eq]; omega
   have hcp : clPar false k p t = ⟨t.s ++ freshV t.g, t.env ++ [⟨freshV t.g, p⟩], bif decide (t.guard = []) then (testV (freshV t.g) p (incK t.g)).1 else [40] ++ t.guard ++ [32, 97, 110, 100, 32] ++ (testV (freshV t.g) p (incK t.g)).1 ++ [41], (testV (freshV t.g) p (incK t.g)).2⟩ := by unfold clPar; rw [show decide (k = 0) = true from by simp [hk0]]; rfl
   rw [hcp] at hsuc
   cases hgd : decide (t.guard = []) with
   | true =>
    rw [hgd, cond_true] at hsuc
    repeat' (first | (simp only [go_sem, zA, zB, zC, zD, zE, zF, zG, reduceCtorEq, zH, zI, zJ, zK, zL, List.length_map, hbb, encZ, hd0, hde, hgd, nam_snoc, Bx.puts]; all_goals fail_if_success guard_target =ₛ False) | (with_reducible first | ((first | refine seqVC_stepN rfl ?_ | refine seqVC_stepG rfl (by with_unfolding_all rfl) ?_ | refine AWP.seq ?_ | refine AWP.seqR (by kernel_rfl) ?_); intro K hK) | ((first | refine hK _ _ _ ?_ | refine hK _ _ ?_ | refine hK _ ?_); clear hK K) | refine seqVC_nil ?_ | refine AWP.block ?_ | (refine AWP.cond (by with_unfolding_all rfl) ?_ ?_ <;> intro h <;> (try simp only [zM, zN] at h) <;> try exact absurd h (by decide)) | refine AWP.skip ?_ | refine AWP.ret ?_ | refine AWP.exit ?_ | (refine ⟨fun h => ?_, fun h => ?_⟩ <;> (try simp only [zM, zN] at h) <;> try simp only [h]) | refine ⟨by omega, encZ p, hx', ?_⟩ | refine ⟨encZ p, hx', ?_⟩ | refine ⟨(by omega : _ ≤ _), ?_⟩ | refine ⟨(by omega : _ ≤ _), (by omega : _ ≤ _), ?_⟩ | (refine ⟨(by first | omega | (simp only [List.length_append, List.length_map, List.length_take, List.length_drop, List.length_cons, List.length_nil, List.length_replicate]; omega) : _ ≤ _), ?_⟩) | refine ⟨by omega, by omega, ?_⟩) | ( refine Or.inr ⟨_, _, _, fresh_c c t.g, ⟨rfl, rfl, trivial⟩, rfl, rfl, ?_⟩) | ( refine Or.inr ⟨_, _, _, htc, ⟨rfl, rfl, trivial⟩, rfl, rfl, ?_⟩) | (with_reducible first | refine Or.inl ?_) | (clear hK K))
    all_goals (rw [wrap_succ hlt hlen0, hsuc]; exact Gh.to [(900, 48)] (by repeat (first | exact trivial | refine ⟨rfl, ?_⟩ | refine ⟨by (simp only [go_sem, zA, zB, zC, zD, zE, zF, zG, reduceCtorEq, zH, zI, zJ, zK, zL, List.length_append, List.length_map, List.length_cons, List.length_nil, Nat.zero_add]) <;> rfl, ?_⟩)) (by repeat (first | exact trivial | refine ⟨rfl, ?_⟩ | refine ⟨by (simp only [go_sem, zA, zB, zC, zD, zE, zF, zG, reduceCtorEq, zH, zI, zJ, zK, zL, List.length_append, List.length_map, List.length_cons, List.length_nil, Nat.zero_add]) <;> rfl, ?_⟩)) rfl rfl rfl)
   | false =>
    rw [hgd, cond_false] at hsuc
    repeat' (first | (simp only [go_sem, zA, zB, zC, zD, zE, zF, zG, reduceCtorEq, zH, zI, zJ, zK, zL, List.length_map, hbb, encZ, hd0, hde, hgd, nam_snoc, Bx.puts]; all_goals fail_if_success guard_target =ₛ False) | (with_reducible first | ((first | refine seqVC_stepN rfl ?_ | refine seqVC_stepG rfl (by with_unfolding_all rfl) ?_ | refine AWP.seq ?_ | refine AWP.seqR (by kernel_rfl) ?_); intro K hK) | ((first | refine hK _ _ _ ?_ | refine hK _ _ ?_ | refine hK _ ?_); clear hK K) | refine seqVC_nil ?_ | refine AWP.block ?_ | (refine AWP.cond (by with_unfolding_all rfl) ?_ ?_ <;> intro h <;> (try simp only [zM, zN] at h) <;> try exact absurd h (by decide)) | refine AWP.skip ?_ | refine AWP.ret ?_ | refine AWP.exit ?_ | (refine ⟨fun h => ?_, fun h => ?_⟩ <;> (try simp only [zM, zN] at h) <;> try simp only [h]) | refine ⟨by omega, encZ p, hx', ?_⟩ | refine ⟨encZ p, hx', ?_⟩ | refine ⟨(by omega : _ ≤ _), ?_⟩ | refine ⟨(by omega : _ ≤ _), (by omega : _ ≤ _), ?_⟩ | (refine ⟨(by first | omega | (simp only [List.length_append, List.length_map, List.length_take, List.length_drop, List.length_cons, List.length_nil, List.length_replicate]; omega) : _ ≤ _), ?_⟩) | refine ⟨by omega, by omega, ?_⟩) | ( refine Or.inr ⟨_, _, _, fresh_c c t.g, ⟨rfl, rfl, trivial⟩, rfl, rfl, ?_⟩) | ( refine Or.inr ⟨_, _, _, htc, ⟨rfl, rfl, trivial⟩, rfl, rfl, ?_⟩) | (with_reducible first | refine Or.inl ?_) | (clear hK K))
    all_goals (rw [wrap_succ hlt hlen0, hsuc]; exact Gh.to [(900, 48)] (by repeat (first | exact trivial | refine ⟨rfl, ?_⟩ | refine ⟨by (simp only [go_sem, zA, zB, zC, zD, zE, zF, zG, reduceCtorEq, zH, zI, zJ, zK, zL, List.length_append, List.length_map, List.length_cons, List.length_nil, Nat.zero_add]) <;> rfl, ?_⟩)) (by repeat (first | exact trivial | refine ⟨rfl, ?_⟩ | refine ⟨by (simp only [go_sem, zA, zB, zC, zD, zE, zF, zG, reduceCtorEq, zH, zI, zJ, zK, zL, List.length_append, List.length_map, List.length_cons, List.length_nil, Nat.zero_add]) <;> rfl, ?_⟩)) rfl rfl rfl)
  ·have hd0 : decide (0 < (k : Int)) = true := by rw [decide_eq_true_eq]; omega
   have hde : decide ((k : Int) = 0) = false := by rw [decide_eq_false_iff_not]; omega
   have hcp : clPar false k p t = ⟨t.s ++ [44, 32] ++ freshV t.g, t.env ++ [⟨freshV t.g, p⟩], bif decide (t.guard = []) then (testV (freshV t.g) p (incK t.g)).1 else [40] ++ t.guard ++ [32, 97, 110, 100, 32] ++ (testV (freshV t.g) p (incK t.g)).1 ++ [41], (testV (freshV t.g) p (incK t.g)).2⟩ := by unfold clPar; rw [show decide (k = 0) = false from by simp [hk0], Bool.and_false]; rfl
   rw [hcp] at hsuc
   cases hgd : decide (t.guard = []) with
   | true =>
    rw [hgd, cond_true] at hsuc
    repeat' (first | (simp only [go_sem, zA, zB, zC, zD, zE, zF, zG, reduceCtorEq, zH, zI, zJ, zK, zL, List.length_map, hbb, encZ, hd0, hde, hgd, nam_snoc, Bx.puts]; all_goals fail_if_success guard_target =ₛ False) | (with_reducible first | ((first | refine seqVC_stepN rfl ?_ | refine seqVC_stepG rfl (by with_unfolding_all rfl) ?_ | refine AWP.seq ?_ | refine AWP.seqR (by kernel_rfl) ?_); intro K hK) | ((first | refine hK _ _ _ ?_ | refine hK _ _ ?_ | refine hK _ ?_); clear hK K) | refine seqVC_nil ?_ | refine AWP.block ?_ | (refine AWP.cond (by with_unfolding_all rfl) ?_ ?_ <;> intro h <;> (try simp only [zM, zN] at h) <;> try exact absurd h (by decide)) | refine AWP.skip ?_ | refine AWP.ret ?_ | refine AWP.exit ?_ | (refine ⟨fun h => ?_, fun h => ?_⟩ <;> (try simp only [zM, zN] at h) <;> try simp only [h]) | refine ⟨by omega, encZ p, hx', ?_⟩ | refine ⟨encZ p, hx', ?_⟩ | refine ⟨(by omega : _ ≤ _), ?_⟩ | refine ⟨(by omega : _ ≤ _), (by omega : _ ≤ _), ?_⟩ | (refine ⟨(by first | omega | (simp only [List.length_append, List.length_map, List.length_take, List.length_drop, List.length_cons, List.length_nil, List.length_replicate]; omega) : _ ≤ _), ?_⟩) | refine ⟨by omega, by omega, ?_⟩) | ( refine Or.inr ⟨_, _, _, fresh_c c t.g, ⟨rfl, rfl, trivial⟩, rfl, rfl, ?_⟩) | ( refine Or.inr ⟨_, _, _, htc, ⟨rfl, rfl, trivial⟩, rfl, rfl, ?_⟩) | (with_reducible first | refine Or.inl ?_) | (clear hK K))
    all_goals (rw [wrap_succ hlt hlen0, hsuc]; exact Gh.to [(900, 48)] (by repeat (first | exact trivial | refine ⟨rfl, ?_⟩ | refine ⟨by (simp only [go_sem, zA, zB, zC, zD, zE, zF, zG, reduceCtorEq, zH, zI, zJ, zK, zL, List.length_append, List.length_map, List.length_cons, List.length_nil, Nat.zero_add]) <;> rfl, ?_⟩)) (by repeat (first | exact trivial | refine ⟨rfl, ?_⟩ | refine ⟨by (simp only [go_sem, zA, zB, zC, zD, zE, zF, zG, reduceCtorEq, zH, zI, zJ, zK, zL, List.length_append, List.length_map, List.length_cons, List.length_nil, Nat.zero_add]) <;> rfl, ?_⟩)) rfl rfl rfl)
   | false =>
    rw [hgd, cond_false] at hsuc
    repeat' (first | (simp only [go_sem, zA, zB, zC, zD, zE, zF, zG, reduceCtorEq, zH, zI, zJ, zK, zL, List.length_map, hbb, encZ, hd0, hde, hgd, nam_snoc, Bx.puts]; all_goals fail_if_success guard_target =ₛ False) | (with_reducible first | ((first | refine seqVC_stepN rfl ?_ | refine seqVC_stepG rfl (by with_unfolding_all rfl) ?_ | refine AWP.seq ?_ | refine AWP.seqR (by kernel_rfl) ?_); intro K hK) | ((first | refine hK _ _ _ ?_ | refine hK _ _ ?_ | refine hK _ ?_); clear hK K) | refine seqVC_nil ?_ | refine AWP.block ?_ | (refine AWP.cond (by with_unfolding_all rfl) ?_ ?_ <;> intro h <;> (try simp only [zM, zN] at h) <;> try exact absurd h (by decide)) | refine AWP.skip ?_ | refine AWP.ret ?_ | refine AWP.exit ?_ | (refine ⟨fun h => ?_, fun h => ?_⟩ <;> (try simp only [zM, zN] at h) <;> try simp only [h]) | refine ⟨by omega, encZ p, hx', ?_⟩ | refine ⟨encZ p, hx', ?_⟩ | refine ⟨(by omega : _ ≤ _), ?_⟩ | refine ⟨(by omega : _ ≤ _), (by omega : _ ≤ _), ?_⟩ | (refine ⟨(by first | omega | (simp only [List.length_append, List.length_map, List.length_take, List.length_drop, List.length_cons, List.length_nil, List.length_replicate]; omega) : _ ≤ _), ?_⟩) | refine ⟨by omega, by omega, ?_⟩) | ( refine Or.inr ⟨_, _, _, fresh_c c t.g, ⟨rfl, rfl, trivial⟩, rfl, rfl, ?_⟩) | ( refine Or.inr ⟨_, _, _, htc, ⟨rfl, rfl, trivial⟩, rfl, rfl, ?_⟩) | (with_reducible first | refine Or.inl ?_) | (clear hK K))
    all_goals (rw [wrap_succ hlt hlen0, hsuc]; exact Gh.to [(900, 48)] (by repeat (first | exact trivial | refine ⟨rfl, ?_⟩ | refine ⟨by (simp only [go_sem, zA, zB, zC, zD, zE, zF, zG, reduceCtorEq, zH, zI, zJ, zK, zL, List.length_append, List.length_map, List.length_cons, List.length_nil, Nat.zero_add]) <;> rfl, ?_⟩)) (by repeat (first | exact trivial | refine ⟨rfl, ?_⟩ | refine ⟨by (simp only [go_sem, zA, zB, zC, zD, zE, zF, zG, reduceCtorEq, zH, zI, zJ, zK, zL, List.length_append, List.length_map, List.length_cons, List.length_nil, Nat.zero_add]) <;> rfl, ?_⟩)) rfl rfl rfl)
 ·intro t hbb hok
  simp only [go_sem, zA, zB, zC, zD, zE, zF, zG, reduceCtorEq, zH, zI, zJ, zK, zL]
  have hok2 := (hca d.params.length).mono hpl
  rw [← hok] at hok2
  obtain ⟨h1, h2, h3, h4, h5⟩ := hok2
  have he : EOk m t.env := ⟨by omega, h3⟩
  refine AWP.gh (Gh.freeze 900 rfl rfl (by simp only [go_sem, zA, zB, zC, zD, zE, zF, zG, reduceCtorEq, zH, zI, zJ, zK, zL, List.length_map]) (by simp only [go_sem, zA, zB, zC, zD, zE, zF, zG, reduceCtorEq, zH, zI, zJ, zK, zL, List.length_map])) ?_
  simp only [go_sem, zA, zB, zC, zD, zE, zF, zG, reduceCtorEq, zH, zI, zJ, zK, zL, List.length_map]
  cases hgd : decide (t.guard = []) with
  | true =>
   have r0 := hE.run d.res t.env t.g h5 he
   have l0 := hE.len d.res t.env t.g h5 he
   have hbody : clBody c d n t = (t.s ++ [41] ++ [32, 45, 62, 32] ++ (exprV c n d.res t.env t.g).1, (exprV c n d.res t.env t.g).2) := by unfold clBody; rw [hgd]; rfl
   repeat' (first | (simp only [go_sem, zA, zB, zC, zD, zE, zF, zG, reduceCtorEq, zH, zI, zJ, zK, zL, List.length_map, hbb, hgd, Bx.puts]; all_goals fail_if_success guard_target =ₛ False) | (with_reducible first | ((first | refine seqVC_stepN rfl ?_ | refine seqVC_stepG rfl (by with_unfolding_all rfl) ?_ | refine AWP.seq ?_ | refine AWP.seqR (by kernel_rfl) ?_); intro K hK) | ((first | refine hK _ _ _ ?_ | refine hK _ _ ?_ | refine hK _ ?_); clear hK K) | refine seqVC_nil ?_ | refine AWP.block ?_ | (refine AWP.cond (by with_unfolding_all rfl) ?_ ?_ <;> intro h <;> (try simp only [zM, zN] at h) <;> try exact absurd h (by decide)) | refine AWP.skip ?_ | refine AWP.ret ?_ | refine AWP.exit ?_ | (refine ⟨fun h => ?_, fun h => ?_⟩ <;> (try simp only [zM, zN] at h) <;> try simp only [h]) | (refine ⟨(by first | omega | (simp only [List.length_append, List.length_map, List.length_take, List.length_drop, List.length_cons, List.length_nil, List.length_replicate]; omega) : _ ≤ _), ?_⟩) | refine ⟨by omega, by omega, ?_⟩) | (refine ⟨1000001, _, _, _, draw_k 1000001 t.g.s h5 5 (by omega), rfl, ?_⟩) | ( refine Or.inr ⟨_, _, _, r0, ⟨rfl, rfl, trivial⟩, rfl, rfl, ?_⟩) | (with_reducible first | refine Or.inl ?_) | (clear hK K))
   all_goals (rw [← hok, hbody]; exact ⟨rfl, fun x hx => List.mem_cons_of_mem _ hx⟩)
  | false =>
   have r0 := hE.run d.res t.env (nxt t.g 5) (ok_nxt h5 5) he
   have l0 := hE.len d.res t.env (nxt t.g 5) (ok_nxt h5 5) he
   cases hwh : decide (0 < drawV t.g.s 5) with
   | true =>
    have hbody : clBody c d n t = (t.s ++ [41] ++ ([32, 119, 104, 101, 110, 32] ++ t.guard) ++ [32, 45, 62, 32] ++ (exprV c n d.res t.env (nxt t.g 5)).1, (exprV c n d.res t.env (nxt t.g 5)).2) := by unfold clBody; rw [hgd, hwh]; rfl
    repeat' (first | (simp only [go_sem, zA, zB, zC, zD, zE, zF, zG, reduceCtorEq, zH, zI, zJ, zK, zL, List.length_map, hbb, hgd, hwh, Bx.puts]; all_goals fail_if_success guard_target =ₛ False) | (with_reducible first | ((first | refine seqVC_stepN rfl ?_ | refine seqVC_stepG rfl (by with_unfolding_all rfl) ?_ | refine AWP.seq ?_ | refine AWP.seqR (by kernel_rfl) ?_); intro K hK) | ((first | refine hK _ _ _ ?_ | refine hK _ _ ?_ | refine hK _ ?_); clear hK K) | refine seqVC_nil ?_ | refine AWP.block ?_ | (refine AWP.cond (by with_unfolding_all rfl) ?_ ?_ <;> intro h <;> (try simp only [zM, zN] at h) <;> try exact absurd h (by decide)) | refine AWP.skip ?_ | refine AWP.ret ?_ | refine AWP.exit ?_ | (refine ⟨fun h => ?_, fun h => ?_⟩ <;> (try simp only [zM, zN] at h) <;> try simp only [h]) | (refine ⟨(by first | omega | (simp only [List.length_append, List.length_map, List.length_take, List.length_drop, List.length_cons, List.length_nil, List.length_replicate]; omega) : _ ≤ _), ?_⟩) | refine ⟨by omega, by omega, ?_⟩) | (refine ⟨1000001, _, _, _, draw_k 1000001 t.g.s h5 5 (by omega), rfl, ?_⟩) | ( refine Or.inr ⟨_, _, _, r0, ⟨rfl, rfl, trivial⟩, rfl, rfl, ?_⟩) | (with_reducible first | refine Or.inl ?_) | (clear hK K))
    all_goals (rw [← hok, hbody]; exact ⟨rfl, fun x hx => List.mem_cons_of_mem _ hx⟩)
   | false =>
    have hbody : clBody c d n t = (t.s ++ [41] ++ [32, 45, 62, 32] ++ (exprV c n d.res t.env (nxt t.g 5)).1, (exprV c n d.res t.env (nxt t.g 5)).2) := by unfold clBody; rw [hgd, hwh]; rfl
    repeat' (first | (simp only [go_sem, zA, zB, zC, zD, zE, zF, zG, reduceCtorEq, zH, zI, zJ, zK, zL, List.length_map, hbb, hgd, hwh, Bx.puts]; all_goals fail_if_success guard_target =ₛ False) | (with_reducible first | ((first | refine seqVC_stepN rfl ?_ | refine seqVC_stepG rfl (by with_unfolding_all rfl) ?_ | refine AWP.seq ?_ | refine AWP.seqR (by kernel_rfl) ?_); intro K hK) | ((first | refine hK _ _ _ ?_ | refine hK _ _ ?_ | refine hK _ ?_); clear hK K) | refine seqVC_nil ?_ | refine AWP.block ?_ | (refine AWP.cond (by with_unfolding_all rfl) ?_ ?_ <;> intro h <;> (try simp only [zM, zN] at h) <;> try exact absurd h (by decide)) | refine AWP.skip ?_ | refine AWP.ret ?_ | refine AWP.exit ?_ | (refine ⟨fun h => ?_, fun h => ?_⟩ <;> (try simp only [zM, zN] at h) <;> try simp only [h]) | (refine ⟨(by first | omega | (simp only [List.length_append, List.length_map, List.length_take, List.length_drop, List.length_cons, List.length_nil, List.length_replicate]; omega) : _ ≤ _), ?_⟩) | refine ⟨by omega, by omega, ?_⟩) | (refine ⟨1000001, _, _, _, draw_k 1000001 t.g.s h5 5 (by omega), rfl, ?_⟩) | ( refine Or.inr ⟨_, _, _, r0, ⟨rfl, rfl, trivial⟩, rfl, rfl, ?_⟩) | (with_reducible first | refine Or.inl ?_) | (clear hK K))
    all_goals (rw [← hok, hbody]; exact ⟨rfl, fun x hx => List.mem_cons_of_mem _ hx⟩)
def expV (d : CalD) : List UInt8 := d.name ++ [47] ++ Lib.itoa (d.params.length : Int)
theorem expV_len (d : CalD) (h : CalOk d) : (expV d).length ≤ 200 := by
 obtain ⟨h1, h2, h3⟩ := h
 have := itoa_len (n := (d.params.length : Int)) (by omega) (by omega)
 simp only [expV, List.length_append, List.length_cons, List.length_nil]; omega
def hdAt (l : List CalD) (s : List UInt8) (g : Gn) : Nat → List UInt8 × Gn
 | 0 => (s, g)
 | k + 1 =>
  let r := hdAt l s g k
  (bif decide (drawV r.2.s 3 = 0) then r.1 ++ headerV (l.getD k ⟨[], [], [], 0⟩) else r.1, nxt r.2 3)
/-- the clauses of a function -/
def fnV (c : Cst) (d : CalD) (g : Gn) : List UInt8 × Gn :=
 let n := (drawV g.s 3).toNat
 let g1 := nxt g 3
 bif decide (0 < (d.params.length : Int)) then
  bif decide (drawV g1.s 2 = 0) then
   ((clauseV c true d n (nxt g1 2)).1 ++ [59, 10] ++ ((clauseV c false d (n + 1) (clauseV c true d n (nxt g1 2)).2).1 ++ [46, 10]), (clauseV c false d (n + 1) (clauseV c true d n (nxt g1 2)).2).2)
  else ((clauseV c false d (n + 1) (nxt g1 2)).1 ++ [46, 10], (clauseV c false d (n + 1) (nxt g1 2)).2)
 else ((clauseV c false d (n + 1) g1).1 ++ [46, 10], (clauseV c false d (n + 1) g1).2)
def fnAt (c : Cst) (l : List CalD) (s : List UInt8) (g : Gn) : Nat → List UInt8 × Gn
 | 0 => (s, g)
 | k + 1 =>
  let r := fnAt c l s g k
  (r.1 ++ (fnV c (l.getD k ⟨[], [], [], 0⟩) r.2).1, (fnV c (l.getD k ⟨[], [], [], 0⟩) r.2).2)
def modL (g : Gn) : List CalD × Gn := calsAt [] (nxt g 3) (drawV g.s 3 + 1).toNat
def modC (c : Cst) (g : Gn) : Cst := { c with calls := (modL g).1 }
def modS (name : List UInt8) (g : Gn) : List UInt8 := [109, 111, 100, 117, 108, 101, 32] ++ name ++ [46, 10] ++ ([101, 120, 112, 111, 114, 116, 32] ++ commaV ((modL g).1.map expV) ++ [46, 10])
def moduleV (c : Cst) (name : List UInt8) (g : Gn) : List UInt8 × Gn :=
 let r := hdAt (modL g).1 (modS name g) (modL g).2 (modL g).1.length
 fnAt (modC c g) (modL g).1 r.1 r.2 (modL g).1.length
theorem clauseV_fine (c : Cst) (hw : c.wild = 0) (hc : CstOk c) (sp : Bool) (d : CalD) (hd : CalOk d) (n : Nat) (hn : n ≤ 3) (g : Gn) (hg : g.s.ok) : Fine 25000 (clauseV c sp d n g) := by
 have hE := expr_good c hw hc n (by omega)
 have h := clBody_fine hE (by omega) d _ ((clAt_ok sp d hd g hg d.params.length).mono hd.2.2)
 have hl : lenE n ≤ 20000 := by
  have : ∀ n, n ≤ 3 → lenE n ≤ 20000 := by decide
  exact this n hn
 exact ⟨h.1, by have := h.2; unfold clauseV; omega⟩
theorem fnV_fine (c : Cst) (hw : c.wild = 0) (hc : CstOk c) (d : CalD) (hd : CalOk d) (g : Gn) (hg : g.s.ok) : Fine 60000 (fnV c d g) := by
 have hv := drawV_in g.s (n := 3) (by omega)
 have h0 := fun n (hn : n ≤ 3) sp g (hg : Src.ok (Gn.s g)) => clauseV_fine c hw hc sp d hd n hn g hg
 have hg1 := ok_nxt hg 3
 have hg2 := ok_nxt hg1 2
 unfold fnV
 refine bif_fine _ (bif_fine _ ?_ ?_) ?_
 ·have h1 := h0 (drawV g.s 3).toNat (by omega) true _ hg2
  have h2 := h0 ((drawV g.s 3).toNat + 1) (by omega) false _ h1.1
  exact ⟨h2.1, by have := h1.2; have := h2.2; simp only [List.length_append, List.length_cons, List.length_nil]; omega⟩
 ·have h2 := h0 ((drawV g.s 3).toNat + 1) (by omega) false _ hg2
  exact ⟨h2.1, by have := h2.2; simp only [List.length_append, List.length_cons, List.length_nil]; omega⟩
 ·have h2 := h0 ((drawV g.s 3).toNat + 1) (by omega) false _ hg1
  exact ⟨h2.1, by have := h2.2; simp only [List.length_append, List.length_cons, List.length_nil]; omega⟩
theorem getD_mem {l : List CalD} {k : Nat} (hk : k < l.length) : l.getD k ⟨[], [], [], 0⟩ ∈ l := by
 rw [List.getD_eq_getElem?_getD, List.getElem?_eq_getElem hk]; exact List.getElem_mem _
theorem hdAt_fine (l : List CalD) (hl : ∀ d ∈ l, CalOk d ∧ HdOk d) (s : List UInt8) (g : Gn) (hg : g.s.ok) : ∀ k, k ≤ l.length → Fine (s.length + 310 * k) (hdAt l s g k)
 | 0, _ => ⟨hg, Nat.le_refl _⟩
 | k + 1, hk => by
  have ih := hdAt_fine l hl s g hg k (by omega)
  have hd := hl _ (getD_mem (show k < l.length by omega))
  have hh := headerV_len _ hd.1 hd.2
  refine ⟨ok_nxt ih.1 3, ?_⟩
  have := ih.2
  simp only [hdAt]
  cases decide (drawV (hdAt l s g k).2.s 3 = 0) <;> simp only [cond_true, cond_false, List.length_append] <;> omega
theorem fnAt_fine (c : Cst) (hw : c.wild = 0) (hc : CstOk c) (l : List CalD) (hl : ∀ d ∈ l, CalOk d ∧ HdOk d) (s : List UInt8) (g : Gn) (hg : g.s.ok) : ∀ k, k ≤ l.length → Fine (s.length + 60000 * k) (fnAt c l s g k)
 | 0, _ => ⟨hg, Nat.le_refl _⟩
 | k + 1, hk => by
  have ih := fnAt_fine c hw hc l hl s g hg k (by omega)
  have hd := hl _ (getD_mem (show k < l.length by omega))
  have hh := fnV_fine c hw hc _ hd.1 _ ih.1
  refine ⟨hh.1, ?_⟩
  have := ih.2
  have := hh.2
  simp only [fnAt, List.length_append]; omega
theorem modL_fine (g : Gn) (hg : g.s.ok) : (modL g).2.s.ok ∧ (modL g).1.length = (drawV g.s 3 + 1).toNat ∧ ∀ d ∈ (modL g).1, CalOk d ∧ HdOk d := by
 have hv := drawV_in g.s (n := 3) (by omega)
 exact calsAt_fine [] (by simp) (nxt g 3) (ok_nxt hg 3) _ (by omega)
theorem modC_ok (c : Cst) (g : Gn) (hg : g.s.ok) : CstOk (modC c g) := by
 have h := modL_fine g hg
 have hv := drawV_in g.s (n := 3) (by omega)
 exact ⟨by have := h.2.1; simp only [modC]; omega, fun d hd => (h.2.2 d hd).1⟩
theorem modS_len (name : List UInt8) (hn : name.length ≤ 100) (g : Gn) (hg : g.s.ok) : (modS name g).length ≤ 3000 := by
 have h := modL_fine g hg
 have hv := drawV_in g.s (n := 3) (by omega)
 have hj := commaV_len ((modL g).1.map expV) (by rw [List.length_map]; omega) (fun x hx => by obtain ⟨d, hd, rfl⟩ := List.mem_map.1 hx; exact expV_len d (h.2.2 d hd).1)
 unfold modS
 simp only [List.length_append, List.length_cons, List.length_nil]; omega
theorem moduleV_fine (c : Cst) (hw : c.wild = 0) (name : List UInt8) (hn : name.length ≤ 100) (g : Gn) (hg : g.s.ok) : Fine 200000 (moduleV c name g) := by
 have h := modL_fine g hg
 have hv := drawV_in g.s (n := 3) (by omega)
 have hs := modS_len name hn g hg
 have h1 := hdAt_fine (modL g).1 h.2.2 (modS name g) _ h.1 (modL g).1.length (Nat.le_refl _)
 have h2 := fnAt_fine (modC c g) hw (modC_ok c g hg) (modL g).1 h.2.2 (hdAt (modL g).1 (modS name g) (modL g).2 (modL g).1.length).1 _ h1.1 (modL g).1.length (Nat.le_refl _)
 exact ⟨h2.1, by have := h1.2; have := h2.2; simp only [moduleV]; omega⟩
end Go.Proofs.YtogponhonjiidaaDoor

