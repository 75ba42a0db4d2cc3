/- A part of the proof: lemmas about the walk of the program and about plain integers and lists. No conditions beyond those that each lemma states. -/
import Derived.Test.YtogponhonjiidaaDoorTx6
import Derived.Test.YtogponhonjiidaaDoorTx5
import Derived.Test.YtogponhonjiidaaDoorTx4
set_option linter.unusedVariables false
set_option linter.unusedSimpArgs false
namespace Go.Sx
variable {P : Program} {n : Nat} {σ : AS} {Q : Exit → AS → Prop}
theorem gen_sound2 {κ : Kap} {M0 : Mem} {l : List Oper} {fx : Nat → Bx} {t : Nat → T} {b : Nat → Bx} {e : Nat → Bool} {jn : Nat → Option Nat} {env0 : Env} {Q' : Exit → Act → World → Prop}
  (hback : Back l) (hpairs : Pairs l) (hord : EffOrdG l e)
  (hs : ∀ i o, l[i]? = some o → OSpecG P n l (fx i) o (envA l t (fun _ => true) env0 i) (b i) (t i) (b (i + 1)) (e i) (jn i)) (hf : ∀ i m, i < l.length → m ≤ l.length → (∀ j, j < m → e j = true → depB l j i = false) → ∀ x ∈ fx i, x ∈ b m)
  (hfr : ∀ g k j, jn g = some j → g < k → k < l.length → (t k).fresh j = true ∨ depB l k g = true)
  (hQ : ∀ a w, St κ M0 n ⟨envA l t (fun _ => true) env0 l.length, b l.length⟩ a w → Q' .normal a w) :
  ∀ (fuel : Nat) (listed : Array Bool) (a : Act) (w : World), cnt l listed = fuel → Mid κ M0 n l t b e env0 listed a w →
   wpAny P .any l.toArray Q' fuel listed a w := by
 have hbc : ∀ i, i < l.length → e i = false → b (i + 1) = b i := by
  intro i hi he
  rcases (hs i l[i] (by simp [hi])).2 with ⟨_, ⟨_, _, _, h⟩ | ⟨h, _⟩ | ⟨_, h, _⟩⟩ | ⟨_, _, h, _⟩
  ·exact h
  ·rw [he] at h; cases h
  ·rw [he] at h; cases h
  ·exact h
 have done : ∀ (listed : Array Bool) (a : Act) (w : World), Mid κ M0 n l t b e env0 listed a w → (∀ i, i < l.length → listed.getD i false = true) → Q' .normal a w := by
  intro listed a w hm hall
  obtain ⟨M, ν, m, h1, h2, h3, h4, h5, h6, h7, h8⟩ := hm.st
  refine hQ a w ⟨M, ν, h1, h2, h3, ?_, ?_⟩
  ·intro d u hu
   refine h4 d u ?_
   rw [envA_same l t (xs listed) (fun _ => true) env0 d l.length (fun j o hj _ _ => hall j hj)]
   exact hu
  ·have : b l.length = b m := const_b hbc m l.length h5 (Nat.le_refl _) (fun j hj1 hj2 => by
    cases hj : e j with
    | false => rfl
    | true => have := (h6 j hj2 hj).1 (hall j hj2); omega)
   simp only [this]
   exact ⟨h7, h8⟩
 have hord' : ∀ listed : Array Bool, Closed l listed → ∀ i j, i < j → j < l.length → e i = true → e j = true → listed.getD j false = true → listed.getD i false = true := by
  intro listed hc i j hij hj hei hej hx
  exact dep_of (hord i j hij hj hei hej) (List.getElem?_eq_getElem hj) hc (fun e' he' hb' => hc j l[j] (List.getElem?_eq_getElem hj) hx e' he' hb')
 intro fuel
 induction fuel with
 | zero =>
  intro listed a w hfuel hm
  have hall := cnt_zero hfuel
  exact ⟨ready_none hm.size hall, done listed a w hm hall⟩
 | succ fuel ih =>
  intro listed a w hfuel hm
  refine ⟨fun hr => done listed a w hm (ready_least hback hm.size hr), fun i hi => ?_⟩
  obtain ⟨h0, oi, hoi, hall⟩ := mem_ready.1 hi
  have hil : i < l.length := by have := (Array.getElem?_eq_some_iff.1 hoi).1; simpa using this
  have hoi' : l[i]? = some oi := by simpa using hoi
  have hisz : i < listed.size := by rw [hm.size]; exact hil
  have hxi : listed.getD i false = false := by simp [hisz] at h0 ⊢; exact h0
  obtain ⟨M, ν, m, h1, h2, h3, h4, h5, h6, h7, h8⟩ := hm.st
  obtain ⟨hd, hspec⟩ := hs i oi hoi'
  have look : ∀ d, d ∈ oi.looksAt l.toArray → (envA l t (xs listed) env0 l.length).lookup d = (envA l t (fun _ => true) env0 i).lookup d := by
   intro d hdm
   rw [envA_skip l t (xs listed) env0 d i l.length (by omega) ?_, envA_same l t (xs listed) (fun _ => true) env0 d i ?_]
   ·intro j o hj ho hod
    rcases hpairs j i o oi hj ho hoi' with ⟨e', he', hb', hon⟩ | hap
    ·exact hon ▸ hall e' he' hb'
    ·exact absurd hdm ((Oper.apart_spec hap).1 d hod)
   ·intro j o hj hjl ho hod
    by_cases hji : i = j
    ·subst hji; exact hxi
    ·cases hxj : xs listed j with
     | false => rfl
     | true =>
      rcases hpairs i j oi o (by omega) hoi' ho with ⟨e', he', hb', hon⟩ | hap
      ·have := hm.closed j o ho hxj e' he' hb'
       rw [hon, hxi] at this; cases this
      ·exact absurd hdm ((Oper.apart_spec hap).2.2 d hod)
  have hclosed : Closed l (listed.setIfInBounds i true) := by
   intro j oj hj hx e' he' hb'
   by_cases hji : i = j
   ·subst hji
    rw [hoi'] at hj; cases hj
    exact getD_set_true (hall e' he' hb')
   ·rw [getD_set_ne false hji] at hx
    exact getD_set_true (hm.closed j oj hj hx e' he' hb')
  have hcount : cnt l (listed.setIfInBounds i true) = fuel := by
   have := cnt_set hm.size hil hxi; omega
  have after : ∀ (M' : Mem) (ν' : Nu) (v : Value) (w' : World) (m' : Nat), M.ext κ M' → EnvOk M ν' a.tmps (envA l t (xs listed) env0 l.length) → (t i).rep M' ν' v → m' ≤ l.length →
    (∀ j, j < l.length → e j = true → ((listed.setIfInBounds i true).getD j false = true ↔ j < m')) → Sat κ M' ν' (b m') w' → (∀ k, pin ≤ k → ν' k = κ.nu k) →
    Mid κ M0 n l t b e env0 (listed.setIfInBounds i true) (a.put oi.dst v) w' := by
   intro M' ν' v w' m' hle h4 hr hm' hem hsat hpin
   refine ⟨by simpa using hm.size, hclosed, M', ν', m', h1.trans hle, by rw [Act.put_size]; exact h2, by rw [Act.put_defers']; exact h3, ?_, hm', hem, hsat, hpin⟩
   have hput := EnvOk.put (df := a.defers) (h4.mono hle.1) (dst := oi.dst) (v := v) (t := t i) (fun d he => by rw [h2]; exact dstOk_spec hd d he) hr
   intro k u hu
   refine hput k u ?_
   rw [putE_lookup]
   by_cases hk : oi.dst = some k
   ·rw [if_pos hk]
    have e1 := envA_skip l t (xs (listed.setIfInBounds i true)) env0 k (i + 1) l.length (by omega) (fun j o hj hjl ho hod => by
     cases hxj : xs (listed.setIfInBounds i true) j with
     | false => rfl
     | true =>
      have hne : i ≠ j := by omega
      have hxj' : listed.getD j false = true := by rw [← getD_set_ne false hne]; exact hxj
      rcases hpairs i j oi o (by omega) hoi' ho with ⟨e', he', hb', hon⟩ | hap
      ·have := hm.closed j o ho hxj' e' he' hb'
       rw [hon, hxi] at this; cases this
      ·exact absurd hod ((Oper.apart_spec hap).2.1 k hk))
    rw [e1] at hu
    have hself : xs (listed.setIfInBounds i true) i = true := by simp [xs, hisz]
    rw [envA, hself] at hu
    simp only [cond_true, putE_lookup, hoi', Option.bind_some, hk, if_true] at hu
    exact hu
   ·rw [if_neg hk]
    have e2 := envA_same l t (xs (listed.setIfInBounds i true)) (xs listed) env0 k l.length (fun j o hj ho hod => by
     have hne : i ≠ j := fun h => by subst h; rw [hoi'] at ho; cases ho; exact hk hod
     exact getD_set_ne false hne)
    rw [← e2]; exact hu
  have hon : EnvOn M ν a (envA l t (fun _ => true) env0 i) oi := by
   intro d u hdo hu
   refine h4 d u ?_
   rw [look d (looksAt_op hdo)]; exact hu
  have hgd : ∀ g want d u, oi.guard = some (g, want) → (l[g]?).bind (·.dst) = some d → (envA l t (fun _ => true) env0 i).lookup d = some u → u.rep M ν (a.tmps.getD d undef) := by
   intro g want d u hg hgd hu
   refine h4 d u ?_
   rw [look d (looksAt_guard hg hgd)]; exact hu
  have samem : e i = false → ∀ j, j < l.length → e j = true → ((listed.setIfInBounds i true).getD j false = true ↔ j < m) := by
   intro hei j hj hej
   have hne : i ≠ j := fun h => by subst h; rw [hei] at hej; cases hej
   rw [getD_set_ne false hne]; exact h6 j hj hej
  -- what an operation that turns boxes finds and leaves
  have effm : e i = true → b i = b m ∧ ∀ j, j < l.length → e j = true → ((listed.setIfInBounds i true).getD j false = true ↔ j < i + 1) := by
   intro hei
   have hmi : m ≤ i := by
    rcases Nat.lt_or_ge i m with h | h
    ·have := (h6 i hil hei).2 h; rw [hxi] at this; cases this
    ·exact h
   have prev : ∀ j, j < i → e j = true → listed.getD j false = true := by
    intro j hj hej
    have hself : (listed.setIfInBounds i true).getD i false = true := by simp [hisz]
    have := hord' _ hclosed j i hj hil hej hei hself
    rwa [getD_set_ne false (by omega)] at this
   refine ⟨const_b hbc m i hmi (by omega) (fun j hj1 hj2 => by
    cases hj : e j with
    | false => rfl
    | true => have := (h6 j (by omega) hj).1 (prev j hj2 hj); omega), fun j hj hej => ?_⟩
   by_cases hji : i = j
   ·subst hji; simp [hisz]
   ·rw [getD_set_ne false hji]
    constructor
    ·intro hx
     rcases Nat.lt_or_ge i j with h | h
     ·have := hord' _ hm.closed i j h hj hei hej hx
      rw [hxi] at this; cases this
     ·omega
    ·intro hx
     exact prev j (by omega) hej
  unfold wpOp
  rw [hoi]
  simp only []
  rcases hspec with ⟨hg, ⟨hei, hjn, hop, hbb⟩ | ⟨hei, hjn, hop⟩ | ⟨k, hei, hjn, hop, hkp, hfk⟩⟩ | ⟨hg, ht, hbb, hei, hjn⟩
  ·rw [if_pos (wanted_of hg hgd)]
   left
   refine Oper.wp_mono_Q (Oper.wp_mono ?_ (hop κ M ν a w (b m) (hf i m hil h5 (fun j hj hej => by
    cases hdp : depB l j i with
    | false => rfl
    | true =>
     have hjl : j < l.length := by omega
     have hlj := (h6 j hjl hej).2 hj
     have := dep_of hdp (List.getElem?_eq_getElem hjl) hm.closed (fun e' he' hb' => hm.closed j l[j] (List.getElem?_eq_getElem hjl) hlj e' he' hb')
     rw [hxi] at this; cases this)) hon h7))
   rintro a' w' ⟨v, M', rfl, hle, hr, hsat⟩
   exact ih _ _ _ hcount (after M' ν v w' m hle h4 hr h5 (samem hei) hsat h8)
  ·rw [if_pos (wanted_of hg hgd)]
   left
   obtain ⟨hbm, hem⟩ := effm hei
   refine Oper.wp_mono_Q (Oper.wp_mono ?_ (hop κ M ν a w hon (by rw [hbm]; exact h7)))
   rintro a' w' ⟨v, M', rfl, hle, hr, hsat⟩
   exact ih _ _ _ hcount (after M' ν v w' (i + 1) hle h4 hr hil hem hsat h8)
  ·rw [if_pos (wanted_of hg hgd)]
   left
   obtain ⟨hbm, hem⟩ := effm hei
   refine Oper.wp_mono_Q (Oper.wp_mono ?_ (hop κ M ν a w hon (by rw [hbm]; exact h7)))
   rintro a' w' ⟨v, M', ν', rfl, hle, hν, hr, hsat⟩
   obtain ⟨hf0, hft⟩ := fresh_envA i hfk
   have hfresh : Env.fresh k (envA l t (xs listed) env0 l.length) = true := by
    refine envA_fresh' hf0 l.length (fun q hq hx hdq => ?_)
    rcases Nat.lt_trichotomy q i with h | h | h
    ·exact hft q h hdq
    ·subst h; unfold xs at hx; rw [hxi] at hx; cases hx
    ·rcases hfr i q k hjn h hq with h' | h'
     ·exact h'
     ·exfalso
      have := dep_of h' (List.getElem?_eq_getElem hq) hm.closed (fun e' he' hb' => hm.closed q l[q] (List.getElem?_eq_getElem hq) hx e' he' hb')
      rw [hxi] at this; cases this
   exact ih _ _ _ hcount (after M' ν' v w' (i + 1) hle (h4.fresh hfresh hν) hr hil hem hsat (fun q hq => by rw [hν q (by omega)]; exact h8 q hq))
  ·rw [unwanted_of hg hgd]
   simp only [Bool.false_eq_true, if_false]
   refine ih _ _ _ hcount (after M ν undef w m (Mem.ext.refl κ M) h4 (by rw [ht]; simp [undefT, T.rep, Cell.rep, C.rep]) h5 (samem hei) h7 h8)
/-- all that is done from j0 on waits for the operation i -/
def earlyB (all : List Oper) (es : List Nat) (j0 i : Nat) : Bool := es.all fun e => Nat.blt e j0 || depB all e i
def fxOf (ear : List Nat) (fixB fixC : Bx) (i : Nat) : Bx := bif memN i ear then fixC else fixB
def genVC2 (P : Program) (all : List Oper) (es ear : List Nat) (fixB : Bx) (j0 : Nat) (fixC : Bx) : Nat → List (Nat × Nat) → List Oper → Env → Bx → (Env → Bx → Prop) → Prop
  | _, _, [], env, B, K => K env B
  | i, gs, o :: os, env, B, K => guardT all env o
      (bif memN i es then effVC P o env B fun t B' => bxSub B' fixB ∧ (bif decide (i < j0) then bxSub B' fixC else True) ∧ FreshOr all i t gs ∧ genVC2 P all es ear fixB j0 fixC (i + 1) (gsNext i o gs) os (putE env o.dst t) B' K
       else pureVC P o env (fxOf ear fixB fixC i) fun t => FreshOr all i t gs ∧ genVC2 P all es ear fixB j0 fixC (i + 1) gs os (putE env o.dst t) B K)
      (genVC2 P all es ear fixB j0 fixC (i + 1) gs os (putE env o.dst undefT) B K)
theorem gen_trace2 (all : List Oper) (es ear : List Nat) (fixB : Bx) (j0 : Nat) (fixC : Bx) (K : Env → Bx → Prop) : ∀ (l : List Oper) (i0 : Nat) (gs : List (Nat × Nat)) (env : Env) (B : Bx), dstsOk n l = true → (∀ x ∈ fixB, x ∈ B) → (i0 ≤ j0 → ∀ x ∈ fixC, x ∈ B) → genVC2 P all es ear fixB j0 fixC i0 gs l env B K →
  ∃ (t : Nat → T) (b : Nat → Bx) (e : Nat → Bool) (jn : Nat → Option Nat), b 0 = B ∧ (∀ i o, l[i]? = some o → OSpecG P n all (fxOf ear fixB fixC (i0 + i)) o (envA l t (fun _ => true) env i) (b i) (t i) (b (i + 1)) (e i) (jn i)) ∧
   (∀ i, i ≤ l.length → ∀ x ∈ fixB, x ∈ b i) ∧ (∀ i, i ≤ l.length → i0 + i ≤ j0 → ∀ x ∈ fixC, x ∈ b i) ∧ (∀ i, e i = true → memN (i0 + i) es = true) ∧ (∀ i, i < l.length → FreshOr all (i0 + i) (t i) gs) ∧
   (∀ g k j, jn g = some j → g < k → k < l.length → (t k).fresh j = true ∨ depB all (i0 + k) (i0 + g) = true) ∧ K (envA l t (fun _ => true) env l.length) (b l.length)
 | [], i0, gs, env, B, _, hB, hC, h => ⟨fun _ => undefT, fun _ => B, fun _ => false, fun _ => none, rfl, fun i o ho => by simp at ho, fun i _ => hB, fun i hi hx => hC (by omega), fun i h => (by cases h), fun i hi => by simp at hi, fun _ _ _ h => (by cases h), h⟩
 | o :: os, i0, gs, env, B, hd, hB, hC, h => by
  simp only [dstsOk, List.all_cons, Bool.and_eq_true] at hd
  obtain ⟨⟨hd1, hd2⟩, hd3⟩ := hd
  have step : ∃ (t0 : T) (B' : Bx) (e0 : Bool) (jz : Option Nat) (gs' : List (Nat × Nat)), OSpecG P n all (fxOf ear fixB fixC i0) o env B t0 B' e0 jz ∧ (∀ x ∈ fixB, x ∈ B') ∧ (i0 + 1 ≤ j0 → ∀ x ∈ fixC, x ∈ B') ∧ (e0 = true → memN i0 es = true) ∧ FreshOr all i0 t0 gs ∧
    (∀ p ∈ gs, p ∈ gs') ∧ (∀ j, jz = some j → (i0, j) ∈ gs') ∧ genVC2 P all es ear fixB j0 fixC (i0 + 1) gs' os (putE env o.dst t0) B' K := by
   rcases guardT_true h with ⟨hg, hx⟩ | ⟨hg, hx⟩
   ·cases hm : memN i0 es with
    | true =>
     rw [hm] at hx
     simp only [cond_true] at hx
     have hcx : ∀ {B' : Bx}, (bif decide (i0 < j0) then bxSub B' fixC else True) → i0 + 1 ≤ j0 → bxSub B' fixC := by
      intro B' hc hx
      have : decide (i0 < j0) = true := by simp; omega
      rw [this] at hc; exact hc
     have sub : ∀ p ∈ gs, p ∈ gsNext i0 o gs := fun p hp => by unfold gsNext; cases makes o <;> simp [hp]
     rcases effVC_makes hx with ⟨t, hop, h1, hc, h2, h3⟩ | ⟨t, B', hop, h1, hc, h2, h3⟩ | ⟨hmk, t, B', hop, hfr, h1, hc, h2, h3⟩
     ·refine ⟨t, B, true, none, _, ⟨hd1, .inl ⟨hg, .inr (.inl ⟨rfl, rfl, hop.e⟩)⟩⟩, hB, fun hx => hC (by omega), fun _ => rfl, h2, sub, fun j hj => (by cases hj), h3⟩
     ·exact ⟨t, B', true, none, _, ⟨hd1, .inl ⟨hg, .inr (.inl ⟨rfl, rfl, hop⟩)⟩⟩, bxSub_spec h1, fun hx => bxSub_spec (hcx hc hx), fun _ => rfl, h2, sub, fun j hj => (by cases hj), h3⟩
     ·refine ⟨t, B', true, some (dstN o), _, ⟨hd1, .inl ⟨hg, .inr (.inr ⟨dstN o, rfl, rfl, hop, Nat.le_of_ble_eq_true hd2, hfr⟩)⟩⟩, bxSub_spec h1, fun hx => bxSub_spec (hcx hc hx), fun _ => rfl, h2, sub, fun j hj => ?_, h3⟩
      cases hj
      unfold gsNext; rw [hmk]; simp
    | false =>
     rw [hm] at hx
     simp only [cond_false] at hx
     obtain ⟨t, hop, h2, h3⟩ := pureVC_sound hx
     exact ⟨t, B, false, none, gs, ⟨hd1, .inl ⟨hg, .inl ⟨rfl, rfl, hop, rfl⟩⟩⟩, hB, fun hx => hC (by omega), fun h => (by cases h), h2, fun _ h => h, fun j hj => (by cases hj), h3⟩
   ·exact ⟨undefT, B, false, none, gs, ⟨hd1, .inr ⟨hg, rfl, rfl, rfl, rfl⟩⟩, hB, fun hx => hC (by omega), fun h => (by cases h), FreshOr_un gs, fun _ h => h, fun j hj => (by cases hj), hx⟩
  obtain ⟨t0, B', e0, jz, gs', hspec, hfix, hfixC, he0, hfr0, hsub, hj0, hk⟩ := step
  obtain ⟨t, b, e, jn, hb0, hs, hf, hfC, he, hfr, hjj, hK⟩ := gen_trace2 all es ear fixB j0 fixC K os (i0 + 1) gs' _ B' hd3 hfix hfixC hk
  refine ⟨fun i => match i with | 0 => t0 | i + 1 => t i, fun i => match i with | 0 => B | i + 1 => b i, fun i => match i with | 0 => e0 | i + 1 => e i, fun i => match i with | 0 => jz | i + 1 => jn i, rfl, ?_, ?_, ?_, ?_, ?_, ?_, ?_⟩
  ·intro i o' ho
   cases i with
   | zero => simp at ho; subst ho; rw [← hb0] at hspec; exact hspec
   | succ i =>
    rw [envA_cons]
    have := hs i o' (by simpa using ho)
    rwa [show i0 + 1 + i = i0 + (i + 1) by omega] at this
  ·intro i hi
   cases i with
   | zero => exact hB
   | succ i => exact hf i (by simpa using hi)
  ·intro i hi hx
   cases i with
   | zero => exact hC (by omega)
   | succ i => exact hfC i (by simpa using hi) (by omega)
  ·intro i hi
   cases i with
   | zero => exact he0 hi
   | succ i => have := he i hi; rwa [show i0 + 1 + i = i0 + (i + 1) by omega] at this
  ·intro i hi
   cases i with
   | zero => exact hfr0
   | succ i =>
    have := hfr i (by simpa using hi)
    rw [show i0 + 1 + i = i0 + (i + 1) by omega] at this
    exact gen_trace.FreshOr_sub hsub this
  ·intro g k j hg hgk hk'
   cases k with
   | zero => omega
   | succ k =>
    cases g with
    | zero =>
     have := FreshOr_spec (hfr k (by simpa using hk')) (i0, j) (hj0 j hg)
     rwa [show i0 + 1 + k = i0 + (k + 1) by omega] at this
    | succ g =>
     have := hjj g k j hg (by omega) (by simpa using hk')
     rwa [show i0 + 1 + k = i0 + (k + 1) by omega, show i0 + 1 + g = i0 + (g + 1) by omega] at this
  ·rw [List.length_cons, envA_cons]; exact hK
/-- THE RULE: es: the operations that turn or make boxes; ks: the names of the boxes that they turn; of these, ks' before j0 -/
theorem AWP.genR2 {id : Nat} {l : List Oper} {env : Env} {B : Bx} (es ks : List Nat) (ear : List Nat) (j0 : Nat) (ks' : List Nat) (hm : P.follows .mixedOrders = true) (hl : (genOk n l es && ear.all fun i => earlyB l es j0 i) = true)
  (h : ∀ K : Env → Bx → Prop, (∀ e b, Q .normal ⟨e, b⟩ → K e b) → genVC2 P l es ear (Bx.outs B ks) j0 (Bx.outs B ks') 0 [] l env B K) : AWP P n (.region id l.toArray true) ⟨env, B⟩ Q := by
 rw [Bool.and_eq_true] at hl
 obtain ⟨hl, hear⟩ := hl
 simp only [genOk, Bool.and_eq_true] at hl
 intro κ M0 a w hs
 obtain ⟨hback, hpairs, _⟩ := lex_pairs hl.1
 obtain ⟨t, b, e, jn, hb0, hsp, hf, hfC, he, _, hjj, hK⟩ := gen_trace2 l es ear (Bx.outs B ks) j0 (Bx.outs B ks') _ l 0 [] env B hl.2.1 (fun x hx => Bx.outs_sub hx) (fun _ x hx => Bx.outs_sub hx) (h (fun e b => Q .normal ⟨e, b⟩) (fun _ _ k => k))
 have hord : EffOrdG l e := fun i k hik hk hei hek => esOk_spec hl.2.2 i (memN_spec (by simpa using he i hei)) k (memN_spec (by simpa using he k hek)) hik
 refine wp_region_any hm ?_
 have hsz : l.toArray.size = l.length := by simp
 rw [hsz]
 have hrep : ∀ j, (Array.replicate l.length false).getD j false = false := fun j => rep_getD _ j
 have hbc : ∀ i, i < l.length → e i = false → b (i + 1) = b i := by
  intro i hi hei
  rcases (hsp i l[i] (by simp [hi])).2 with ⟨_, ⟨_, _, _, h⟩ | ⟨h, _⟩ | ⟨_, h, _⟩⟩ | ⟨_, _, h, _⟩
  ·exact h
  ·rw [hei] at h; cases h
  ·rw [hei] at h; cases h
  ·exact h
 refine gen_sound2 (fx := fun i => fxOf ear (Bx.outs B ks) (Bx.outs B ks') i) hback hpairs hord (fun i o ho => by have := hsp i o ho; rwa [Nat.zero_add] at this) ?_ (fun g k j hg hgk hk => by have := hjj g k j hg hgk hk; simpa using this) (fun a w s => ⟨_, s, hK⟩) l.length _ a _ ?_ (mid_start (σ := ⟨env, B⟩) hb0 hs)
 ·intro i m hi hm hdep x hx
  unfold fxOf at hx
  cases hE0 : memN i ear with
  | false => rw [hE0] at hx; exact hf m hm x hx
  | true =>
   have hE := List.all_eq_true.1 hear i (memN_spec hE0)
   rw [hE0] at hx
   simp only [cond_true] at hx
   rcases Nat.le_total m j0 with hmj | hmj
   ·exact hfC m hm (by omega) x hx
   ·have hno : ∀ j, j0 ≤ j → j < m → e j = false := by
     intro j hj1 hj2
     cases hej : e j with
     | false => rfl
     | true =>
      have hmem := memN_spec (he j hej)
      rw [Nat.zero_add] at hmem
      have h1 := List.all_eq_true.1 hE j hmem
      simp only [Bool.or_eq_true] at h1
      rcases h1 with h1 | h1
      ·have : j < j0 := by simpa using h1
       omega
      ·have := hdep j hj2 hej
       rw [h1] at this; cases this
    have hbb : b m = b j0 := by
     have := const_b hbc j0 m hmj hm (fun j hj1 hj2 => hno j hj1 hj2)
     first | exact this | exact this.symm
    rw [hbb]
    exact hfC j0 (by omega) (by omega) x hx
 ·unfold cnt
  have hfil : (List.range l.length).filter (fun i => !(Array.replicate l.length false).getD i false) = List.range l.length := by
   rw [List.filter_eq_self]
   intro x _
   simp only [hrep x, Bool.not_false]
  rw [hfil, List.length_range]
theorem gen2VC_nil {all : List Oper} {es ear : List Nat} {fixB : Bx} {j0 : Nat} {fixC : Bx} {i : Nat} {gs : List (Nat × Nat)} {env : Env} {B : Bx} {K : Env → Bx → Prop} (h : K env B) : genVC2 P all es ear fixB j0 fixC i gs [] env B K := h
def genOpVC2 (P : Program) (all : List Oper) (es ear : List Nat) (fixB : Bx) (j0 : Nat) (fixC : Bx) (i : Nat) (gs : List (Nat × Nat)) (o : Oper) (env : Env) (B : Bx) (K' : List (Nat × Nat) → Env → Bx → Prop) : Prop :=
 bif memN i es then effVC P o env B fun t B' => bxSub B' fixB ∧ (bif decide (i < j0) then bxSub B' fixC else True) ∧ FreshOr all i t gs ∧ K' (gsNext i o gs) (putE env o.dst t) B'
 else pureVC P o env (fxOf ear fixB fixC i) fun t => FreshOr all i t gs ∧ K' gs (putE env o.dst t) B
theorem gen2VC_stepN {all os : List Oper} {es ear : List Nat} {fixB : Bx} {j0 : Nat} {fixC : Bx} {i : Nat} {gs : List (Nat × Nat)} {o : Oper} {env : Env} {B : Bx} {K : Env → Bx → Prop} (hg : o.guard = none)
  (h : ∀ K' : List (Nat × Nat) → Env → Bx → Prop, (∀ gs e b, genVC2 P all es ear fixB j0 fixC (i + 1) gs os e b K → K' gs e b) → genOpVC2 P all es ear fixB j0 fixC i gs o env B K') : genVC2 P all es ear fixB j0 fixC i gs (o :: os) env B K :=
 guardT_none hg (h (fun gs e b => genVC2 P all es ear fixB j0 fixC (i + 1) gs os e b K) fun _ _ _ q => q)
attribute [go_sem] genOpVC2 fxOf
/-- the boxes that are there where the operations of X have run -/
def bxX (mk : Nat → Option (Nat × Res)) (B0 : Bx) (X : Nat → Bool) : Nat → Bx
 | 0 => B0
 | m + 1 => match X m, mk m with
  | true, some p => p :: bxX mk B0 X m
  | _, _ => bxX mk B0 X m
theorem mem_bxX {mk : Nat → Option (Nat × Res)} {B0 : Bx} {X : Nat → Bool} {x : Nat × Res} : ∀ {m : Nat}, x ∈ bxX mk B0 X m ↔ x ∈ B0 ∨ ∃ i, i < m ∧ X i = true ∧ mk i = some x
 | 0 => by simp [bxX]
 | m + 1 => by
  have ih := @mem_bxX mk B0 X x m
  unfold bxX
  constructor
  ·intro h
   split at h
   ·rename_i p hX hk
    rcases List.mem_cons.1 h with rfl | h
    ·exact .inr ⟨m, by omega, hX, hk⟩
    ·rcases ih.1 h with h | ⟨i, h1, h2⟩
     ·exact .inl h
     ·exact .inr ⟨i, by omega, h2⟩
   ·rcases ih.1 h with h | ⟨i, h1, h2⟩
    ·exact .inl h
    ·exact .inr ⟨i, by omega, h2⟩
  ·intro h
   have h' : x ∈ bxX mk B0 X m ∨ (X m = true ∧ mk m = some x) := by
    rcases h with h | ⟨i, h1, h2, h3⟩
    ·exact .inl (ih.2 (.inl h))
    ·by_cases him : i = m
     ·subst him; exact .inr ⟨h2, h3⟩
     ·exact .inl (ih.2 (.inr ⟨i, by omega, h2, h3⟩))
   split
   ·rename_i p hX hk
    rcases h' with h' | ⟨_, h'⟩
    ·exact List.mem_cons_of_mem _ h'
    ·rw [hk] at h'; cases h'; exact List.mem_cons_self
   ·rename_i hno
    rcases h' with h' | ⟨h1, h2⟩
    ·exact h'
    ·exact absurd h2 (hno x h1)
/-- the names are apart -/
def Apart (mk : Nat → Option (Nat × Res)) (B0 : Bx) : Prop := (∀ i j p q, mk i = some p → mk j = some q → i ≠ j → p.1 ≠ q.1) ∧ ∀ i p, mk i = some p → ∀ x ∈ B0, x.1 ≠ p.1
theorem nodup_bxX {mk : Nat → Option (Nat × Res)} {B0 : Bx} {X : Nat → Bool} (ha : Apart mk B0) (h0 : (B0.map (·.1)).Nodup) : ∀ m, ((bxX mk B0 X m).map (·.1)).Nodup
 | 0 => h0
 | m + 1 => by
  have ih := nodup_bxX (X := X) ha h0 m
  unfold bxX
  split
  ·rename_i p hX hk
   simp only [List.map_cons, List.nodup_cons]
   refine ⟨fun hm => ?_, ih⟩
   obtain ⟨x, hx, e⟩ := List.mem_map.1 hm
   rcases mem_bxX.1 hx with h | ⟨i, h1, _, h3⟩
   ·exact ha.2 m p hk x h e
   ·exact ha.1 i m x p h3 hk (by omega) e
  ·exact ih
theorem nodup_B0 {mk : Nat → Option (Nat × Res)} {B0 : Bx} {X : Nat → Bool} : ∀ {m : Nat}, ((bxX mk B0 X m).map (·.1)).Nodup → (B0.map (·.1)).Nodup
 | 0, h => h
 | m + 1, h => by
  unfold bxX at h
  split at h
  ·simp only [List.map_cons, List.nodup_cons] at h; exact nodup_B0 h.2
  ·exact nodup_B0 h
def OSpecM (P : Program) (n : Nat) (all : List Oper) (B0 : Bx) (o : Oper) (env : Env) (t : T) (j : Option (Nat × Res)) : Prop :=
  dstOk n o = true ∧
  ((guardT all env o True False ∧ ((j = none ∧ OpP P o env B0 t) ∨ (∃ k r, j = some (k, r) ∧ k < pin ∧ Env.fresh k env = true ∧ Bx.fresh k B0 = true ∧ ∀ B : Bx, (∀ x ∈ B0, x ∈ B) → Bx.fresh k B = true → OpG P o env B k t ((k, r) :: B)))) ∨
   (guardT all env o False True ∧ t = undefT ∧ j = none))
theorem bx_fresh_of {k : Nat} : ∀ {B : Bx}, (∀ x ∈ B, x.1 ≠ k ∧ ∀ cs, x.2 = .cells cs → Cell.freshs k cs = true) → Bx.fresh k B = true
 | [], _ => rfl
 | (j, r) :: B, h => by
  have h1 := h (j, r) List.mem_cons_self
  simp only [Bx.fresh, Bool.and_eq_true, bne_iff_ne, ne_eq]
  refine ⟨⟨h1.1, ?_⟩, bx_fresh_of fun y hy => h y (List.mem_cons_of_mem _ hy)⟩
  cases r with
  | cells cs => exact h1.2 cs rfl
  | row sz rows => rfl
  | mp ag es => rfl
def Res.plain (r : Res) : Prop := ∀ k cs, r = .cells cs → Cell.freshs k cs = true
theorem Res.plain_row (sz : Nat) (rows : List (List C)) : (Res.row sz rows).plain := fun _ _ e => by cases e
theorem Res.plain_dat (zs : List C) : (Res.cells (zs.map .dat)).plain := by
 intro k cs e
 cases e
 induction zs with
 | nil => rfl
 | cons z zs ih => simp only [List.map_cons, Cell.freshs, Cell.fresh, ih, Bool.and_self]
def RowsOnly (mk : Nat → Option (Nat × Res)) : Prop := ∀ i p, mk i = some p → p.2.plain
theorem Bx.fresh_sub {k : Nat} {B B' : Bx} (h : Bx.fresh k B = true) (hs : ∀ x ∈ B', x ∈ B) : Bx.fresh k B' = true :=
 bx_fresh_of fun x hx => Bx.fresh_spec (j := x.1) (r := x.2) h (hs x hx)
def vAppendM (P : Program) (j : Nat) (t1 t2 : TypeId) (s x : Option T) (K : T → Res → Prop) : Prop :=
 match bsT P t1, byT P t1 with
 | some (_, n), some (by_ + 1) => match srcRows n x with
  | some ys => notInt P t2 = true ∧ (match s with
   | some (.one (.dat (.nil _))) => (2 * ys.length + 192) * (by_ + 1) ≤ 281474976710656 ∧ K (.one (.own j ys.length)) (.row n ys)
   | _ => False)
  | none => False
 | _, _ => False
/-- what is to be shown of an operation that makes a row -/
def mkOp (P : Program) (o : Oper) (env : Env) (K : T → Res → Prop) : Prop :=
 match o.op with
 | .alloc e => (match zeroT P e with
  | some zs => K (.one (.ptr (dstN o) 0)) (.cells (zs.map .dat))
  | none => False)
 | .call { callee := .builtin .append, args := ⟨[s, x]⟩, argTypes := ⟨[t1, t2]⟩ } => vAppendM P (dstN o) t1 t2 (ev P env t1 s) (softO (ev P env t2 x)) K
 | .call { callee := .value f, args := args, argTypes := ts } =>
  match calleeT (ev P env 0 f), evs P env args.toList ts.toList with
  | some (g, caps), some us => ∃ r sz rows, PCN P g (us ++ caps) r (.row sz rows) ∧ K (r.ren fun _ => dstN o) (.row sz rows)
  | _, _ => False
 | _ => False
theorem mkOp_sound {o : Oper} {env : Env} {K : T → Res → Prop} (h : mkOp P o env K) :
  ∃ t r, r.plain ∧ (∀ B : Bx, Env.fresh (dstN o) env = true → Bx.fresh (dstN o) B = true → OpG P o env B (dstN o) t ((dstN o, r) :: B)) ∧ K t r := by
 unfold mkOp at h
 split at h
 ·rename_i e ho
  split at h
  ·rename_i zs hz
   refine ⟨_, _, Res.plain_dat zs, fun B hfe hfb => ?_, h⟩
   obtain ⟨t, B', hop, _, rfl, rfl⟩ := vAlloc_sound (env := env) (B := B) (K := fun t B' => t = .one (.ptr (dstN o) 0) ∧ B' = (dstN o, .cells (zs.map .dat)) :: B) ho (by
    unfold vAlloc
    rw [hz]
    exact ⟨hfe, hfb, rfl, rfl⟩)
   exact hop
  ·exact h.elim
 ·rename_i s x t1 t2 ho
  unfold vAppendM at h
  split at h
  ·rename_i e n by_ hbs hbyt
   split at h
   ·rename_i ys hys
    obtain ⟨hni, h⟩ := h
    split at h
    ·rename_i sz hsv
     refine ⟨_, _, Res.plain_row _ _, fun B hfe hfb => ?_, h.2⟩
     obtain ⟨t, B', hop, _, rfl, rfl⟩ := vAppend_sound (ty1 := t1) (ty2 := t2) (env := env) (B := B) (K := fun t B' => t = .one (.own (dstN o) ys.length) ∧ B' = (dstN o, .row n ys) :: B) ho (by
      unfold vAppend
      rw [hbs, hbyt]
      simp only [hys, hsv]
      refine ⟨hni, hfe, hfb, h.1, ?_⟩
      first | trivial | exact ⟨trivial, rfl⟩ | exact ⟨rfl, rfl⟩ | exact ⟨rfl, trivial⟩)
     exact hop
    ·exact h.elim
   ·exact h.elim
  ·exact h.elim
 ·rename_i f args ts ho
  split at h
  ·rename_i g caps us hf hu
   obtain ⟨r, sz, rows, hpc, hK⟩ := h
   refine ⟨_, _, Res.plain_row _ _, fun B hfe hfb => ?_, hK⟩
   obtain ⟨t, B', hop, _, rfl, rfl⟩ := vCallN_sound (env := env) (B := B) (args := args.toList) (K := fun t B' => t = (r.ren fun _ => dstN o) ∧ B' = (dstN o, .row sz rows) :: B) (by rw [ho]) hf hu ⟨r, _, hpc, hfe, hfb, rfl, rfl⟩
   exact hop
  ·exact h.elim
 ·exact h.elim
def genVCM (P : Program) (all : List Oper) (es : List Nat) (B0 : Bx) : Nat → List (Nat × Nat) → List Oper → Env → Bx → (Env → Bx → Prop) → Prop
  | _, _, [], env, B, K => K env B
  | i, gs, o :: os, env, B, K => guardT all env o
      (bif memN i es then mkOp P o env fun t r => Env.fresh (dstN o) env = true ∧ Bx.fresh (dstN o) B = true ∧ FreshOr all i t gs ∧ genVCM P all es B0 (i + 1) ((i, dstN o) :: gs) os (putE env o.dst t) ((dstN o, r) :: B) K
       else pureVC P o env B0 fun t => FreshOr all i t gs ∧ genVCM P all es B0 (i + 1) gs os (putE env o.dst t) B K)
      (genVCM P all es B0 (i + 1) gs os (putE env o.dst undefT) B K)
theorem bxX_cons (mk : Nat → Option (Nat × Res)) (B : Bx) : ∀ m, bxX mk B (fun _ => true) (m + 1) = bxX (fun i => mk (i + 1)) (match mk 0 with | some p => p :: B | none => B) (fun _ => true) m
 | 0 => by
  simp only [bxX]
  cases mk 0 <;> rfl
 | m + 1 => by
  rw [bxX, bxX_cons mk B m]
  all_goals (first | rfl | (conv => rhs; rw [bxX]))
  all_goals (cases mk (m + 1) <;> rfl)
theorem genM_trace (all : List Oper) (es : List Nat) (B0 : Bx) (K : Env → Bx → Prop) : ∀ (l : List Oper) (i0 : Nat) (gs : List (Nat × Nat)) (env : Env) (B : Bx), dstsOk n l = true → (∀ x ∈ B0, x ∈ B) → genVCM P all es B0 i0 gs l env B K →
  ∃ (t : Nat → T) (mk : Nat → Option (Nat × Res)), (∀ i o, l[i]? = some o → OSpecM P n all B0 o (envA l t (fun _ => true) env i) (t i) (mk i)) ∧ (∀ i p, mk i = some p → i < l.length) ∧ RowsOnly mk ∧
   (∀ i p, mk i = some p → Bx.fresh p.1 B = true) ∧ (∀ i j p q, mk i = some p → mk j = some q → i ≠ j → p.1 ≠ q.1) ∧ (∀ i, i < l.length → FreshOr all (i0 + i) (t i) gs) ∧
   (∀ g k p, mk g = some p → g < k → k < l.length → (t k).fresh p.1 = true ∨ depB all (i0 + k) (i0 + g) = true) ∧ K (envA l t (fun _ => true) env l.length) (bxX mk B (fun _ => true) l.length)
 | [], i0, gs, env, B, _, hB, h => ⟨fun _ => undefT, fun _ => none, fun i o ho => by simp at ho, fun _ _ h => (by cases h), fun _ _ h => (by cases h), fun _ _ h => (by cases h), fun _ _ _ _ h => (by cases h), fun i hi => by simp at hi, fun _ _ _ h => (by cases h), h⟩
 | o :: os, i0, gs, env, B, hd, hB, h => by
  simp only [dstsOk, List.all_cons, Bool.and_eq_true] at hd
  obtain ⟨⟨hd1, hd2⟩, hd3⟩ := hd
  have step : ∃ (t0 : T) (B' : Bx) (j0 : Option (Nat × Res)) (gs' : List (Nat × Nat)), OSpecM P n all B0 o env t0 j0 ∧ (∀ x ∈ B, x ∈ B') ∧ B' = (match j0 with | some p => p :: B | none => B) ∧ (∀ p, j0 = some p → p.2.plain ∧ Bx.fresh p.1 B = true ∧ (i0, p.1) ∈ gs') ∧ FreshOr all i0 t0 gs ∧
    (∀ p ∈ gs, p ∈ gs') ∧ genVCM P all es B0 (i0 + 1) gs' os (putE env o.dst t0) B' K := by
   rcases guardT_true h with ⟨hg, hx⟩ | ⟨hg, hx⟩
   ·cases hm : memN i0 es with
    | true =>
     rw [hm] at hx
     simp only [cond_true] at hx
     obtain ⟨t, r, hpl, hop, hfe, hfb, h2, h3⟩ := mkOp_sound hx
     refine ⟨t, _, some (dstN o, r), _, ⟨hd1, .inl ⟨hg, .inr ⟨_, _, rfl, Nat.le_of_ble_eq_true hd2, hfe, Bx.fresh_sub hfb hB, fun B' hs hf => hop B' hfe hf⟩⟩⟩, fun x hx => List.mem_cons_of_mem _ hx, rfl, fun p hp => ?_, h2, fun p hp => List.mem_cons_of_mem _ hp, h3⟩
     cases hp
     exact ⟨hpl, hfb, List.mem_cons_self⟩
    | false =>
     rw [hm] at hx
     simp only [cond_false] at hx
     obtain ⟨t, hop, h2, h3⟩ := pureVC_sound hx
     exact ⟨t, B, none, gs, ⟨hd1, .inl ⟨hg, .inl ⟨rfl, hop⟩⟩⟩, fun _ h => h, rfl, fun p hp => (by cases hp), h2, fun _ h => h, h3⟩
   ·exact ⟨undefT, B, none, gs, ⟨hd1, .inr ⟨hg, rfl, rfl⟩⟩, fun _ h => h, rfl, fun p hp => (by cases hp), FreshOr_un gs, fun _ h => h, hx⟩
  obtain ⟨t0, B', j0, gs', hspec, hsubB, hBe, hj0, hfr0, hsub, hk⟩ := step
  obtain ⟨t, mk, hs, hlen, hro, hfb, hdis, hfr, hjj, hK⟩ := genM_trace all es B0 K os (i0 + 1) gs' _ B' hd3 (fun x hx => hsubB x (hB x hx)) hk
  have hmk : ∀ i p, (match i with | 0 => j0 | i + 1 => mk i) = some p → (i = 0 ∧ j0 = some p) ∨ ∃ i', i = i' + 1 ∧ mk i' = some p := by
   intro i p h
   cases i with
   | zero => exact .inl ⟨rfl, h⟩
   | succ i => exact .inr ⟨i, rfl, h⟩
  have ne0 : ∀ i p q, j0 = some p → mk i = some q → q.1 ≠ p.1 := by
   intro i p q h1 h2
   have h3 := hfb i q h2
   subst h1
   rw [hBe] at h3
   exact fun e => (Bx.fresh_spec (j := p.1) (r := p.2) h3 List.mem_cons_self).1 e.symm
  refine ⟨fun i => match i with | 0 => t0 | i + 1 => t i, fun i => match i with | 0 => j0 | i + 1 => mk i, ?_, ?_, ?_, ?_, ?_, ?_, ?_, ?_⟩
  ·intro i o' ho
   cases i with
   | zero => simp at ho; subst ho; exact hspec
   | succ i =>
    rw [envA_cons]
    exact hs i o' (by simpa using ho)
  ·intro i p h
   rcases hmk i p h with ⟨rfl, _⟩ | ⟨i', rfl, h⟩
   ·simp
   ·have := hlen i' p h; simp; omega
  ·intro i p h
   rcases hmk i p h with ⟨rfl, h⟩ | ⟨i', rfl, h⟩
   ·exact (hj0 p h).1
   ·exact hro i' p h
  ·intro i p h
   rcases hmk i p h with ⟨rfl, h⟩ | ⟨i', rfl, h⟩
   ·exact (hj0 p h).2.1
   ·exact Bx.fresh_sub (hfb i' p h) hsubB
  ·intro i j p q h1 h2 hij
   rcases hmk i p h1 with ⟨rfl, h1⟩ | ⟨i', rfl, h1⟩ <;> rcases hmk j q h2 with ⟨rfl, h2⟩ | ⟨j', rfl, h2⟩
   ·exact absurd rfl hij
   ·exact fun e => ne0 j' p q h1 h2 e.symm
   ·exact ne0 i' q p h2 h1
   ·exact hdis i' j' p q h1 h2 (by omega)
  ·intro i hi
   cases i with
   | zero => exact hfr0
   | succ i =>
    have := hfr i (by simpa using hi)
    rw [show i0 + 1 + i = i0 + (i + 1) by omega] at this
    exact gen_trace.FreshOr_sub hsub this
  ·intro g k p hg hgk hk'
   cases k with
   | zero => omega
   | succ k =>
    rcases hmk g p hg with ⟨rfl, hg⟩ | ⟨g', rfl, hg⟩
    ·have := FreshOr_spec (hfr k (by simpa using hk')) (i0, p.1) (hj0 p hg).2.2
     rwa [show i0 + 1 + k = i0 + (k + 1) by omega] at this
    ·have := hjj g' k p hg (by omega) (by simpa using hk')
     rwa [show i0 + 1 + k = i0 + (k + 1) by omega, show i0 + 1 + g' = i0 + (g' + 1) by omega] at this
  ·rw [List.length_cons, envA_cons, bxX_cons]
   rw [hBe] at hK
   exact hK
def genMOk (n : Nat) (l : List Oper) : Bool := Region.lexB .any l.toArray && dstsOk n l
theorem genMVC_nil {all : List Oper} {es : List Nat} {B0 : Bx} {i : Nat} {gs : List (Nat × Nat)} {env : Env} {B : Bx} {K : Env → Bx → Prop} (h : K env B) : genVCM P all es B0 i gs [] env B K := h
def genOpVCM (P : Program) (all : List Oper) (es : List Nat) (B0 : Bx) (i : Nat) (gs : List (Nat × Nat)) (o : Oper) (env : Env) (B : Bx) (K' : List (Nat × Nat) → Env → Bx → Prop) : Prop :=
 bif memN i es then mkOp P o env fun t r => Env.fresh (dstN o) env = true ∧ Bx.fresh (dstN o) B = true ∧ FreshOr all i t gs ∧ K' ((i, dstN o) :: gs) (putE env o.dst t) ((dstN o, r) :: B)
 else pureVC P o env B0 fun t => FreshOr all i t gs ∧ K' gs (putE env o.dst t) B
theorem genMVC_stepN {all os : List Oper} {es : List Nat} {B0 : Bx} {i : Nat} {gs : List (Nat × Nat)} {o : Oper} {env : Env} {B : Bx} {K : Env → Bx → Prop} (hg : o.guard = none)
  (h : ∀ K' : List (Nat × Nat) → Env → Bx → Prop, (∀ gs e b, genVCM P all es B0 (i + 1) gs os e b K → K' gs e b) → genOpVCM P all es B0 i gs o env B K') : genVCM P all es B0 i gs (o :: os) env B K :=
 guardT_none hg (h (fun gs e b => genVCM P all es B0 (i + 1) gs os e b K) fun _ _ _ q => q)
attribute [go_sem] genOpVCM mkOp vAppendM
def lastVC (P : Program) : List Oper → Env → Bx → (Env → Bx → Prop) → Prop
 | [o], env, B, K => (match o.op with
  | .store t x y => vStore P t (ev P env 0 x) (ev P env t y) B (fun B' => K (putE env o.dst undefT) B')
  | _ => False)
 | _, _, _, _ => False
def genMSOk (n : Nat) (l : List Oper) (m : Nat) : Bool := genMOk n l && (l.length == m + 1 && ((List.range m).all (fun i => depB l m i) && (match l[m]? with | some o => o.guard.isNone | none => false)))
attribute [go_sem] lastVC
/-- the state of such a region: the boxes are those made so far, or, once q of the stores are done, Bs q -/
def bxT (mk : Nat → Option (Nat × Res)) (B0 : Bx) (Bs : Nat → Bx) (m len : Nat) (X : Nat → Bool) : Bx :=
 bif X m then Bs (((List.range (len - m)).filter fun j => X (m + j)).length) else bxX mk B0 X m
structure MidT (κ : Kap) (M0 : Mem) (n : Nat) (l : List Oper) (t : Nat → T) (mk : Nat → Option (Nat × Res)) (B0 : Bx) (Bs : Nat → Bx) (m : Nat) (env0 : Env) (listed : Array Bool) (a : Act) (w : World) : Prop where
 size : listed.size = l.length
 closed : Closed l listed
 st : ∃ M ν, M0.ext κ M ∧ a.tmps.size = n ∧ a.defers = [] ∧ EnvOk M ν a.tmps (envA l t (xs listed) env0 l.length) ∧ Sat κ M ν (bxT mk B0 Bs m l.length (xs listed)) w ∧ ∀ k, pin ≤ k → ν k = κ.nu k
theorem filter_upto {p : Nat → Bool} {c : Nat} : ∀ len, c ≤ len → (∀ j, j < c → p j = true) → (∀ j, c ≤ j → j < len → p j = false) → ((List.range len).filter p).length = c
  | 0, h, _, _ => by have : c = 0 := by omega
                     subst this; rfl
  | len + 1, h, h1, h2 => by
    rw [List.range_succ, List.filter_append, List.length_append]
    by_cases hc : c ≤ len
    · rw [filter_upto len hc h1 (fun j a b => h2 j a (by omega))]
      simp [h2 len hc (by omega)]
    · have : c = len + 1 := by omega
      subst this
      rw [List.filter_eq_self.2 (fun x hx => h1 x (by have := List.mem_range.1 hx; omega))]
      simp [h1 len (by omega)]
theorem genMT_sound {κ : Kap} {M0 : Mem} {l : List Oper} {B0 : Bx} {t : Nat → T} {mk : Nat → Option (Nat × Res)} {env0 : Env} {Q' : Exit → Act → World → Prop}
    (hback : Back l) (hpairs : Pairs l) (hap : Apart mk B0) (hro : RowsOnly mk) {m : Nat} (hlen : ∀ i p, mk i = some p → i < m) (hm : m < l.length) (Bs : Nat → Bx)
    (hdstm : ∀ i o, m ≤ i → l[i]? = some o → o.dst = none ∧ o.guard = none) (htm : ∀ i, m ≤ i → t i = undefT)
    (hmkd : ∀ i j p, mk i = some p → m ≤ j → j < l.length → depB l j i = true) (hchain : ∀ i j, m ≤ i → i < j → j < l.length → depB l j i = true)
    (hB0 : ∀ q, q ≤ l.length - m → ∀ x ∈ B0, x ∈ Bs q) (hBs0 : Bs 0 = bxX mk B0 (fun _ => true) m)
    (hop : ∀ i o, m ≤ i → l[i]? = some o → OpE P o (envA l t (fun _ => true) env0 m) (Bs (i - m)) undefT (Bs (i - m + 1)))
    (hs : ∀ i o, i < m → l[i]? = some o → OSpecM P n l B0 o (envA l t (fun _ => true) env0 i) (t i) (mk i))
    (hfr : ∀ g k p, mk g = some p → g < k → k < l.length → (t k).fresh p.1 = true ∨ depB l k g = true)
    (hQ : ∀ a w, St κ M0 n ⟨envA l t (fun _ => true) env0 l.length, Bs (l.length - m)⟩ a w → Q' .normal a w) :
    ∀ (fuel : Nat) (listed : Array Bool) (a : Act) (w : World), cnt l listed = fuel → MidT κ M0 n l t mk B0 Bs m env0 listed a w →
      wpAny P .any l.toArray Q' fuel listed a w := by
  have envm : ∀ X : Nat → Bool, ∀ i, m ≤ i → i ≤ l.length → ∀ k, (envA l t X env0 i).lookup k = (envA l t X env0 m).lookup k := by
    intro X i
    induction i with
    | zero => intro h _ k; have : m = 0 := by omega
              subst this; rfl
    | succ i ih =>
      intro h hi k
      by_cases he : m = i + 1
      · subst he; rfl
      · rw [← ih (by omega) (by omega) k]
        obtain ⟨o, ho⟩ : ∃ o, l[i]? = some o := ⟨l[i]'(by omega), by rw [List.getElem?_eq_getElem]⟩
        have hd := (hdstm i o (by omega) ho).1
        rw [envA]
        cases X i
        · rfl
        · simp only [cond_true, ho, Option.bind_some, hd]; rfl
  have done : ∀ (listed : Array Bool) (a : Act) (w : World), MidT κ M0 n l t mk B0 Bs m env0 listed a w → (∀ i, i < l.length → listed.getD i false = true) → Q' .normal a w := by
    intro listed a w hm' hall
    obtain ⟨M, ν, h1, h2, h3, h4, h7, h8⟩ := hm'.st
    refine hQ a w ⟨M, ν, h1, h2, h3, ?_, ?_, h8⟩
    · intro d u hu
      refine h4 d u ?_
      rw [envA_same l t (xs listed) (fun _ => true) env0 d l.length (fun j o hj _ _ => hall j hj)]
      exact hu
    · have e1 : bxT mk B0 Bs m l.length (xs listed) = Bs (l.length - m) := by
        unfold bxT
        have : xs listed m = true := hall m hm
        rw [this, cond_true, filter_upto (p := fun j => xs listed (m + j)) (c := l.length - m) _ (Nat.le_refl _) (fun j hj => hall (m + j) (by omega)) (fun j a b => absurd b (by omega))]
      rw [e1] at h7
      exact h7
  intro fuel
  induction fuel with
  | zero =>
    intro listed a w hfuel hm'
    have hall := cnt_zero hfuel
    exact ⟨ready_none hm'.size hall, done listed a w hm' hall⟩
  | succ fuel ih =>
    intro listed a w hfuel hmid
    refine ⟨fun hr => done listed a w hmid (ready_least hback hmid.size hr), fun i hi => ?_⟩
    obtain ⟨h0, oi, hoi, hall⟩ := mem_ready.1 hi
    have hil : i < l.length := by have := (Array.getElem?_eq_some_iff.1 hoi).1; simpa using this
    have hoi' : l[i]? = some oi := by simpa using hoi
    have hisz : i < listed.size := by rw [hmid.size]; exact hil
    have hxi : listed.getD i false = false := by simp [hisz] at h0 ⊢; exact h0
    obtain ⟨M, ν, h1, h2, h3, h4, h7, h8⟩ := hmid.st
    have hd : dstOk n oi = true := by
      by_cases hiL : i < m
      · exact (hs i oi hiL hoi').1
      · unfold dstOk; rw [(hdstm i oi (by omega) hoi').1]
    have look : ∀ d, d ∈ oi.looksAt l.toArray → (envA l t (xs listed) env0 l.length).lookup d = (envA l t (fun _ => true) env0 i).lookup d := by
      intro d hdm
      rw [envA_skip l t (xs listed) env0 d i l.length (by omega) ?_, envA_same l t (xs listed) (fun _ => true) env0 d i ?_]
      · intro j o hj ho hod
        rcases hpairs j i o oi hj ho hoi' with ⟨e', he', hb', hon⟩ | hap
        · exact hon ▸ hall e' he' hb'
        · exact absurd hdm ((Oper.apart_spec hap).1 d hod)
      · intro j o hj hjl ho hod
        by_cases hji : i = j
        · subst hji; exact hxi
        · cases hxj : xs listed j with
          | false => rfl
          | true =>
            rcases hpairs i j oi o (by omega) hoi' ho with ⟨e', he', hb', hon⟩ | hap
            · have := hmid.closed j o ho hxj e' he' hb'
              rw [hon, hxi] at this; cases this
            · exact absurd hdm ((Oper.apart_spec hap).2.2 d hod)
    have hclosed : Closed l (listed.setIfInBounds i true) := by
      intro j oj hj hx e' he' hb'
      by_cases hji : i = j
      · subst hji
        rw [hoi'] at hj; cases hj
        exact getD_set_true (hall e' he' hb')
      · rw [getD_set_ne false hji] at hx
        exact getD_set_true (hmid.closed j oj hj hx e' he' hb')
    have hcount : cnt l (listed.setIfInBounds i true) = fuel := by
      have := cnt_set hmid.size hil hxi; omega
    have after : ∀ (M' : Mem) (ν' : Nu) (v : Value) (w' : World), M.ext κ M' → EnvOk M ν' a.tmps (envA l t (xs listed) env0 l.length) → (t i).rep M' ν' v → Sat κ M' ν' (bxT mk B0 Bs m l.length (xs (listed.setIfInBounds i true))) w' → (∀ k, pin ≤ k → ν' k = κ.nu k) →
        MidT κ M0 n l t mk B0 Bs m env0 (listed.setIfInBounds i true) (a.put oi.dst v) w' := by
      intro M' ν' v w' hle h4 hr hsat hpin
      refine ⟨by simpa using hmid.size, hclosed, M', ν', h1.trans hle, by rw [Act.put_size]; exact h2, by rw [Act.put_defers']; exact h3, ?_, hsat, hpin⟩
      have hput := EnvOk.put (df := a.defers) (h4.mono hle.1) (dst := oi.dst) (v := v) (t := t i) (fun d he => by rw [h2]; exact dstOk_spec hd d he) hr
      intro k u hu
      refine hput k u ?_
      rw [putE_lookup]
      by_cases hk : oi.dst = some k
      · rw [if_pos hk]
        have e1 := envA_skip l t (xs (listed.setIfInBounds i true)) env0 k (i + 1) l.length (by omega) (fun j o hj hjl ho hod => by
          cases hxj : xs (listed.setIfInBounds i true) j with
          | false => rfl
          | true =>
            have hne : i ≠ j := by omega
            have hxj' : listed.getD j false = true := by rw [← getD_set_ne false hne]; exact hxj
            rcases hpairs i j oi o (by omega) hoi' ho with ⟨e', he', hb', hon⟩ | hap
            · have := hmid.closed j o ho hxj' e' he' hb'
              rw [hon, hxi] at this; cases this
            · exact absurd hod ((Oper.apart_spec hap).2.1 k hk))
        rw [e1] at hu
        have hself : xs (listed.setIfInBounds i true) i = true := by simp [xs, hisz]
        rw [envA, hself] at hu
        simp only [cond_true, putE_lookup, hoi', Option.bind_some, hk, if_true] at hu
        exact hu
      · rw [if_neg hk]
        have e2 := envA_same l t (xs (listed.setIfInBounds i true)) (xs listed) env0 k l.length (fun j o hj ho hod => by
          have hne : i ≠ j := fun h => by subst h; rw [hoi'] at ho; cases ho; exact hk hod
          exact getD_set_ne false hne)
        rw [← e2]; exact hu
    have hon : EnvOn M ν a (envA l t (fun _ => true) env0 i) oi := by
      intro d u hdo hu
      refine h4 d u ?_
      rw [look d (looksAt_op hdo)]; exact hu
    have hgd : ∀ g want d u, oi.guard = some (g, want) → (l[g]?).bind (·.dst) = some d → (envA l t (fun _ => true) env0 i).lookup d = some u → u.rep M ν (a.tmps.getD d undef) := by
      intro g want d u hg hgd hu
      refine h4 d u ?_
      rw [look d (looksAt_guard hg hgd)]; exact hu
    have hself : xs (listed.setIfInBounds i true) i = true := by simp [xs, hisz]
    have hold : ∀ j, i ≠ j → xs (listed.setIfInBounds i true) j = xs listed j := fun j hj => getD_set_ne false hj
    by_cases hiL : m ≤ i
    · -- a store
      obtain ⟨c, rfl⟩ : ∃ c, i = m + c := ⟨i - m, by omega⟩
      obtain ⟨hdst, hgd0⟩ := hdstm _ oi hiL hoi'
      have hprev : ∀ j, j < c → listed.getD (m + j) false = true := fun j hj => dep_of (hchain (m + j) (m + c) (by omega) (by omega) hil) hoi' hmid.closed (fun e' he' hb' => hall e' he' hb')
      have hnext : ∀ j, c ≤ j → j < l.length - m → listed.getD (m + j) false = false := by
        intro j hj hjl
        by_cases he : j = c
        · subst he; exact hxi
        · cases hx : listed.getD (m + j) false with
          | false => rfl
          | true =>
            have hq : m + j < l.length := by omega
            have := dep_of (hchain (m + c) (m + j) (by omega) (by omega) hq) (List.getElem?_eq_getElem hq) hmid.closed (fun e' he' hb' => hmid.closed _ l[m + j] (List.getElem?_eq_getElem hq) hx e' he' hb')
            rw [hxi] at this; cases this
      have hmk' : ∀ j p, mk j = some p → listed.getD j false = true := fun j p hp => dep_of (hmkd j (m + c) p hp (by omega) hil) hoi' hmid.closed (fun e' he' hb' => hall e' he' hb')
      have hsat0 : Sat κ M ν (Bs c) w := by
        have hcnt := filter_upto (p := fun j => xs listed (m + j)) (c := c) (l.length - m) (by omega) hprev hnext
        unfold bxT at h7
        cases hc : xs listed m with
        | true =>
          rw [hc, cond_true, hcnt] at h7
          exact h7
        | false =>
          have hc0 : c = 0 := by
            rcases Nat.eq_zero_or_pos c with h | h
            · exact h
            · have := hprev 0 h; unfold xs at hc; rw [Nat.add_zero, hc] at this; cases this
          subst hc0
          rw [hc, cond_false] at h7
          rw [hBs0]
          refine h7.drop (fun x hx => ?_) (nodup_bxX hap (nodup_B0 h7.nodup) _)
          rcases mem_bxX.1 hx with h | ⟨j, hj, _, hk⟩
          · exact mem_bxX.2 (.inl h)
          · exact mem_bxX.2 (.inr ⟨j, hj, hmk' j x hk, hk⟩)
      have hopi := hop (m + c) oi hiL hoi'
      rw [show m + c - m = c by omega] at hopi
      have hon' : EnvOn M ν a (envA l t (fun _ => true) env0 m) oi := by
        intro d u hdo hu
        refine hon d u hdo ?_
        rw [envm (fun _ => true) (m + c) (by omega) (by omega)]; exact hu
      unfold wpOp
      rw [hoi]
      simp only []
      rw [if_pos (by simp [Region.wanted, hgd0])]
      left
      refine Oper.wp_mono_Q (Oper.wp_mono ?_ (hopi κ M ν a w hon' hsat0))
      rintro a' w' ⟨v, M', rfl, hle, hr, hsat⟩
      refine ih _ _ _ hcount (after M' ν v w' hle h4 (by rw [htm _ hiL]; exact hr) ?_ h8)
      have hcnt2 := filter_upto (p := fun j => xs (listed.setIfInBounds (m + c) true) (m + j)) (c := c + 1) (l.length - m) (by omega) (fun j hj => by
          by_cases he : j = c
          · subst he; exact hself
          · rw [hold (m + j) (by omega)]; exact hprev j (by omega)) (fun j a b => by rw [hold (m + j) (by omega)]; exact hnext j (by omega) b)
      unfold bxT
      have hXm : xs (listed.setIfInBounds (m + c) true) m = true := by
        by_cases he : c = 0
        · subst he; exact hself
        · rw [hold m (by omega)]; exact hprev 0 (by omega)
      rw [hXm, cond_true, hcnt2]
      exact hsat
    have hiL' : i < m := by omega
    have hspec := (hs i oi hiL' hoi').2
    have htl : ∀ j, m ≤ j → xs (listed.setIfInBounds i true) j = xs listed j := fun j hj => hold j (by omega)
    have cntsame : ((List.range (l.length - m)).filter fun j => xs (listed.setIfInBounds i true) (m + j)) = (List.range (l.length - m)).filter fun j => xs listed (m + j) := by
      congr 1; funext j; exact htl (m + j) (by omega)
    have hsub0 : ∀ x ∈ B0, x ∈ bxT mk B0 Bs m l.length (xs listed) := by
      intro x hx
      unfold bxT
      cases xs listed m
      · exact mem_bxX.2 (.inl hx)
      · refine hB0 _ ?_ x hx
        exact Nat.le_trans (List.length_filter_le _ _) (by simp)
    have same : mk i = none → ∀ {M' : Mem} {ν' : Nu} {w' : World}, Sat κ M' ν' (bxT mk B0 Bs m l.length (xs listed)) w' → Sat κ M' ν' (bxT mk B0 Bs m l.length (xs (listed.setIfInBounds i true))) w' := by
      intro hk M' ν' w' hsat
      unfold bxT at hsat ⊢
      rw [htl m (Nat.le_refl _), cntsame]
      cases hc : xs listed m with
      | true => rw [hc] at hsat; exact hsat
      | false =>
        rw [hc] at hsat
        simp only [cond_false] at hsat ⊢
        refine hsat.drop (fun x hx => ?_) (nodup_bxX hap (nodup_B0 hsat.nodup) _)
        rcases mem_bxX.1 hx with h | ⟨j, hj, hX, hkj⟩
        · exact mem_bxX.2 (.inl h)
        · have hne : i ≠ j := fun e => by subst e; rw [hk] at hkj; cases hkj
          exact mem_bxX.2 (.inr ⟨j, hj, by rw [← hold j hne]; exact hX, hkj⟩)
    unfold wpOp
    rw [hoi]
    simp only []
    rcases hspec with ⟨hg, ⟨hjn, hop'⟩ | ⟨k, r, hjn, hkp, hfk, hfB0, hop'⟩⟩ | ⟨hg, ht, hjn⟩
    · rw [if_pos (wanted_of hg hgd)]
      left
      refine Oper.wp_mono_Q (Oper.wp_mono ?_ (hop' κ M ν a w _ hsub0 hon h7))
      rintro a' w' ⟨v, M', rfl, hle, hr, hsat⟩
      exact ih _ _ _ hcount (after M' ν v w' hle h4 hr (same hjn hsat) h8)
    · -- a maker: no store is done yet
      have hc : xs listed m = false := by
        cases hx : xs listed m with
        | false => rfl
        | true =>
          have := dep_of (hmkd i m _ hjn (Nat.le_refl _) ‹m < l.length›) (List.getElem?_eq_getElem ‹m < l.length›) hmid.closed (fun e' he' hb' => hmid.closed m l[m] (List.getElem?_eq_getElem ‹m < l.length›) hx e' he' hb')
          rw [hxi] at this; cases this
      have hbx1 : bxT mk B0 Bs m l.length (xs listed) = bxX mk B0 (xs listed) m := by unfold bxT; rw [hc]; rfl
      have hbx2 : bxT mk B0 Bs m l.length (xs (listed.setIfInBounds i true)) = bxX mk B0 (xs (listed.setIfInBounds i true)) m := by unfold bxT; rw [htl m (Nat.le_refl _), hc]; rfl
      rw [hbx1] at h7
      rw [if_pos (wanted_of hg hgd)]
      left
      have nod : ((bxX mk B0 (xs (listed.setIfInBounds i true)) m).map (·.1)).Nodup := nodup_bxX hap (nodup_B0 h7.nodup) _
      have hfB : Bx.fresh k (bxX mk B0 (xs listed) m) = true := by
        refine bx_fresh_of fun x hx => ?_
        rcases mem_bxX.1 hx with h | ⟨j, hj, hX, hkj⟩
        · exact Bx.fresh_spec (j := x.1) (r := x.2) hfB0 h
        · have hne : j ≠ i := fun e => by subst e; unfold xs at hX; rw [hxi] at hX; cases hX
          refine ⟨hap.1 j i x _ hkj hjn hne, fun cs e => ?_⟩
          exact hro j x hkj k cs e
      refine Oper.wp_mono_Q (Oper.wp_mono ?_ (hop' _ (fun x hx => mem_bxX.2 (.inl hx)) hfB κ M ν a w hon h7))
      rintro a' w' ⟨v, M', ν', rfl, hle, hν, hr, hsat⟩
      obtain ⟨hf0, hft⟩ := fresh_envA i hfk
      have hfresh : Env.fresh k (envA l t (xs listed) env0 l.length) = true := by
        refine envA_fresh' hf0 l.length (fun q hq hx hdq => ?_)
        rcases Nat.lt_trichotomy q i with h | h | h
        · exact hft q h hdq
        · subst h; unfold xs at hx; rw [hxi] at hx; cases hx
        · rcases hfr i q _ hjn h hq with h' | h'
          · exact h'
          · exfalso
            have := dep_of h' (List.getElem?_eq_getElem hq) hmid.closed (fun e' he' hb' => hmid.closed q l[q] (List.getElem?_eq_getElem hq) hx e' he' hb')
            rw [hxi] at this; cases this
      refine ih _ _ _ hcount (after M' ν' v w' hle (h4.fresh hfresh hν) hr ?_ (fun q hq => by rw [hν q (by omega)]; exact h8 q hq))
      rw [hbx2]
      refine hsat.drop ?_ nod
      intro x hx
      rcases mem_bxX.1 hx with h | ⟨j, hj, hX, hkj⟩
      · exact List.mem_cons_of_mem _ (mem_bxX.2 (.inl h))
      · by_cases hne : i = j
        · subst hne; rw [hjn] at hkj; cases hkj; exact List.mem_cons_self
        · exact List.mem_cons_of_mem _ (mem_bxX.2 (.inr ⟨j, hj, by rw [← hold j hne]; exact hX, hkj⟩))
    · rw [unwanted_of hg hgd]
      simp only [Bool.false_eq_true, if_false]
      refine ih _ _ _ hcount (after M ν undef w (Mem.ext.refl κ M) h4 (by rw [ht]; simp [undefT, T.rep, Cell.rep, C.rep]) (same hjn h7) h8)
theorem genM_trace2 (all : List Oper) (es : List Nat) (B0 : Bx) (K : Env → Bx → Prop) : ∀ (l : List Oper) (i0 : Nat) (gs : List (Nat × Nat)) (env : Env) (B : Bx), dstsOk n l = true → (∀ x ∈ B0, x ∈ B) → genVCM P all es B0 i0 gs l env B K →
  ∃ (t : Nat → T) (mk : Nat → Option (Nat × Res)), (∀ i o, l[i]? = some o → OSpecM P n all B0 o (envA l t (fun _ => true) env i) (t i) (mk i)) ∧ (∀ i p, mk i = some p → i < l.length) ∧ RowsOnly mk ∧
   (∀ i p, mk i = some p → Bx.fresh p.1 B = true) ∧ (∀ i j p q, mk i = some p → mk j = some q → i ≠ j → p.1 ≠ q.1) ∧ (∀ i, i < l.length → FreshOr all (i0 + i) (t i) gs) ∧
   (∀ g k p, mk g = some p → g < k → k < l.length → (t k).fresh p.1 = true ∨ depB all (i0 + k) (i0 + g) = true) ∧ K (envA l t (fun _ => true) env l.length) (bxX mk B (fun _ => true) l.length) ∧ (∀ i p, mk i = some p → memN (i0 + i) es = true)
 | [], i0, gs, env, B, _, hB, h => ⟨fun _ => undefT, fun _ => none, fun i o ho => by simp at ho, fun _ _ h => (by cases h), fun _ _ h => (by cases h), fun _ _ h => (by cases h), fun _ _ _ _ h => (by cases h), fun i hi => by simp at hi, fun _ _ _ h => (by cases h), h, fun _ _ h => (by cases h)⟩
 | o :: os, i0, gs, env, B, hd, hB, h => by
  simp only [dstsOk, List.all_cons, Bool.and_eq_true] at hd
  obtain ⟨⟨hd1, hd2⟩, hd3⟩ := hd
  have step : ∃ (t0 : T) (B' : Bx) (j0 : Option (Nat × Res)) (gs' : List (Nat × Nat)), OSpecM P n all B0 o env t0 j0 ∧ (∀ x ∈ B, x ∈ B') ∧ B' = (match j0 with | some p => p :: B | none => B) ∧ (∀ p, j0 = some p → p.2.plain ∧ Bx.fresh p.1 B = true ∧ (i0, p.1) ∈ gs') ∧ FreshOr all i0 t0 gs ∧
    (∀ p ∈ gs, p ∈ gs') ∧ (∀ p, j0 = some p → memN i0 es = true) ∧ genVCM P all es B0 (i0 + 1) gs' os (putE env o.dst t0) B' K := by
   rcases guardT_true h with ⟨hg, hx⟩ | ⟨hg, hx⟩
   ·cases hm : memN i0 es with
    | true =>
     rw [hm] at hx
     simp only [cond_true] at hx
     obtain ⟨t, r, hpl, hop, hfe, hfb, h2, h3⟩ := mkOp_sound hx
     refine ⟨t, _, some (dstN o, r), _, ⟨hd1, .inl ⟨hg, .inr ⟨_, _, rfl, Nat.le_of_ble_eq_true hd2, hfe, Bx.fresh_sub hfb hB, fun B' hs hf => hop B' hfe hf⟩⟩⟩, fun x hx => List.mem_cons_of_mem _ hx, rfl, fun p hp => ?_, h2, fun p hp => List.mem_cons_of_mem _ hp, fun _ _ => rfl, h3⟩
     cases hp
     exact ⟨hpl, hfb, List.mem_cons_self⟩
    | false =>
     rw [hm] at hx
     simp only [cond_false] at hx
     obtain ⟨t, hop, h2, h3⟩ := pureVC_sound hx
     exact ⟨t, B, none, gs, ⟨hd1, .inl ⟨hg, .inl ⟨rfl, hop⟩⟩⟩, fun _ h => h, rfl, fun p hp => (by cases hp), h2, fun _ h => h, fun p hp => (by cases hp), h3⟩
   ·exact ⟨undefT, B, none, gs, ⟨hd1, .inr ⟨hg, rfl, rfl⟩⟩, fun _ h => h, rfl, fun p hp => (by cases hp), FreshOr_un gs, fun _ h => h, fun p hp => (by cases hp), hx⟩
  obtain ⟨t0, B', j0, gs', hspec, hsubB, hBe, hj0, hfr0, hsub, hmem0, hk⟩ := step
  obtain ⟨t, mk, hs, hlen, hro, hfb, hdis, hfr, hjj, hK, hmm⟩ := genM_trace2 all es B0 K os (i0 + 1) gs' _ B' hd3 (fun x hx => hsubB x (hB x hx)) hk
  have hmk : ∀ i p, (match i with | 0 => j0 | i + 1 => mk i) = some p → (i = 0 ∧ j0 = some p) ∨ ∃ i', i = i' + 1 ∧ mk i' = some p := by
   intro i p h
   cases i with
   | zero => exact .inl ⟨rfl, h⟩
   | succ i => exact .inr ⟨i, rfl, h⟩
  have ne0 : ∀ i p q, j0 = some p → mk i = some q → q.1 ≠ p.1 := by
   intro i p q h1 h2
   have h3 := hfb i q h2
   subst h1
   rw [hBe] at h3
   exact fun e => (Bx.fresh_spec (j := p.1) (r := p.2) h3 List.mem_cons_self).1 e.symm
  refine ⟨fun i => match i with | 0 => t0 | i + 1 => t i, fun i => match i with | 0 => j0 | i + 1 => mk i, ?_, ?_, ?_, ?_, ?_, ?_, ?_, ?_, ?_⟩
  ·intro i o' ho
   cases i with
   | zero => simp at ho; subst ho; exact hspec
   | succ i =>
    rw [envA_cons]
    exact hs i o' (by simpa using ho)
  ·intro i p h
   rcases hmk i p h with ⟨rfl, _⟩ | ⟨i', rfl, h⟩
   ·simp
   ·have := hlen i' p h; simp; omega
  ·intro i p h
   rcases hmk i p h with ⟨rfl, h⟩ | ⟨i', rfl, h⟩
   ·exact (hj0 p h).1
   ·exact hro i' p h
  ·intro i p h
   rcases hmk i p h with ⟨rfl, h⟩ | ⟨i', rfl, h⟩
   ·exact (hj0 p h).2.1
   ·exact Bx.fresh_sub (hfb i' p h) hsubB
  ·intro i j p q h1 h2 hij
   rcases hmk i p h1 with ⟨rfl, h1⟩ | ⟨i', rfl, h1⟩ <;> rcases hmk j q h2 with ⟨rfl, h2⟩ | ⟨j', rfl, h2⟩
   ·exact absurd rfl hij
   ·exact fun e => ne0 j' p q h1 h2 e.symm
   ·exact ne0 i' q p h2 h1
   ·exact hdis i' j' p q h1 h2 (by omega)
  ·intro i hi
   cases i with
   | zero => exact hfr0
   | succ i =>
    have := hfr i (by simpa using hi)
    rw [show i0 + 1 + i = i0 + (i + 1) by omega] at this
    exact gen_trace.FreshOr_sub hsub this
  ·intro g k p hg hgk hk'
   cases k with
   | zero => omega
   | succ k =>
    rcases hmk g p hg with ⟨rfl, hg⟩ | ⟨g', rfl, hg⟩
    ·have := FreshOr_spec (hfr k (by simpa using hk')) (i0, p.1) (hj0 p hg).2.2
     rwa [show i0 + 1 + k = i0 + (k + 1) by omega] at this
    ·have := hjj g' k p hg (by omega) (by simpa using hk')
     rwa [show i0 + 1 + k = i0 + (k + 1) by omega, show i0 + 1 + g' = i0 + (g' + 1) by omega] at this
  ·rw [List.length_cons, envA_cons, bxX_cons]
   rw [hBe] at hK
   exact hK
  ·intro i p h
   rcases hmk i p h with ⟨rfl, h⟩ | ⟨i', rfl, h⟩
   ·exact hmem0 p h
   ·have := hmm i' p h
    rwa [show i0 + 1 + i' = i0 + (i' + 1) by omega] at this
def tailOk (o : Oper) : Bool := match o.op with | .store _ _ _ => o.dst.isNone && o.guard.isNone | _ => false
theorem tail_trace (all : List Oper) (B0 : Bx) (K : Env → Bx → Prop) : ∀ (l : List Oper) (env : Env) (B : Bx), (∀ x ∈ B0, x ∈ B) → l.all tailOk = true → parEVC P all B0 l env B K →
  ∃ Bs : Nat → Bx, Bs 0 = B ∧ (∀ i o, l[i]? = some o → OpE P o env (Bs i) undefT (Bs (i + 1))) ∧ (∀ q, q ≤ l.length → ∀ x ∈ B0, x ∈ Bs q) ∧ K env (Bs l.length)
 | [], env, B, hfix, _, h => ⟨fun _ => B, rfl, fun i o ho => by simp at ho, fun _ _ x hx => hfix x hx, h⟩
 | o :: os, env, B, hfix, ha, h => by
  simp only [List.all_cons, Bool.and_eq_true] at ha
  obtain ⟨ho, ha⟩ := ha
  unfold tailOk at ho
  split at ho
  ·rename_i t x y hop
   simp only [Bool.and_eq_true, Option.isNone_iff_eq_none] at ho
   unfold parEVC at h
   rcases guardT_true h with ⟨_, h⟩ | ⟨hg, _⟩
   ·rw [hop] at h
    simp only [] at h
    split at h
    ·rename_i k hk
     obtain ⟨hn, h⟩ := h
     obtain ⟨B', h1, ⟨k', r, hk', rfl⟩, h2⟩ := vStore_sound hop (vStore_put h)
     rw [hk] at hk'; cases hk'
     have hfix' : ∀ x ∈ B0, x ∈ Bx.put k r B := fun x hx => mem_put_other (hfix x hx) (notIn_spec hn hx)
     rw [ho.1] at h2
     obtain ⟨Bs, e0, e1, e2, e3⟩ := tail_trace all B0 K os env _ hfix' ha h2
     refine ⟨fun i => match i with | 0 => B | i + 1 => Bs i, rfl, ?_, ?_, e3⟩
     ·intro i o' ho'
      cases i with
      | zero => simp at ho'; subst ho'; show OpE P _ env B undefT (Bs 0); rw [e0]; exact h1
      | succ i => exact e1 i o' (by simpa using ho')
     ·intro q hq x hx
      cases q with
      | zero => exact hfix x hx
      | succ q => exact e2 q (by simpa using hq) x hx
    ·exact h.elim
   ·exfalso
    unfold guardT at hg
    rw [ho.2] at hg
    exact hg
  ·cases ho
def genMTOk (n : Nat) (l : List Oper) (es : List Nat) (m : Nat) : Bool := genMOk n l && (decide (m < l.length) && ((l.drop m).all tailOk && (List.range l.length).all fun j => decide (j < m) || (es.all (fun e => depB l j e) && (List.range j).all fun i => decide (i < m) || depB l j i)))
theorem memN_mem {i : Nat} : ∀ {es : List Nat}, memN i es = true → i ∈ es
 | [], h => (by cases h)
 | k :: ks, h => by
  unfold memN at h
  simp only [Bool.or_eq_true, beq_iff_eq] at h
  rcases h with rfl | h
  ·exact List.mem_cons_self
  ·exact List.mem_cons_of_mem _ (memN_mem h)
/-- THE RULE: es: the operations that make rows or boxes; from m on only stores, each behind the one before it and behind all makers -/
theorem AWP.genMT {id : Nat} {l : List Oper} {env : Env} {B : Bx} (es : List Nat) (m : Nat) (hm : P.follows .mixedOrders = true) (hl : genMTOk n l es m = true)
    (h : ∀ K : Env → Bx → Prop, (∀ e b, Q .normal ⟨e, b⟩ → K e b) → genVCM P l es B 0 [] (l.take m) env B fun env B' => parEVC P l B (l.drop m) env B' K) : AWP P n (.region id l.toArray true) ⟨env, B⟩ Q := by
  simp only [genMTOk, genMOk, Bool.and_eq_true, decide_eq_true_eq] at hl
  obtain ⟨⟨hlex, hds⟩, hlt, htail, hdep⟩ := hl
  have htl : (l.take m).length = m := by simp; omega
  have hdl : (l.drop m).length = l.length - m := by simp
  have hds' : dstsOk n (l.take m) = true := by
    unfold dstsOk at *
    rw [← List.take_append_drop m l, List.all_append, Bool.and_eq_true] at hds
    exact hds.1
  have hdropAt : ∀ i o, m ≤ i → l[i]? = some o → (l.drop m)[i - m]? = some o := by
    intro i o hi ho
    rw [List.getElem?_drop, show m + (i - m) = i by omega]; exact ho
  have hdstm : ∀ i o, m ≤ i → l[i]? = some o → o.dst = none ∧ o.guard = none := by
    intro i o hi ho
    have := List.all_eq_true.1 htail o (List.mem_of_getElem? (hdropAt i o hi ho))
    unfold tailOk at this
    split at this
    · simpa using this
    · cases this
  have hdp : ∀ j, m ≤ j → j < l.length → (∀ e ∈ es, depB l j e = true) ∧ ∀ i, m ≤ i → i < j → depB l j i = true := by
    intro j hj hjl
    have := List.all_eq_true.1 hdep j (List.mem_range.2 hjl)
    simp only [Bool.or_eq_true, Bool.and_eq_true, decide_eq_true_eq] at this
    rcases this with h | ⟨h1, h2⟩
    · omega
    · refine ⟨fun e he => List.all_eq_true.1 h1 e he, fun i hi hij => ?_⟩
      have := List.all_eq_true.1 h2 i (List.mem_range.2 hij)
      simp only [Bool.or_eq_true, decide_eq_true_eq] at this
      rcases this with h | h
      · omega
      · exact h
  intro κ M0 a w hs
  obtain ⟨hback, hpairs, _⟩ := lex_pairs hlex
  obtain ⟨t, mk, hsp, hlen, hro, hfb, hdis, _, hjj, hK, hmem⟩ := genM_trace2 l es B _ (l.take m) 0 [] env B hds' (fun x hx => hx) (h (fun e b => Q .normal ⟨e, b⟩) (fun _ _ k => k))
  rw [htl] at hlen hjj hK
  obtain ⟨Bs, hB0, hBop, hBsub, hQB⟩ := tail_trace l B _ (l.drop m) _ _ (fun x hx => mem_bxX.2 (.inl hx)) htail hK
  rw [hdl] at hBsub hQB
  have henv : ∀ (t' : Nat → T), (∀ i, i < m → t' i = t i) → ∀ i, i ≤ m → envA l t' (fun _ => true) env i = envA (l.take m) t (fun _ => true) env i := by
    intro t' ht i
    induction i with
    | zero => intro _; rfl
    | succ i ih =>
      intro hi
      rw [envA, envA, ih (by omega), ht i (by omega), List.getElem?_take_of_lt (by omega)]
  refine wp_region_any hm ?_
  have hsz : l.toArray.size = l.length := by simp
  rw [hsz]
  have hrep : ∀ j, (Array.replicate l.length false).getD j false = false := fun j => rep_getD _ j
  have hxs : ∀ j, xs (Array.replicate l.length false) j = false := fun j => rep_getD _ j
  let t' : Nat → T := fun i => if i < m then t i else undefT
  have ht' : ∀ i, i < m → t' i = t i := fun i hi => by simp [t', hi]
  have htm : ∀ i, m ≤ i → t' i = undefT := fun i hi => by simp [t', Nat.not_lt.2 hi]
  have hmkd : ∀ i j p, mk i = some p → m ≤ j → j < l.length → depB l j i = true := by
    intro i j p hp hj hjl
    have := hmem i p hp
    rw [Nat.zero_add] at this
    exact (hdp j hj hjl).1 i (memN_mem this)
  have hend : ∀ i, m ≤ i → i ≤ l.length → envA l t' (fun _ => true) env i = envA (l.take m) t (fun _ => true) env m := by
    intro i
    induction i with
    | zero => intro hi _; have : m = 0 := by omega
              subst this; rfl
    | succ i ih =>
      intro hi hil
      by_cases he : m = i + 1
      · subst he; exact henv t' ht' _ (Nat.le_refl _)
      · rw [← ih (by omega) (by omega), envA]
        obtain ⟨o, ho⟩ : ∃ o, l[i]? = some o := ⟨l[i]'(by omega), by rw [List.getElem?_eq_getElem]⟩
        simp only [cond_true, ho, Option.bind_some, (hdstm i o (by omega) ho).1]
        rfl
  refine genMT_sound (n := n) (κ := κ) (M0 := M0) (t := t') (mk := mk) (B0 := B) (env0 := env) (m := m) hback hpairs ⟨hdis, fun i p hp x hx => (Bx.fresh_spec (j := x.1) (r := x.2) (hfb i p hp) hx).1⟩ hro hlen hlt Bs hdstm htm hmkd (fun i j hi hij hj => (hdp j (by omega) hj).2 i hi hij) hBsub hB0 ?_ ?_ ?_ (fun a w s => ?_) l.length _ a _ ?_ ?_
  · intro i o hi ho
    rw [henv t' ht' m (Nat.le_refl _)]
    exact hBop (i - m) o (hdropAt i o hi ho)
  · intro i o hi ho
    rw [henv t' ht' i (by omega), ht' i hi]
    exact hsp i o (by rw [List.getElem?_take_of_lt hi]; exact ho)
  · intro g k p hg hgk hk
    by_cases hkm : k < m
    · rw [ht' k hkm]
      have := hjj g k p hg hgk hkm; simpa using this
    · left
      rw [htm k (by omega)]; rfl
  · rw [hend l.length (by omega) (Nat.le_refl _)] at s
    exact ⟨_, s, hQB⟩
  · unfold cnt
    have hfil : (List.range l.length).filter (fun i => !(Array.replicate l.length false).getD i false) = List.range l.length := by
      rw [List.filter_eq_self]
      intro x _
      simp only [hrep x, Bool.not_false]
    rw [hfil, List.length_range]
  · have hst := mid_start (σ := ⟨env, B⟩) (l := l) (t := t') (b := fun _ => B) (e := fun _ => false) rfl hs
    obtain ⟨M, ν, _, h1, h2, h3, h4, _, _, h7, h8⟩ := hst.st
    have hbx : ∀ q, bxX mk B (xs (Array.replicate l.length false)) q = B := by
      intro q
      induction q with
      | zero => rfl
      | succ q ih => unfold bxX; rw [hxs q]; simp only [ih]
    exact ⟨hst.size, hst.closed, M, ν, h1, h2, h3, h4, by unfold bxT; rw [hxs m, cond_false, hbx]; exact h7, h8⟩
end Go.Sx
namespace Go.Sx
theorem Gh.fz {n : Nat} {env : Env} {B : Bx} (k : Nat) {sz : Nat} {rows : List (List C)} (hb : B.lookup k = some (.row sz rows) := by rfl) (hlow : lowN k = true := by rfl)
  (hE : Env.frOk k rows.length env := by simp only [go_sem, zA, zB, zC, zD, zE, zF, zG, reduceCtorEq, zH, zI, zJ, zK, zL, List.length_map]) (hB : Bx.frOk k rows.length B := by simp only [go_sem, zA, zB, zC, zD, zE, zF, zG, reduceCtorEq, zH, zI, zJ, zK, zL, List.length_map]) :
  Gh n ⟨env, B⟩ ⟨frE k sz rows env, frB k sz rows (Bx.drop k B)⟩ := Gh.freeze k hb hlow hE hB
end Go.Sx
set_option linter.unusedVariables false
namespace Go.Proofs.YtogponhonjiidaaDoor
open Go Go.Sx
open Nat renaming reduceBEq → zA, reduceBNe → zB, reduceAdd → zC, reduceSub → zD, reduceMul → zE, reduceLeDiff → zF, reduceLT → zG, reduceEqDiff → zH
open Int renaming reduceToNat → zI, reduceLE → zJ, reduceLT → zK, reduceEq → zL
open Bool renaming not_eq_true' → zM, not_eq_false' → zN
structure Tok where
 kind : Int
 text : List UInt8
 num : Int
 at_ : Int
 deriving DecidableEq
def encTok (t : Tok) : List C := [.int .i64 t.kind, .str t.text, .int .i64 t.num, .int .i64 t.at_]
def zeroTok : Tok := ⟨0, [], 0, 0⟩
def lowI (n : Int) : Bool := decide (97 ≤ n) && decide (n ≤ 122)
def uppI (n : Int) : Bool := decide (65 ≤ n) && decide (n ≤ 90)
def digI (n : Int) : Bool := decide (48 ≤ n) && decide (n ≤ 57)
/-- bytes of names, of variables -/
def nameI (n : Int) : Bool := lowI n || (digI n || decide (n = 95))
def varI (n : Int) : Bool := lowI n || (uppI n || (digI n || decide (n = 95)))
/-- how many bytes at the head meet p -/
def cntW (p : Int → Bool) : List UInt8 → Nat
 | [] => 0
 | b :: l => bif p b.toNat then 1 + cntW p l else 0
theorem cntW_le (p : Int → Bool) : ∀ l, cntW p l ≤ l.length
 | [] => Nat.le_refl _
 | b :: l => by
  have := cntW_le p l
  rw [cntW, List.length_cons]
  cases p b.toNat <;> simp only [cond_true, cond_false] <;> omega
theorem cntW_at {p : Int → Bool} {s : List UInt8} {k : Nat} {b : UInt8} (h : s[k]? = some b) : cntW p (s.drop k) = bif p b.toNat then 1 + cntW p (s.drop (k + 1)) else 0 := by
 obtain ⟨hk, rfl⟩ := List.getElem?_eq_some_iff.1 h
 rw [List.drop_eq_getElem_cons hk, cntW]
theorem cntW_end {p : Int → Bool} {s : List UInt8} {k : Nat} (h : s.length ≤ k) : cntW p (s.drop k) = 0 := by rw [List.drop_eq_nil_of_le h]; rfl
/-- the place behind the bytes from k on that meet p -/
def toW (p : Int → Bool) (s : List UInt8) (k : Nat) : Nat := k + cntW p (s.drop k)
theorem toW_le {p : Int → Bool} {s : List UInt8} {k : Nat} (h : k ≤ s.length) : toW p s k ≤ s.length := by
 have := cntW_le p (s.drop k); rw [List.length_drop] at this; unfold toW; omega
theorem toW_ge {p : Int → Bool} {s : List UInt8} {k : Nat} : k ≤ toW p s k := Nat.le_add_right _ _
theorem toW_yes {p : Int → Bool} {s : List UInt8} {k : Nat} {b : UInt8} (h : s[k]? = some b) (hp : p b.toNat = true) : toW p s k = toW p s (k + 1) := by unfold toW; rw [cntW_at h, hp, cond_true]; omega
theorem toW_no {p : Int → Bool} {s : List UInt8} {k : Nat} {b : UInt8} (h : s[k]? = some b) (hp : p b.toNat = false) : toW p s k = k := by unfold toW; rw [cntW_at h, hp]; rfl
theorem toW_end {p : Int → Bool} {s : List UInt8} {k : Nat} (h : s.length ≤ k) : toW p s k = k := by unfold toW; rw [cntW_end h]; rfl
def sepI (n : Int) : Bool := decide (n = 9) || (decide (n = 10) || (decide (n = 13) || decide (n = 32)))
def noLf (n : Int) : Bool := !decide (n = 10)
/-- how many bytes of separators stand at the head -/
def skipL : List UInt8 → Nat
 | [] => 0
 | b :: l => bif sepI b.toNat then 1 + skipL l else bif decide ((b.toNat : Int) = 37) then 1 + cntW noLf l + skipL (l.drop (cntW noLf l)) else 0
termination_by l => l.length
decreasing_by
 ·simp
 ·simp; omega
def skipTo (s : List UInt8) (k : Nat) : Nat := k + skipL (s.drop k)
theorem skipL_le : ∀ l : List UInt8, skipL l ≤ l.length
 | [] => by simp [skipL]
 | b :: l => by
  have h1 := skipL_le l
  have h2 := cntW_le noLf l
  have h3 := skipL_le (l.drop (cntW noLf l))
  rw [List.length_drop] at h3
  rw [skipL, List.length_cons]
  cases sepI b.toNat <;> cases decide ((b.toNat : Int) = 37) <;> simp only [cond_true, cond_false] <;> omega
termination_by l => l.length
decreasing_by
 ·simp
 ·simp; omega
theorem skipTo_le {s : List UInt8} {k : Nat} (h : k ≤ s.length) : skipTo s k ≤ s.length := by
 have := skipL_le (s.drop k); rw [List.length_drop] at this; unfold skipTo; omega
theorem skipTo_ge {s : List UInt8} {k : Nat} : k ≤ skipTo s k := Nat.le_add_right _ _
theorem skipTo_end {s : List UInt8} {k : Nat} (h : s.length ≤ k) : skipTo s k = k := by unfold skipTo; rw [List.drop_eq_nil_of_le h, skipL]; rfl
theorem skipTo_sep {s : List UInt8} {k : Nat} {b : UInt8} (h : s[k]? = some b) (hs : sepI b.toNat = true) : skipTo s k = skipTo s (k + 1) := by
 obtain ⟨hk, rfl⟩ := List.getElem?_eq_some_iff.1 h
 unfold skipTo
 rw [List.drop_eq_getElem_cons hk, skipL, hs, cond_true]; omega
theorem skipTo_com {s : List UInt8} {k : Nat} {b : UInt8} (h : s[k]? = some b) (hs : sepI b.toNat = false) (hc : decide ((b.toNat : Int) = 37) = true) : skipTo s k = skipTo s (toW noLf s (k + 1)) := by
 obtain ⟨hk, rfl⟩ := List.getElem?_eq_some_iff.1 h
 unfold skipTo toW
 rw [List.drop_eq_getElem_cons hk, skipL, hs, hc, cond_false, cond_true, List.drop_drop, Nat.add_assoc k 1]
 omega
theorem skipTo_no {s : List UInt8} {k : Nat} {b : UInt8} (h : s[k]? = some b) (hs : sepI b.toNat = false) (hc : decide ((b.toNat : Int) = 37) = false) : skipTo s k = k := by
 obtain ⟨hk, rfl⟩ := List.getElem?_eq_some_iff.1 h
 unfold skipTo
 rw [List.drop_eq_getElem_cons hk, skipL, hs, hc]; rfl
end Go.Proofs.YtogponhonjiidaaDoor
set_option linter.unusedSimpArgs false
set_option linter.unusedVariables false
set_option maxRecDepth 20000
set_option maxHeartbeats 16000000
namespace Go.Proofs.YtogponhonjiidaaDoor
open Go Go.Sx
open Nat renaming reduceBEq → zA, reduceBNe → zB, reduceAdd → zC, reduceSub → zD, reduceMul → zE, reduceLeDiff → zF, reduceLT → zG, reduceEqDiff → zH
open Int renaming reduceToNat → zI, reduceLE → zJ, reduceLT → zK, reduceEq → zL
open Bool renaming not_eq_true' → zM, not_eq_false' → zN
theorem wordslower_c (n : Int) : PC Tryd.prog 57 [I .u8 n] (Bo (lowI n)) := by
 refine PCB.of_body Tryd.func57 rfl (by decide) Tryd.ntmps57 Tryd.results57 rfl rfl rfl ?_ rfl rfl
 repeat' (first | (simp only [go_sem, zA, zB, zC, zD, zE, zF, zG, reduceCtorEq, zH, zI, zJ, zK, zL]; all_goals fail_if_success guard_target =ₛ False) | (with_reducible first | ((first | refine seqVC_stepN rfl ?_ | refine seqVC_stepG rfl (by with_unfolding_all rfl) ?_ | refine AWP.seq ?_ | refine AWP.seqR (by kernel_rfl) ?_); intro K hK) | ((first | refine hK _ _ _ ?_ | refine hK _ _ ?_ | refine hK _ ?_); clear hK K) | refine seqVC_nil ?_ | refine AWP.block ?_ | (refine AWP.cond (by with_unfolding_all rfl) ?_ ?_ <;> intro h <;> (try simp only [zM, zN] at h) <;> try exact absurd h (by decide)) | refine AWP.skip ?_ | refine AWP.ret ?_ | refine AWP.exit ?_ | (refine ⟨fun h => ?_, fun h => ?_⟩ <;> (try simp only [zM, zN] at h) <;> try simp only [h]) | refine Or.inl ?_) | (clear hK K))
 all_goals (first | exact fun _ h => absurd h List.not_mem_nil | (refine fin0 ?_; first | rfl | (simp only [lowI, Bool.true_and, Bool.false_and, Bool.and_false, Bool.and_true, *, zb, cond_true, cond_false, decide_true, decide_false] <;> rfl)))
theorem wordsupper_c (n : Int) : PC Tryd.prog 62 [I .u8 n] (Bo (uppI n)) := by
 refine PCB.of_body Tryd.func62 rfl (by decide) Tryd.ntmps62 Tryd.results62 rfl rfl rfl ?_ rfl rfl
 repeat' (first | (simp only [go_sem, zA, zB, zC, zD, zE, zF, zG, reduceCtorEq, zH, zI, zJ, zK, zL]; all_goals fail_if_success guard_target =ₛ False) | (with_reducible first | ((first | refine seqVC_stepN rfl ?_ | refine seqVC_stepG rfl (by with_unfolding_all rfl) ?_ | refine AWP.seq ?_ | refine AWP.seqR (by kernel_rfl) ?_); intro K hK) | ((first | refine hK _ _ _ ?_ | refine hK _ _ ?_ | refine hK _ ?_); clear hK K) | refine seqVC_nil ?_ | refine AWP.block ?_ | (refine AWP.cond (by with_unfolding_all rfl) ?_ ?_ <;> intro h <;> (try simp only [zM, zN] at h) <;> try exact absurd h (by decide)) | refine AWP.skip ?_ | refine AWP.ret ?_ | refine AWP.exit ?_ | (refine ⟨fun h => ?_, fun h => ?_⟩ <;> (try simp only [zM, zN] at h) <;> try simp only [h]) | refine Or.inl ?_) | (clear hK K))
 all_goals (first | exact fun _ h => absurd h List.not_mem_nil | (refine fin0 ?_; first | rfl | (simp only [uppI, Bool.true_and, Bool.false_and, Bool.and_false, Bool.and_true, *, zb, cond_true, cond_false, decide_true, decide_false] <;> rfl)))
theorem wordsdigit_c (n : Int) : PC Tryd.prog 61 [I .u8 n] (Bo (digI n)) := by
 refine PCB.of_body Tryd.func61 rfl (by decide) Tryd.ntmps61 Tryd.results61 rfl rfl rfl ?_ rfl rfl
 repeat' (first | (simp only [go_sem, zA, zB, zC, zD, zE, zF, zG, reduceCtorEq, zH, zI, zJ, zK, zL]; all_goals fail_if_success guard_target =ₛ False) | (with_reducible first | ((first | refine seqVC_stepN rfl ?_ | refine seqVC_stepG rfl (by with_unfolding_all rfl) ?_ | refine AWP.seq ?_ | refine AWP.seqR (by kernel_rfl) ?_); intro K hK) | ((first | refine hK _ _ _ ?_ | refine hK _ _ ?_ | refine hK _ ?_); clear hK K) | refine seqVC_nil ?_ | refine AWP.block ?_ | (refine AWP.cond (by with_unfolding_all rfl) ?_ ?_ <;> intro h <;> (try simp only [zM, zN] at h) <;> try exact absurd h (by decide)) | refine AWP.skip ?_ | refine AWP.ret ?_ | refine AWP.exit ?_ | (refine ⟨fun h => ?_, fun h => ?_⟩ <;> (try simp only [zM, zN] at h) <;> try simp only [h]) | refine Or.inl ?_) | (clear hK K))
 all_goals (first | exact fun _ h => absurd h List.not_mem_nil | (refine fin0 ?_; first | rfl | (simp only [digI, Bool.true_and, Bool.false_and, Bool.and_false, Bool.and_true, *, zb, cond_true, cond_false, decide_true, decide_false] <;> rfl)))
theorem wName_c (n : Int) : PC Tryd.prog 60 [I .u8 n] (Bo (nameI n)) := by
 have h1 := wordslower_c n
 have h2 := wordsdigit_c n
 generalize h3 : lowI n = a at h1
 generalize h4 : digI n = b at h2
 refine PCB.of_body Tryd.func60 rfl (by decide) Tryd.ntmps60 Tryd.results60 rfl rfl rfl ?_ rfl rfl
 repeat' (first | (simp only [go_sem, zA, zB, zC, zD, zE, zF, zG, reduceCtorEq, zH, zI, zJ, zK, zL]; all_goals fail_if_success guard_target =ₛ False) | (with_reducible first | ((first | refine seqVC_stepN rfl ?_ | refine seqVC_stepG rfl (by with_unfolding_all rfl) ?_ | refine AWP.seq ?_ | refine AWP.seqR (by kernel_rfl) ?_); intro K hK) | ((first | refine hK _ _ _ ?_ | refine hK _ _ ?_ | refine hK _ ?_); clear hK K) | refine seqVC_nil ?_ | refine AWP.block ?_ | (refine AWP.cond (by with_unfolding_all rfl) ?_ ?_ <;> intro h <;> (try simp only [zM, zN] at h) <;> try exact absurd h (by decide)) | refine AWP.skip ?_ | refine AWP.ret ?_ | refine AWP.exit ?_ | (refine ⟨fun h => ?_, fun h => ?_⟩ <;> (try simp only [zM, zN] at h) <;> try simp only [h]) | refine ⟨_, h1, ?_⟩ | refine ⟨_, h2, ?_⟩ | refine Or.inl ?_) | (clear hK K))
 all_goals (first | exact fun _ h => absurd h List.not_mem_nil | (refine fin0 ?_; first | rfl | (simp only [nameI, h3, h4, Bool.true_or, Bool.false_or, Bool.or_false, *, zb, cond_true, cond_false, decide_true, decide_false] <;> rfl)))
theorem wVar_c (n : Int) : PC Tryd.prog 63 [I .u8 n] (Bo (varI n)) := by
 have h1 := wordslower_c n
 have h2 := wordsdigit_c n
 have h0 := wordsupper_c n
 generalize h3 : lowI n = a at h1
 generalize h4 : digI n = b at h2
 generalize h5 : uppI n = c at h0
 refine PCB.of_body Tryd.func63 rfl (by decide) Tryd.ntmps63 Tryd.results63 rfl rfl rfl ?_ rfl rfl
 repeat' (first | (simp only [go_sem, zA, zB, zC, zD, zE, zF, zG, reduceCtorEq, zH, zI, zJ, zK, zL]; all_goals fail_if_success guard_target =ₛ False) | (with_reducible first | ((first | refine seqVC_stepN rfl ?_ | refine seqVC_stepG rfl (by with_unfolding_all rfl) ?_ | refine AWP.seq ?_ | refine AWP.seqR (by kernel_rfl) ?_); intro K hK) | ((first | refine hK _ _ _ ?_ | refine hK _ _ ?_ | refine hK _ ?_); clear hK K) | refine seqVC_nil ?_ | refine AWP.block ?_ | (refine AWP.cond (by with_unfolding_all rfl) ?_ ?_ <;> intro h <;> (try simp only [zM, zN] at h) <;> try exact absurd h (by decide)) | refine AWP.skip ?_ | refine AWP.ret ?_ | refine AWP.exit ?_ | (refine ⟨fun h => ?_, fun h => ?_⟩ <;> (try simp only [zM, zN] at h) <;> try simp only [h]) | refine ⟨_, h1, ?_⟩ | refine ⟨_, h2, ?_⟩ | refine ⟨_, h0, ?_⟩ | refine Or.inl ?_) | (clear hK K))
 all_goals (first | exact fun _ h => absurd h List.not_mem_nil | (refine fin0 ?_; first | rfl | (simp only [varI, h3, h4, h5, Bool.true_or, Bool.false_or, Bool.or_false, *, zb, cond_true, cond_false, decide_true, decide_false] <;> rfl)))
/-- the scanner's box -/
abbrev scB (s : List UInt8) (k : Nat) : Res := .cells [.dat (.str s), .dat (.int .i64 k)]
abbrev Scp (k : Nat) : T := .one (.ptr k 0)
/-- run: from the place i on, at least one byte -/
theorem run_c (F : FuncId) (p : Int → Bool) (hF : ∀ n : Int, PC Tryd.prog F [I .u8 n] (Bo (p n))) (s : List UInt8) (hs : s.length ≤ 1000000000000) (i : Nat) (hi : i < s.length) :
  PCB Tryd.prog 59 [Scp pin, .one (.dat (.fn F))] [(pin, scB s i)] (S ((s.take (toW p s (i + 1))).drop i)) [(pin, scB s (toW p s (i + 1)))] := by
 have hw : IntKind.i64.wrap ((i : Int) + 1) = ((i + 1 : Nat) : Int) := by rw [w64 (by omega)]; rfl
 refine PCB.of_body Tryd.func59 rfl (by decide) Tryd.ntmps59 Tryd.results59 rfl rfl rfl ?_ rfl rfl
 repeat' (first | (simp only [go_sem, zA, zB, zC, zD, zE, zF, zG, reduceCtorEq, zH, zI, zJ, zK, zL, pin, hw]; all_goals fail_if_success guard_target =ₛ False) | (with_reducible first | ((first | refine seqVC_stepN rfl ?_ | refine seqVC_stepG rfl (by with_unfolding_all rfl) ?_ | refine AWP.seq ?_ | refine AWP.seqR (by kernel_rfl) ?_ | refine parVC_stepN rfl ?_ | refine parVC_stepG rfl (by with_unfolding_all rfl) ?_ | refine parEVC_stepN rfl ?_ | refine parEVC_stepG rfl (by with_unfolding_all rfl) ?_ | refine genVC_stepN rfl ?_ | refine genVC_stepG rfl (by with_unfolding_all rfl) ?_); intro K hK) | ((first | refine hK _ _ _ ?_ | refine hK _ _ ?_ | refine hK _ ?_); clear hK K) | refine seqVC_nil ?_ | refine parVC_nil ?_ | refine parEVC_nil ?_ | refine genVC_nil ?_ | refine AWP.block ?_ | (refine AWP.cond (by with_unfolding_all rfl) ?_ ?_ <;> intro h <;> (try simp only [zM, zN] at h) <;> try exact absurd h (by decide)) | refine AWP.skip ?_ | refine AWP.ret ?_ | refine AWP.exit ?_ | (refine ⟨fun h => ?_, fun h => ?_⟩ <;> (try simp only [zM, zN] at h) <;> try simp only [h]) | refine AWP.parR mixed (by kernel_rfl) fun K hK => ?_ | refine ⟨(by kernel_rfl : depB _ _ _ = true), ?_⟩ | refine Or.inl ?_) | (clear hK K))
 refine AWP.loopF (X := Nat) (fun k => [(0, Scp 1000000)]) (fun k => [(1000000, scB s k)]) [1, 5] [] (fun k => i + 1 ≤ k ∧ k ≤ s.length ∧ toW p s (i + 1) = toW p s k) (fun k => s.length - k) (i + 1) (by simp only [go_sem, zA, zB, zC, zD, zE, zF, zG, reduceCtorEq, zH, zI, zJ, zK, zL]; exact Gh.to [] (by repeat (first | exact trivial | refine ⟨rfl, ?_⟩ | refine ⟨by (simp only [go_sem, zA, zB, zC, zD, zE, zF, zG, reduceCtorEq, zH, zI, zJ, zK, zL, List.length_append, List.length_map, List.length_cons, List.length_nil, Nat.zero_add]) <;> rfl, ?_⟩)) (by repeat (first | exact trivial | refine ⟨rfl, ?_⟩ | refine ⟨by (simp only [go_sem, zA, zB, zC, zD, zE, zF, zG, reduceCtorEq, zH, zI, zJ, zK, zL, List.length_append, List.length_map, List.length_cons, List.length_nil, Nat.zero_add]) <;> rfl, ?_⟩)) rfl rfl rfl) ?_ ?_
 ·exact ⟨Nat.le_refl _, hi, rfl⟩
 rintro k ⟨hk, hkl, hok⟩
 simp only [go_sem, zA, zB, zC, zD, zE, zF, zG, reduceCtorEq, zH, zI, zJ, zK, zL]
 by_cases hlt : k < s.length
 ·obtain ⟨b, hb⟩ : ∃ b, s[k]? = some b := ⟨s[k], List.getElem?_eq_getElem hlt⟩
  have hd : decide ((k : Int) < (s.length : Int)) = true := by rw [decide_eq_true_eq]; omega
  have hwk : IntKind.i64.wrap ((k : Int) + 1) = ((k + 1 : Nat) : Int) := by rw [w64 (by omega)]; rfl
  have hp := hF b.toNat
  cases hz : p b.toNat <;> rw [hz] at hp
  ·
   rw [toW_no hb hz] at hok
   repeat' (first | (simp only [go_sem, zA, zB, zC, zD, zE, zF, zG, reduceCtorEq, zH, zI, zJ, zK, zL, pin, hd, hwk]; all_goals fail_if_success guard_target =ₛ False) | (with_reducible first | ((first | refine seqVC_stepN rfl ?_ | refine seqVC_stepG rfl (by with_unfolding_all rfl) ?_ | refine AWP.seq ?_ | refine AWP.seqR (by kernel_rfl) ?_ | refine parVC_stepN rfl ?_ | refine parVC_stepG rfl (by with_unfolding_all rfl) ?_ | refine parEVC_stepN rfl ?_ | refine parEVC_stepG rfl (by with_unfolding_all rfl) ?_ | refine genVC_stepN rfl ?_ | refine genVC_stepG rfl (by with_unfolding_all rfl) ?_); intro K hK) | ((first | refine hK _ _ _ ?_ | refine hK _ _ ?_ | refine hK _ ?_); clear hK K) | refine seqVC_nil ?_ | refine parVC_nil ?_ | refine parEVC_nil ?_ | refine genVC_nil ?_ | refine AWP.block ?_ | (refine AWP.cond (by with_unfolding_all rfl) ?_ ?_ <;> intro h <;> (try simp only [zM, zN] at h) <;> try exact absurd h (by decide)) | refine AWP.skip ?_ | refine AWP.ret ?_ | refine AWP.exit ?_ | (refine ⟨fun h => ?_, fun h => ?_⟩ <;> (try simp only [zM, zN] at h) <;> try simp only [h]) | refine ⟨_, hp, ?_⟩ | refine ⟨by omega, b, hb, ?_⟩ | refine ⟨by omega, by omega, by omega, ?_⟩ | refine AWP.parR mixed (by kernel_rfl) fun K hK => ?_ | refine ⟨(by kernel_rfl : depB _ _ _ = true), ?_⟩ | refine Or.inl ?_) | (clear hK K))
   all_goals (simp only [hok, Int.toNat_natCast])
   all_goals (refine ⟨by first | trivial | rfl, fun x hx => ?_⟩; simp only [List.mem_singleton] at hx; subst hx; simp)
  ·
   rw [toW_yes hb hz] at hok
   repeat' (first | (simp only [go_sem, zA, zB, zC, zD, zE, zF, zG, reduceCtorEq, zH, zI, zJ, zK, zL, pin, hd, hwk]; all_goals fail_if_success guard_target =ₛ False) | (with_reducible first | ((first | refine seqVC_stepN rfl ?_ | refine seqVC_stepG rfl (by with_unfolding_all rfl) ?_ | refine AWP.seq ?_ | refine AWP.seqR (by kernel_rfl) ?_ | refine parVC_stepN rfl ?_ | refine parVC_stepG rfl (by with_unfolding_all rfl) ?_ | refine parEVC_stepN rfl ?_ | refine parEVC_stepG rfl (by with_unfolding_all rfl) ?_ | refine genVC_stepN rfl ?_ | refine genVC_stepG rfl (by with_unfolding_all rfl) ?_); intro K hK) | ((first | refine hK _ _ _ ?_ | refine hK _ _ ?_ | refine hK _ ?_); clear hK K) | refine seqVC_nil ?_ | refine parVC_nil ?_ | refine parEVC_nil ?_ | refine genVC_nil ?_ | refine AWP.block ?_ | (refine AWP.cond (by with_unfolding_all rfl) ?_ ?_ <;> intro h <;> (try simp only [zM, zN] at h) <;> try exact absurd h (by decide)) | refine AWP.skip ?_ | refine AWP.ret ?_ | refine AWP.exit ?_ | (refine ⟨fun h => ?_, fun h => ?_⟩ <;> (try simp only [zM, zN] at h) <;> try simp only [h]) | refine ⟨_, hp, ?_⟩ | refine ⟨by omega, b, hb, ?_⟩ | refine AWP.parR mixed (by kernel_rfl) fun K hK => ?_ | refine ⟨(by kernel_rfl : depB _ _ _ = true), ?_⟩ | refine Or.inl ?_) | (clear hK K))
   all_goals (refine ⟨k + 1, by first | omega | (simp only; omega), ⟨by omega, by omega, hok⟩, Gh.to [] (by repeat (first | exact trivial | refine ⟨rfl, ?_⟩ | refine ⟨by (simp only [go_sem, zA, zB, zC, zD, zE, zF, zG, reduceCtorEq, zH, zI, zJ, zK, zL, List.length_append, List.length_map, List.length_cons, List.length_nil, Nat.zero_add]) <;> rfl, ?_⟩)) (by repeat (first | exact trivial | refine ⟨rfl, ?_⟩ | refine ⟨by (simp only [go_sem, zA, zB, zC, zD, zE, zF, zG, reduceCtorEq, zH, zI, zJ, zK, zL, List.length_append, List.length_map, List.length_cons, List.length_nil, Nat.zero_add]) <;> rfl, ?_⟩)) rfl rfl rfl⟩)
 ·have hd : decide ((k : Int) < (s.length : Int)) = false := by rw [decide_eq_false_iff_not]; omega
  rw [toW_end (s := s) (k := k) (by omega)] at hok
  repeat' (first | (simp only [go_sem, zA, zB, zC, zD, zE, zF, zG, reduceCtorEq, zH, zI, zJ, zK, zL, pin, hd]; all_goals fail_if_success guard_target =ₛ False) | (with_reducible first | ((first | refine seqVC_stepN rfl ?_ | refine seqVC_stepG rfl (by with_unfolding_all rfl) ?_ | refine AWP.seq ?_ | refine AWP.seqR (by kernel_rfl) ?_ | refine parVC_stepN rfl ?_ | refine parVC_stepG rfl (by with_unfolding_all rfl) ?_ | refine parEVC_stepN rfl ?_ | refine parEVC_stepG rfl (by with_unfolding_all rfl) ?_ | refine genVC_stepN rfl ?_ | refine genVC_stepG rfl (by with_unfolding_all rfl) ?_); intro K hK) | ((first | refine hK _ _ _ ?_ | refine hK _ _ ?_ | refine hK _ ?_); clear hK K) | refine seqVC_nil ?_ | refine parVC_nil ?_ | refine parEVC_nil ?_ | refine genVC_nil ?_ | refine AWP.block ?_ | (refine AWP.cond (by with_unfolding_all rfl) ?_ ?_ <;> intro h <;> (try simp only [zM, zN] at h) <;> try exact absurd h (by decide)) | refine AWP.skip ?_ | refine AWP.ret ?_ | refine AWP.exit ?_ | (refine ⟨fun h => ?_, fun h => ?_⟩ <;> (try simp only [zM, zN] at h) <;> try simp only [h]) | refine ⟨by omega, by omega, by omega, ?_⟩ | refine AWP.parR mixed (by kernel_rfl) fun K hK => ?_ | refine ⟨(by kernel_rfl : depB _ _ _ = true), ?_⟩ | refine Or.inl ?_) | (clear hK K))
  all_goals (simp only [hok, Int.toNat_natCast])
  all_goals (refine ⟨by first | trivial | rfl, fun x hx => ?_⟩; simp only [List.mem_singleton] at hx; subst hx; simp)
/-- the reserved words -/
def resW : List (List UInt8) := [[109, 111, 100, 117, 108, 101], [105, 109, 112, 111, 114, 116], [101, 120, 112, 111, 114, 116], [115, 105, 103], [119, 104, 101, 110], [99, 97, 115, 101], [111, 102], [101, 110, 100], [116, 114, 121], [99, 97, 116, 99, 104], [114, 97, 105, 115, 101], [97, 115, 115, 101, 114, 116], [115, 112, 97, 119, 110], [115, 101, 108, 102], [115, 101, 110, 100], [114, 101, 99, 101, 105, 118, 101], [97, 102, 116, 101, 114], [108, 101, 116], [105, 110], [102, 117, 110], [97, 112, 112, 108, 121], [112, 117, 116], [103, 101, 116], [97, 110, 100], [111, 114], [110, 111, 116], [100, 105, 118], [114, 101, 109]]
@[go_sem] theorem mp57 : mpT Tryd.prog 57 = some ([.bool false], false) := by kernel_rfl
theorem assoc_putA (k s : List UInt8) (r : List C) : ∀ es, assoc s (putA k r es) = bif decide (k = s) then some r else assoc s es
 | [] => by simp only [putA, assoc]
 | p :: es => by
  have ih := assoc_putA k s r es
  rw [putA]
  by_cases h : p.1 = k
  ·rw [decide_eq_true h, cond_true]
   simp only [assoc, h]
   cases decide (k = s) <;> rfl
  ·rw [decide_eq_false h, cond_false, assoc, ih, assoc]
   by_cases h2 : k = s
   ·rw [decide_eq_true h2, cond_true, cond_true]
    rw [decide_eq_false (by rintro rfl; exact h h2.symm), cond_false]
   ·rw [decide_eq_false h2, cond_false, cond_false]
def mapW : List (List UInt8) → List (List UInt8 × List C) → List (List UInt8 × List C)
 | [], es => es
 | k :: l, es => mapW l (putA k [.bool true] es)
theorem assoc_mapW (s : List UInt8) : ∀ l es, assoc s (mapW l es) = bif l.any (fun x => decide (x = s)) then some [.bool true] else assoc s es
 | [], es => rfl
 | k :: l, es => by
  rw [mapW, assoc_mapW s l, assoc_putA, List.any_cons]
  cases l.any _ <;> cases decide (k = s) <;> rfl
theorem reserved_c (s : List UInt8) : PC Tryd.prog 17 [S s] (Bo (resW.any fun x => decide (x = s))) := by
 have hm := assoc_mapW s resW []
 generalize (resW.any fun x => decide (x = s)) = c at hm ⊢
 simp only [resW, mapW] at hm
 refine PCB.of_body Tryd.func17 rfl (by decide) Tryd.ntmps17 Tryd.results17 rfl rfl rfl ?_ rfl rfl
 repeat' (first | (simp only [go_sem, zA, zB, zC, zD, zE, zF, zG, reduceCtorEq, zH, zI, zJ, zK, zL, hm, assoc]; all_goals fail_if_success guard_target =ₛ False) | (with_reducible first | ((first | refine seqVC_stepN rfl ?_ | refine AWP.seq ?_ | refine AWP.seqR (by kernel_rfl) ?_); intro K hK) | ((first | refine hK _ _ _ ?_ | refine hK _ _ ?_ | refine hK _ ?_); clear hK K) | refine seqVC_nil ?_ | refine AWP.block ?_ | (refine AWP.cond (by with_unfolding_all rfl) ?_ ?_ <;> intro h <;> (try simp only [zM, zN] at h) <;> try exact absurd h (by decide)) | refine AWP.skip ?_ | refine AWP.ret ?_ | refine AWP.exit ?_ | refine Or.inl ?_) | (clear hK K))
 all_goals (refine fin0 ?_; cases c <;> rfl)
end Go.Proofs.YtogponhonjiidaaDoor

