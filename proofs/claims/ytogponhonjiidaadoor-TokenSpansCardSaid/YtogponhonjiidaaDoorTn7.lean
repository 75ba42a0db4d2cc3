/- A part of the proof: lemmas about the walk of the program and about plain integers and lists. No conditions beyond those that each lemma states. -/
import Derived.Test.YtogponhonjiidaaDoorTn6
import Derived.Test.YtogponhonjiidaaDoorTn5
import Derived.Test.YtogponhonjiidaaDoorTn4
import Derived.Lib.ParseIntB
import Derived.Shelf.Strings.Prefix
import Derived.Shelf.Strings.Cut
import Derived.Shelf.Strconv.ParseIntPublic10
import Derived.Shelf.Strconv.Itoa4
import Derived.Shelf.Small.Strs
import Derived.Test.YtogponhonjiidaaDoorProg
set_option linter.unusedVariables false
set_option linter.unusedSimpArgs false
namespace Go.Sx
variable {P : Program} {n : Nat} {σ : AS} {Q : Exit → AS → Prop}
theorem gen_sound2 {κ : Kap} {M0 : Mem} {l : List Oper} {fx : Nat → Bx} {t : Nat → T} {b : Nat → Bx} {e : Nat → Bool} {jn : Nat → Option Nat} {env0 : Env} {Q' : Exit → Act → World → Prop}
    (hback : Back l) (hpairs : Pairs l) (hord : EffOrdG l e)
    (hs : ∀ i o, l[i]? = some o → OSpecG P n l (fx i) o (envA l t (fun _ => true) env0 i) (b i) (t i) (b (i + 1)) (e i) (jn i)) (hf : ∀ i m, i < l.length → m ≤ l.length → (∀ j, j < m → e j = true → depB l j i = false) → ∀ x ∈ fx i, x ∈ b m)
    (hfr : ∀ g k j, jn g = some j → g < k → k < l.length → (t k).fresh j = true ∨ depB l k g = true)
    (hQ : ∀ a w, St κ M0 n ⟨envA l t (fun _ => true) env0 l.length, b l.length⟩ a w → Q' .normal a w) :
    ∀ (fuel : Nat) (listed : Array Bool) (a : Act) (w : World), cnt l listed = fuel → Mid κ M0 n l t b e env0 listed a w →
      wpAny P .any l.toArray Q' fuel listed a w := by
  have hbc : ∀ i, i < l.length → e i = false → b (i + 1) = b i := by
    intro i hi he
    rcases (hs i l[i] (by simp [hi])).2 with ⟨_, ⟨_, _, _, h⟩ | ⟨h, _⟩ | ⟨_, h, _⟩⟩ | ⟨_, _, h, _⟩
    · exact h
    · rw [he] at h; cases h
    · rw [he] at h; cases h
    · exact h
  have done : ∀ (listed : Array Bool) (a : Act) (w : World), Mid κ M0 n l t b e env0 listed a w → (∀ i, i < l.length → listed.getD i false = true) → Q' .normal a w := by
    intro listed a w hm hall
    obtain ⟨M, ν, m, h1, h2, h3, h4, h5, h6, h7, h8⟩ := hm.st
    refine hQ a w ⟨M, ν, h1, h2, h3, ?_, ?_⟩
    · intro d u hu
      refine h4 d u ?_
      rw [envA_same l t (xs listed) (fun _ => true) env0 d l.length (fun j o hj _ _ => hall j hj)]
      exact hu
    · have : b l.length = b m := const_b hbc m l.length h5 (Nat.le_refl _) (fun j hj1 hj2 => by
        cases hj : e j with
        | false => rfl
        | true => have := (h6 j hj2 hj).1 (hall j hj2); omega)
      simp only [this]
      exact ⟨h7, h8⟩
  have hord' : ∀ listed : Array Bool, Closed l listed → ∀ i j, i < j → j < l.length → e i = true → e j = true → listed.getD j false = true → listed.getD i false = true := by
    intro listed hc i j hij hj hei hej hx
    exact dep_of (hord i j hij hj hei hej) (List.getElem?_eq_getElem hj) hc (fun e' he' hb' => hc j l[j] (List.getElem?_eq_getElem hj) hx e' he' hb')
  intro fuel
  induction fuel with
  | zero =>
    intro listed a w hfuel hm
    have hall := cnt_zero hfuel
    exact ⟨ready_none hm.size hall, done listed a w hm hall⟩
  | succ fuel ih =>
    intro listed a w hfuel hm
    refine ⟨fun hr => done listed a w hm (ready_least hback hm.size hr), fun i hi => ?_⟩
    obtain ⟨h0, oi, hoi, hall⟩ := mem_ready.1 hi
    have hil : i < l.length := by have := (Array.getElem?_eq_some_iff.1 hoi).1; simpa using this
    have hoi' : l[i]? = some oi := by simpa using hoi
    have hisz : i < listed.size := by rw [hm.size]; exact hil
    have hxi : listed.getD i false = false := by simp [hisz] at h0 ⊢; exact h0
    obtain ⟨M, ν, m, h1, h2, h3, h4, h5, h6, h7, h8⟩ := hm.st
    obtain ⟨hd, hspec⟩ := hs i oi hoi'
    have look : ∀ d, d ∈ oi.looksAt l.toArray → (envA l t (xs listed) env0 l.length).lookup d = (envA l t (fun _ => true) env0 i).lookup d := by
      intro d hdm
      rw [envA_skip l t (xs listed) env0 d i l.length (by omega) ?_, envA_same l t (xs listed) (fun _ => true) env0 d i ?_]
      · intro j o hj ho hod
        rcases hpairs j i o oi hj ho hoi' with ⟨e', he', hb', hon⟩ | hap
        · exact hon ▸ hall e' he' hb'
        · exact absurd hdm ((Oper.apart_spec hap).1 d hod)
      · intro j o hj hjl ho hod
        by_cases hji : i = j
        · subst hji; exact hxi
        · cases hxj : xs listed j with
          | false => rfl
          | true =>
            rcases hpairs i j oi o (by omega) hoi' ho with ⟨e', he', hb', hon⟩ | hap
            · have := hm.closed j o ho hxj e' he' hb'
              rw [hon, hxi] at this; cases this
            · exact absurd hdm ((Oper.apart_spec hap).2.2 d hod)
    have hclosed : Closed l (listed.setIfInBounds i true) := by
      intro j oj hj hx e' he' hb'
      by_cases hji : i = j
      · subst hji
        rw [hoi'] at hj; cases hj
        exact getD_set_true (hall e' he' hb')
      · rw [getD_set_ne false hji] at hx
        exact getD_set_true (hm.closed j oj hj hx e' he' hb')
    have hcount : cnt l (listed.setIfInBounds i true) = fuel := by
      have := cnt_set hm.size hil hxi; omega
    have after : ∀ (M' : Mem) (ν' : Nu) (v : Value) (w' : World) (m' : Nat), M.ext κ M' → EnvOk M ν' a.tmps (envA l t (xs listed) env0 l.length) → (t i).rep M' ν' v → m' ≤ l.length →
        (∀ j, j < l.length → e j = true → ((listed.setIfInBounds i true).getD j false = true ↔ j < m')) → Sat κ M' ν' (b m') w' → (∀ k, pin ≤ k → ν' k = κ.nu k) →
        Mid κ M0 n l t b e env0 (listed.setIfInBounds i true) (a.put oi.dst v) w' := by
      intro M' ν' v w' m' hle h4 hr hm' hem hsat hpin
      refine ⟨by simpa using hm.size, hclosed, M', ν', m', h1.trans hle, by rw [Act.put_size]; exact h2, by rw [Act.put_defers']; exact h3, ?_, hm', hem, hsat, hpin⟩
      have hput := EnvOk.put (df := a.defers) (h4.mono hle.1) (dst := oi.dst) (v := v) (t := t i) (fun d he => by rw [h2]; exact dstOk_spec hd d he) hr
      intro k u hu
      refine hput k u ?_
      rw [putE_lookup]
      by_cases hk : oi.dst = some k
      · rw [if_pos hk]
        have e1 := envA_skip l t (xs (listed.setIfInBounds i true)) env0 k (i + 1) l.length (by omega) (fun j o hj hjl ho hod => by
          cases hxj : xs (listed.setIfInBounds i true) j with
          | false => rfl
          | true =>
            have hne : i ≠ j := by omega
            have hxj' : listed.getD j false = true := by rw [← getD_set_ne false hne]; exact hxj
            rcases hpairs i j oi o (by omega) hoi' ho with ⟨e', he', hb', hon⟩ | hap
            · have := hm.closed j o ho hxj' e' he' hb'
              rw [hon, hxi] at this; cases this
            · exact absurd hod ((Oper.apart_spec hap).2.1 k hk))
        rw [e1] at hu
        have hself : xs (listed.setIfInBounds i true) i = true := by simp [xs, hisz]
        rw [envA, hself] at hu
        simp only [cond_true, putE_lookup, hoi', Option.bind_some, hk, if_true] at hu
        exact hu
      · rw [if_neg hk]
        have e2 := envA_same l t (xs (listed.setIfInBounds i true)) (xs listed) env0 k l.length (fun j o hj ho hod => by
          have hne : i ≠ j := fun h => by subst h; rw [hoi'] at ho; cases ho; exact hk hod
          exact getD_set_ne false hne)
        rw [← e2]; exact hu
    have hon : EnvOn M ν a (envA l t (fun _ => true) env0 i) oi := by
      intro d u hdo hu
      refine h4 d u ?_
      rw [look d (looksAt_op hdo)]; exact hu
    have hgd : ∀ g want d u, oi.guard = some (g, want) → (l[g]?).bind (·.dst) = some d → (envA l t (fun _ => true) env0 i).lookup d = some u → u.rep M ν (a.tmps.getD d undef) := by
      intro g want d u hg hgd hu
      refine h4 d u ?_
      rw [look d (looksAt_guard hg hgd)]; exact hu
    have samem : e i = false → ∀ j, j < l.length → e j = true → ((listed.setIfInBounds i true).getD j false = true ↔ j < m) := by
      intro hei j hj hej
      have hne : i ≠ j := fun h => by subst h; rw [hei] at hej; cases hej
      rw [getD_set_ne false hne]; exact h6 j hj hej
    -- what an operation that turns boxes finds and leaves
    have effm : e i = true → b i = b m ∧ ∀ j, j < l.length → e j = true → ((listed.setIfInBounds i true).getD j false = true ↔ j < i + 1) := by
      intro hei
      have hmi : m ≤ i := by
        rcases Nat.lt_or_ge i m with h | h
        · have := (h6 i hil hei).2 h; rw [hxi] at this; cases this
        · exact h
      have prev : ∀ j, j < i → e j = true → listed.getD j false = true := by
        intro j hj hej
        have hself : (listed.setIfInBounds i true).getD i false = true := by simp [hisz]
        have := hord' _ hclosed j i hj hil hej hei hself
        rwa [getD_set_ne false (by omega)] at this
      refine ⟨const_b hbc m i hmi (by omega) (fun j hj1 hj2 => by
        cases hj : e j with
        | false => rfl
        | true => have := (h6 j (by omega) hj).1 (prev j hj2 hj); omega), fun j hj hej => ?_⟩
      by_cases hji : i = j
      · subst hji; simp [hisz]
      · rw [getD_set_ne false hji]
        constructor
        · intro hx
          rcases Nat.lt_or_ge i j with h | h
          · have := hord' _ hm.closed i j h hj hei hej hx
            rw [hxi] at this; cases this
          · omega
        · intro hx
          exact prev j (by omega) hej
    unfold wpOp
    rw [hoi]
    simp only []
    rcases hspec with ⟨hg, ⟨hei, hjn, hop, hbb⟩ | ⟨hei, hjn, hop⟩ | ⟨k, hei, hjn, hop, hkp, hfk⟩⟩ | ⟨hg, ht, hbb, hei, hjn⟩
    · rw [if_pos (wanted_of hg hgd)]
      left
      refine Oper.wp_mono_Q (Oper.wp_mono ?_ (hop κ M ν a w (b m) (hf i m hil h5 (fun j hj hej => by
        cases hdp : depB l j i with
        | false => rfl
        | true =>
          have hjl : j < l.length := by omega
          have hlj := (h6 j hjl hej).2 hj
          have := dep_of hdp (List.getElem?_eq_getElem hjl) hm.closed (fun e' he' hb' => hm.closed j l[j] (List.getElem?_eq_getElem hjl) hlj e' he' hb')
          rw [hxi] at this; cases this)) hon h7))
      rintro a' w' ⟨v, M', rfl, hle, hr, hsat⟩
      exact ih _ _ _ hcount (after M' ν v w' m hle h4 hr h5 (samem hei) hsat h8)
    · rw [if_pos (wanted_of hg hgd)]
      left
      obtain ⟨hbm, hem⟩ := effm hei
      refine Oper.wp_mono_Q (Oper.wp_mono ?_ (hop κ M ν a w hon (by rw [hbm]; exact h7)))
      rintro a' w' ⟨v, M', rfl, hle, hr, hsat⟩
      exact ih _ _ _ hcount (after M' ν v w' (i + 1) hle h4 hr hil hem hsat h8)
    · rw [if_pos (wanted_of hg hgd)]
      left
      obtain ⟨hbm, hem⟩ := effm hei
      refine Oper.wp_mono_Q (Oper.wp_mono ?_ (hop κ M ν a w hon (by rw [hbm]; exact h7)))
      rintro a' w' ⟨v, M', ν', rfl, hle, hν, hr, hsat⟩
      obtain ⟨hf0, hft⟩ := fresh_envA i hfk
      have hfresh : Env.fresh k (envA l t (xs listed) env0 l.length) = true := by
        refine envA_fresh' hf0 l.length (fun q hq hx hdq => ?_)
        rcases Nat.lt_trichotomy q i with h | h | h
        · exact hft q h hdq
        · subst h; unfold xs at hx; rw [hxi] at hx; cases hx
        · rcases hfr i q k hjn h hq with h' | h'
          · exact h'
          · exfalso
            have := dep_of h' (List.getElem?_eq_getElem hq) hm.closed (fun e' he' hb' => hm.closed q l[q] (List.getElem?_eq_getElem hq) hx e' he' hb')
            rw [hxi] at this; cases this
      exact ih _ _ _ hcount (after M' ν' v w' (i + 1) hle (h4.fresh hfresh hν) hr hil hem hsat (fun q hq => by rw [hν q (by omega)]; exact h8 q hq))
    · rw [unwanted_of hg hgd]
      simp only [Bool.false_eq_true, if_false]
      refine ih _ _ _ hcount (after M ν undef w m (Mem.ext.refl κ M) h4 (by rw [ht]; simp [undefT, T.rep, Cell.rep, C.rep]) h5 (samem hei) h7 h8)
/-- all that is done from j0 on waits for the operation i -/
def earlyB (all : List Oper) (es : List Nat) (j0 i : Nat) : Bool := es.all fun e => Nat.blt e j0 || depB all e i
def fxOf (ear : List Nat) (fixB fixC : Bx) (i : Nat) : Bx := bif memN i ear then fixC else fixB
def genVC2 (P : Program) (all : List Oper) (es ear : List Nat) (fixB : Bx) (j0 : Nat) (fixC : Bx) : Nat → List (Nat × Nat) → List Oper → Env → Bx → (Env → Bx → Prop) → Prop
  | _, _, [], env, B, K => K env B
  | i, gs, o :: os, env, B, K => guardT all env o
      (bif memN i es then effVC P o env B fun t B' => bxSub B' fixB ∧ (bif decide (i < j0) then bxSub B' fixC else True) ∧ FreshOr all i t gs ∧ genVC2 P all es ear fixB j0 fixC (i + 1) (gsNext i o gs) os (putE env o.dst t) B' K
       else pureVC P o env (fxOf ear fixB fixC i) fun t => FreshOr all i t gs ∧ genVC2 P all es ear fixB j0 fixC (i + 1) gs os (putE env o.dst t) B K)
      (genVC2 P all es ear fixB j0 fixC (i + 1) gs os (putE env o.dst undefT) B K)
theorem gen_trace2 (all : List Oper) (es ear : List Nat) (fixB : Bx) (j0 : Nat) (fixC : Bx) (K : Env → Bx → Prop) : ∀ (l : List Oper) (i0 : Nat) (gs : List (Nat × Nat)) (env : Env) (B : Bx), dstsOk n l = true → (∀ x ∈ fixB, x ∈ B) → (i0 ≤ j0 → ∀ x ∈ fixC, x ∈ B) → genVC2 P all es ear fixB j0 fixC i0 gs l env B K →
    ∃ (t : Nat → T) (b : Nat → Bx) (e : Nat → Bool) (jn : Nat → Option Nat), b 0 = B ∧ (∀ i o, l[i]? = some o → OSpecG P n all (fxOf ear fixB fixC (i0 + i)) o (envA l t (fun _ => true) env i) (b i) (t i) (b (i + 1)) (e i) (jn i)) ∧
      (∀ i, i ≤ l.length → ∀ x ∈ fixB, x ∈ b i) ∧ (∀ i, i ≤ l.length → i0 + i ≤ j0 → ∀ x ∈ fixC, x ∈ b i) ∧ (∀ i, e i = true → memN (i0 + i) es = true) ∧ (∀ i, i < l.length → FreshOr all (i0 + i) (t i) gs) ∧
      (∀ g k j, jn g = some j → g < k → k < l.length → (t k).fresh j = true ∨ depB all (i0 + k) (i0 + g) = true) ∧ K (envA l t (fun _ => true) env l.length) (b l.length)
  | [], i0, gs, env, B, _, hB, hC, h => ⟨fun _ => undefT, fun _ => B, fun _ => false, fun _ => none, rfl, fun i o ho => by simp at ho, fun i _ => hB, fun i hi hx => hC (by omega), fun i h => (by cases h), fun i hi => by simp at hi, fun _ _ _ h => (by cases h), h⟩
  | o :: os, i0, gs, env, B, hd, hB, hC, h => by
    simp only [dstsOk, List.all_cons, Bool.and_eq_true] at hd
    obtain ⟨⟨hd1, hd2⟩, hd3⟩ := hd
    have step : ∃ (t0 : T) (B' : Bx) (e0 : Bool) (jz : Option Nat) (gs' : List (Nat × Nat)), OSpecG P n all (fxOf ear fixB fixC i0) o env B t0 B' e0 jz ∧ (∀ x ∈ fixB, x ∈ B') ∧ (i0 + 1 ≤ j0 → ∀ x ∈ fixC, x ∈ B') ∧ (e0 = true → memN i0 es = true) ∧ FreshOr all i0 t0 gs ∧
        (∀ p ∈ gs, p ∈ gs') ∧ (∀ j, jz = some j → (i0, j) ∈ gs') ∧ genVC2 P all es ear fixB j0 fixC (i0 + 1) gs' os (putE env o.dst t0) B' K := by
      rcases guardT_true h with ⟨hg, hx⟩ | ⟨hg, hx⟩
      · cases hm : memN i0 es with
        | true =>
          rw [hm] at hx
          simp only [cond_true] at hx
          have hcx : ∀ {B' : Bx}, (bif decide (i0 < j0) then bxSub B' fixC else True) → i0 + 1 ≤ j0 → bxSub B' fixC := by
            intro B' hc hx
            have : decide (i0 < j0) = true := by simp; omega
            rw [this] at hc; exact hc
          have sub : ∀ p ∈ gs, p ∈ gsNext i0 o gs := fun p hp => by unfold gsNext; cases makes o <;> simp [hp]
          rcases effVC_makes hx with ⟨t, hop, h1, hc, h2, h3⟩ | ⟨t, B', hop, h1, hc, h2, h3⟩ | ⟨hmk, t, B', hop, hfr, h1, hc, h2, h3⟩
          · refine ⟨t, B, true, none, _, ⟨hd1, .inl ⟨hg, .inr (.inl ⟨rfl, rfl, hop.e⟩)⟩⟩, hB, fun hx => hC (by omega), fun _ => rfl, h2, sub, fun j hj => (by cases hj), h3⟩
          · exact ⟨t, B', true, none, _, ⟨hd1, .inl ⟨hg, .inr (.inl ⟨rfl, rfl, hop⟩)⟩⟩, bxSub_spec h1, fun hx => bxSub_spec (hcx hc hx), fun _ => rfl, h2, sub, fun j hj => (by cases hj), h3⟩
          · refine ⟨t, B', true, some (dstN o), _, ⟨hd1, .inl ⟨hg, .inr (.inr ⟨dstN o, rfl, rfl, hop, Nat.le_of_ble_eq_true hd2, hfr⟩)⟩⟩, bxSub_spec h1, fun hx => bxSub_spec (hcx hc hx), fun _ => rfl, h2, sub, fun j hj => ?_, h3⟩
            cases hj
            unfold gsNext; rw [hmk]; simp
        | false =>
          rw [hm] at hx
          simp only [cond_false] at hx
          obtain ⟨t, hop, h2, h3⟩ := pureVC_sound hx
          exact ⟨t, B, false, none, gs, ⟨hd1, .inl ⟨hg, .inl ⟨rfl, rfl, hop, rfl⟩⟩⟩, hB, fun hx => hC (by omega), fun h => (by cases h), h2, fun _ h => h, fun j hj => (by cases hj), h3⟩
      · exact ⟨undefT, B, false, none, gs, ⟨hd1, .inr ⟨hg, rfl, rfl, rfl, rfl⟩⟩, hB, fun hx => hC (by omega), fun h => (by cases h), FreshOr_un gs, fun _ h => h, fun j hj => (by cases hj), hx⟩
    obtain ⟨t0, B', e0, jz, gs', hspec, hfix, hfixC, he0, hfr0, hsub, hj0, hk⟩ := step
    obtain ⟨t, b, e, jn, hb0, hs, hf, hfC, he, hfr, hjj, hK⟩ := gen_trace2 all es ear fixB j0 fixC K os (i0 + 1) gs' _ B' hd3 hfix hfixC hk
    refine ⟨fun i => match i with | 0 => t0 | i + 1 => t i, fun i => match i with | 0 => B | i + 1 => b i, fun i => match i with | 0 => e0 | i + 1 => e i, fun i => match i with | 0 => jz | i + 1 => jn i, rfl, ?_, ?_, ?_, ?_, ?_, ?_, ?_⟩
    · intro i o' ho
      cases i with
      | zero => simp at ho; subst ho; rw [← hb0] at hspec; exact hspec
      | succ i =>
        rw [envA_cons]
        have := hs i o' (by simpa using ho)
        rwa [show i0 + 1 + i = i0 + (i + 1) by omega] at this
    · intro i hi
      cases i with
      | zero => exact hB
      | succ i => exact hf i (by simpa using hi)
    · intro i hi hx
      cases i with
      | zero => exact hC (by omega)
      | succ i => exact hfC i (by simpa using hi) (by omega)
    · intro i hi
      cases i with
      | zero => exact he0 hi
      | succ i => have := he i hi; rwa [show i0 + 1 + i = i0 + (i + 1) by omega] at this
    · intro i hi
      cases i with
      | zero => exact hfr0
      | succ i =>
        have := hfr i (by simpa using hi)
        rw [show i0 + 1 + i = i0 + (i + 1) by omega] at this
        exact gen_trace.FreshOr_sub hsub this
    · intro g k j hg hgk hk'
      cases k with
      | zero => omega
      | succ k =>
        cases g with
        | zero =>
          have := FreshOr_spec (hfr k (by simpa using hk')) (i0, j) (hj0 j hg)
          rwa [show i0 + 1 + k = i0 + (k + 1) by omega] at this
        | succ g =>
          have := hjj g k j hg (by omega) (by simpa using hk')
          rwa [show i0 + 1 + k = i0 + (k + 1) by omega, show i0 + 1 + g = i0 + (g + 1) by omega] at this
    · rw [List.length_cons, envA_cons]; exact hK
/-- THE RULE: es: the operations that turn or make boxes; ks: the names of the boxes that they turn; of these, ks' before j0 -/
theorem AWP.genR2 {id : Nat} {l : List Oper} {env : Env} {B : Bx} (es ks : List Nat) (ear : List Nat) (j0 : Nat) (ks' : List Nat) (hm : P.follows .mixedOrders = true) (hl : (genOk n l es && ear.all fun i => earlyB l es j0 i) = true)
    (h : ∀ K : Env → Bx → Prop, (∀ e b, Q .normal ⟨e, b⟩ → K e b) → genVC2 P l es ear (Bx.outs B ks) j0 (Bx.outs B ks') 0 [] l env B K) : AWP P n (.region id l.toArray true) ⟨env, B⟩ Q := by
  rw [Bool.and_eq_true] at hl
  obtain ⟨hl, hear⟩ := hl
  simp only [genOk, Bool.and_eq_true] at hl
  intro κ M0 a w hs
  obtain ⟨hback, hpairs, _⟩ := lex_pairs hl.1
  obtain ⟨t, b, e, jn, hb0, hsp, hf, hfC, he, _, hjj, hK⟩ := gen_trace2 l es ear (Bx.outs B ks) j0 (Bx.outs B ks') _ l 0 [] env B hl.2.1 (fun x hx => Bx.outs_sub hx) (fun _ x hx => Bx.outs_sub hx) (h (fun e b => Q .normal ⟨e, b⟩) (fun _ _ k => k))
  have hord : EffOrdG l e := fun i k hik hk hei hek => esOk_spec hl.2.2 i (memN_spec (by simpa using he i hei)) k (memN_spec (by simpa using he k hek)) hik
  refine wp_region_any hm ?_
  have hsz : l.toArray.size = l.length := by simp
  rw [hsz]
  have hrep : ∀ j, (Array.replicate l.length false).getD j false = false := fun j => rep_getD _ j
  have hbc : ∀ i, i < l.length → e i = false → b (i + 1) = b i := by
    intro i hi hei
    rcases (hsp i l[i] (by simp [hi])).2 with ⟨_, ⟨_, _, _, h⟩ | ⟨h, _⟩ | ⟨_, h, _⟩⟩ | ⟨_, _, h, _⟩
    · exact h
    · rw [hei] at h; cases h
    · rw [hei] at h; cases h
    · exact h
  refine gen_sound2 (fx := fun i => fxOf ear (Bx.outs B ks) (Bx.outs B ks') i) hback hpairs hord (fun i o ho => by have := hsp i o ho; rwa [Nat.zero_add] at this) ?_ (fun g k j hg hgk hk => by have := hjj g k j hg hgk hk; simpa using this) (fun a w s => ⟨_, s, hK⟩) l.length _ a _ ?_ (mid_start (σ := ⟨env, B⟩) hb0 hs)
  · intro i m hi hm hdep x hx
    unfold fxOf at hx
    cases hE0 : memN i ear with
    | false => rw [hE0] at hx; exact hf m hm x hx
    | true =>
      have hE := List.all_eq_true.1 hear i (memN_spec hE0)
      rw [hE0] at hx
      simp only [cond_true] at hx
      rcases Nat.le_total m j0 with hmj | hmj
      · exact hfC m hm (by omega) x hx
      · have hno : ∀ j, j0 ≤ j → j < m → e j = false := by
          intro j hj1 hj2
          cases hej : e j with
          | false => rfl
          | true =>
            have hmem := memN_spec (he j hej)
            rw [Nat.zero_add] at hmem
            have h1 := List.all_eq_true.1 hE j hmem
            simp only [Bool.or_eq_true] at h1
            rcases h1 with h1 | h1
            · have : j < j0 := by simpa using h1
              omega
            · have := hdep j hj2 hej
              rw [h1] at this; cases this
        have hbb : b m = b j0 := by
          have := const_b hbc j0 m hmj hm (fun j hj1 hj2 => hno j hj1 hj2)
          first | exact this | exact this.symm
        rw [hbb]
        exact hfC j0 (by omega) (by omega) x hx
  · unfold cnt
    have hfil : (List.range l.length).filter (fun i => !(Array.replicate l.length false).getD i false) = List.range l.length := by
      rw [List.filter_eq_self]
      intro x _
      simp only [hrep x, Bool.not_false]
    rw [hfil, List.length_range]
theorem gen2VC_nil {all : List Oper} {es ear : List Nat} {fixB : Bx} {j0 : Nat} {fixC : Bx} {i : Nat} {gs : List (Nat × Nat)} {env : Env} {B : Bx} {K : Env → Bx → Prop} (h : K env B) : genVC2 P all es ear fixB j0 fixC i gs [] env B K := h
def genOpVC2 (P : Program) (all : List Oper) (es ear : List Nat) (fixB : Bx) (j0 : Nat) (fixC : Bx) (i : Nat) (gs : List (Nat × Nat)) (o : Oper) (env : Env) (B : Bx) (K' : List (Nat × Nat) → Env → Bx → Prop) : Prop :=
  bif memN i es then effVC P o env B fun t B' => bxSub B' fixB ∧ (bif decide (i < j0) then bxSub B' fixC else True) ∧ FreshOr all i t gs ∧ K' (gsNext i o gs) (putE env o.dst t) B'
  else pureVC P o env (fxOf ear fixB fixC i) fun t => FreshOr all i t gs ∧ K' gs (putE env o.dst t) B
theorem gen2VC_stepN {all os : List Oper} {es ear : List Nat} {fixB : Bx} {j0 : Nat} {fixC : Bx} {i : Nat} {gs : List (Nat × Nat)} {o : Oper} {env : Env} {B : Bx} {K : Env → Bx → Prop} (hg : o.guard = none)
    (h : ∀ K' : List (Nat × Nat) → Env → Bx → Prop, (∀ gs e b, genVC2 P all es ear fixB j0 fixC (i + 1) gs os e b K → K' gs e b) → genOpVC2 P all es ear fixB j0 fixC i gs o env B K') : genVC2 P all es ear fixB j0 fixC i gs (o :: os) env B K :=
  guardT_none hg (h (fun gs e b => genVC2 P all es ear fixB j0 fixC (i + 1) gs os e b K) fun _ _ _ q => q)
attribute [go_sem] genOpVC2 fxOf
/-- the boxes that are there where the operations of X have run -/
def bxX (mk : Nat → Option (Nat × Res)) (B0 : Bx) (X : Nat → Bool) : Nat → Bx
  | 0 => B0
  | m + 1 => match X m, mk m with
    | true, some p => p :: bxX mk B0 X m
    | _, _ => bxX mk B0 X m
theorem mem_bxX {mk : Nat → Option (Nat × Res)} {B0 : Bx} {X : Nat → Bool} {x : Nat × Res} : ∀ {m : Nat}, x ∈ bxX mk B0 X m ↔ x ∈ B0 ∨ ∃ i, i < m ∧ X i = true ∧ mk i = some x
  | 0 => by simp [bxX]
  | m + 1 => by
    have ih := @mem_bxX mk B0 X x m
    unfold bxX
    constructor
    · intro h
      split at h
      · rename_i p hX hk
        rcases List.mem_cons.1 h with rfl | h
        · exact .inr ⟨m, by omega, hX, hk⟩
        · rcases ih.1 h with h | ⟨i, h1, h2⟩
          · exact .inl h
          · exact .inr ⟨i, by omega, h2⟩
      · rcases ih.1 h with h | ⟨i, h1, h2⟩
        · exact .inl h
        · exact .inr ⟨i, by omega, h2⟩
    · intro h
      have h' : x ∈ bxX mk B0 X m ∨ (X m = true ∧ mk m = some x) := by
        rcases h with h | ⟨i, h1, h2, h3⟩
        · exact .inl (ih.2 (.inl h))
        · by_cases him : i = m
          · subst him; exact .inr ⟨h2, h3⟩
          · exact .inl (ih.2 (.inr ⟨i, by omega, h2, h3⟩))
      split
      · rename_i p hX hk
        rcases h' with h' | ⟨_, h'⟩
        · exact List.mem_cons_of_mem _ h'
        · rw [hk] at h'; cases h'; exact List.mem_cons_self
      · rename_i hno
        rcases h' with h' | ⟨h1, h2⟩
        · exact h'
        · exact absurd h2 (hno x h1)
/-- the names are apart -/
def Apart (mk : Nat → Option (Nat × Res)) (B0 : Bx) : Prop := (∀ i j p q, mk i = some p → mk j = some q → i ≠ j → p.1 ≠ q.1) ∧ ∀ i p, mk i = some p → ∀ x ∈ B0, x.1 ≠ p.1
theorem nodup_bxX {mk : Nat → Option (Nat × Res)} {B0 : Bx} {X : Nat → Bool} (ha : Apart mk B0) (h0 : (B0.map (·.1)).Nodup) : ∀ m, ((bxX mk B0 X m).map (·.1)).Nodup
  | 0 => h0
  | m + 1 => by
    have ih := nodup_bxX (X := X) ha h0 m
    unfold bxX
    split
    · rename_i p hX hk
      simp only [List.map_cons, List.nodup_cons]
      refine ⟨fun hm => ?_, ih⟩
      obtain ⟨x, hx, e⟩ := List.mem_map.1 hm
      rcases mem_bxX.1 hx with h | ⟨i, h1, _, h3⟩
      · exact ha.2 m p hk x h e
      · exact ha.1 i m x p h3 hk (by omega) e
    · exact ih
theorem nodup_B0 {mk : Nat → Option (Nat × Res)} {B0 : Bx} {X : Nat → Bool} : ∀ {m : Nat}, ((bxX mk B0 X m).map (·.1)).Nodup → (B0.map (·.1)).Nodup
  | 0, h => h
  | m + 1, h => by
    unfold bxX at h
    split at h
    · simp only [List.map_cons, List.nodup_cons] at h; exact nodup_B0 h.2
    · exact nodup_B0 h
def OSpecM (P : Program) (n : Nat) (all : List Oper) (B0 : Bx) (o : Oper) (env : Env) (t : T) (j : Option (Nat × Res)) : Prop :=
  dstOk n o = true ∧
  ((guardT all env o True False ∧ ((j = none ∧ OpP P o env B0 t) ∨ (∃ k r, j = some (k, r) ∧ k < pin ∧ Env.fresh k env = true ∧ Bx.fresh k B0 = true ∧ ∀ B : Bx, (∀ x ∈ B0, x ∈ B) → Bx.fresh k B = true → OpG P o env B k t ((k, r) :: B)))) ∨
   (guardT all env o False True ∧ t = undefT ∧ j = none))
theorem bx_fresh_of {k : Nat} : ∀ {B : Bx}, (∀ x ∈ B, x.1 ≠ k ∧ ∀ cs, x.2 = .cells cs → Cell.freshs k cs = true) → Bx.fresh k B = true
  | [], _ => rfl
  | (j, r) :: B, h => by
    have h1 := h (j, r) List.mem_cons_self
    simp only [Bx.fresh, Bool.and_eq_true, bne_iff_ne, ne_eq]
    refine ⟨⟨h1.1, ?_⟩, bx_fresh_of fun y hy => h y (List.mem_cons_of_mem _ hy)⟩
    cases r with
    | cells cs => exact h1.2 cs rfl
    | row sz rows => rfl
    | mp ag es => rfl
def Res.plain (r : Res) : Prop := ∀ k cs, r = .cells cs → Cell.freshs k cs = true
theorem Res.plain_row (sz : Nat) (rows : List (List C)) : (Res.row sz rows).plain := fun _ _ e => by cases e
theorem Res.plain_dat (zs : List C) : (Res.cells (zs.map .dat)).plain := by
  intro k cs e
  cases e
  induction zs with
  | nil => rfl
  | cons z zs ih => simp only [List.map_cons, Cell.freshs, Cell.fresh, ih, Bool.and_self]
def RowsOnly (mk : Nat → Option (Nat × Res)) : Prop := ∀ i p, mk i = some p → p.2.plain
theorem Bx.fresh_sub {k : Nat} {B B' : Bx} (h : Bx.fresh k B = true) (hs : ∀ x ∈ B', x ∈ B) : Bx.fresh k B' = true :=
  bx_fresh_of fun x hx => Bx.fresh_spec (j := x.1) (r := x.2) h (hs x hx)
def vAppendM (P : Program) (j : Nat) (t1 t2 : TypeId) (s x : Option T) (K : T → Res → Prop) : Prop :=
  match bsT P t1, byT P t1 with
  | some (_, n), some (by_ + 1) => match srcRows n x with
    | some ys => notInt P t2 = true ∧ (match s with
      | some (.one (.dat (.nil _))) => (2 * ys.length + 192) * (by_ + 1) ≤ 281474976710656 ∧ K (.one (.own j ys.length)) (.row n ys)
      | _ => False)
    | none => False
  | _, _ => False
/-- what is to be shown of an operation that makes a row -/
def mkOp (P : Program) (o : Oper) (env : Env) (K : T → Res → Prop) : Prop :=
  match o.op with
  | .alloc e => (match zeroT P e with
    | some zs => K (.one (.ptr (dstN o) 0)) (.cells (zs.map .dat))
    | none => False)
  | .call { callee := .builtin .append, args := ⟨[s, x]⟩, argTypes := ⟨[t1, t2]⟩ } => vAppendM P (dstN o) t1 t2 (ev P env t1 s) (softO (ev P env t2 x)) K
  | .call { callee := .value f, args := args, argTypes := ts } =>
    match calleeT (ev P env 0 f), evs P env args.toList ts.toList with
    | some (g, caps), some us => ∃ r sz rows, PCN P g (us ++ caps) r (.row sz rows) ∧ K (r.ren fun _ => dstN o) (.row sz rows)
    | _, _ => False
  | _ => False
theorem mkOp_sound {o : Oper} {env : Env} {K : T → Res → Prop} (h : mkOp P o env K) :
    ∃ t r, r.plain ∧ (∀ B : Bx, Env.fresh (dstN o) env = true → Bx.fresh (dstN o) B = true → OpG P o env B (dstN o) t ((dstN o, r) :: B)) ∧ K t r := by
  unfold mkOp at h
  split at h
  · rename_i e ho
    split at h
    · rename_i zs hz
      refine ⟨_, _, Res.plain_dat zs, fun B hfe hfb => ?_, h⟩
      obtain ⟨t, B', hop, _, rfl, rfl⟩ := vAlloc_sound (env := env) (B := B) (K := fun t B' => t = .one (.ptr (dstN o) 0) ∧ B' = (dstN o, .cells (zs.map .dat)) :: B) ho (by
        unfold vAlloc
        rw [hz]
        exact ⟨hfe, hfb, rfl, rfl⟩)
      exact hop
    · exact h.elim
  · rename_i s x t1 t2 ho
    unfold vAppendM at h
    split at h
    · rename_i e n by_ hbs hbyt
      split at h
      · rename_i ys hys
        obtain ⟨hni, h⟩ := h
        split at h
        · rename_i sz hsv
          refine ⟨_, _, Res.plain_row _ _, fun B hfe hfb => ?_, h.2⟩
          obtain ⟨t, B', hop, _, rfl, rfl⟩ := vAppend_sound (ty1 := t1) (ty2 := t2) (env := env) (B := B) (K := fun t B' => t = .one (.own (dstN o) ys.length) ∧ B' = (dstN o, .row n ys) :: B) ho (by
            unfold vAppend
            rw [hbs, hbyt]
            simp only [hys, hsv]
            refine ⟨hni, hfe, hfb, h.1, ?_⟩
            first | trivial | exact ⟨trivial, rfl⟩ | exact ⟨rfl, rfl⟩ | exact ⟨rfl, trivial⟩)
          exact hop
        · exact h.elim
      · exact h.elim
    · exact h.elim
  · rename_i f args ts ho
    split at h
    · rename_i g caps us hf hu
      obtain ⟨r, sz, rows, hpc, hK⟩ := h
      refine ⟨_, _, Res.plain_row _ _, fun B hfe hfb => ?_, hK⟩
      obtain ⟨t, B', hop, _, rfl, rfl⟩ := vCallN_sound (env := env) (B := B) (args := args.toList) (K := fun t B' => t = (r.ren fun _ => dstN o) ∧ B' = (dstN o, .row sz rows) :: B) (by rw [ho]) hf hu ⟨r, _, hpc, hfe, hfb, rfl, rfl⟩
      exact hop
    · exact h.elim
  · exact h.elim
def genVCM (P : Program) (all : List Oper) (es : List Nat) (B0 : Bx) : Nat → List (Nat × Nat) → List Oper → Env → Bx → (Env → Bx → Prop) → Prop
  | _, _, [], env, B, K => K env B
  | i, gs, o :: os, env, B, K => guardT all env o
      (bif memN i es then mkOp P o env fun t r => Env.fresh (dstN o) env = true ∧ Bx.fresh (dstN o) B = true ∧ FreshOr all i t gs ∧ genVCM P all es B0 (i + 1) ((i, dstN o) :: gs) os (putE env o.dst t) ((dstN o, r) :: B) K
       else pureVC P o env B0 fun t => FreshOr all i t gs ∧ genVCM P all es B0 (i + 1) gs os (putE env o.dst t) B K)
      (genVCM P all es B0 (i + 1) gs os (putE env o.dst undefT) B K)
theorem bxX_cons (mk : Nat → Option (Nat × Res)) (B : Bx) : ∀ m, bxX mk B (fun _ => true) (m + 1) = bxX (fun i => mk (i + 1)) (match mk 0 with | some p => p :: B | none => B) (fun _ => true) m
  | 0 => by
    simp only [bxX]
    cases mk 0 <;> rfl
  | m + 1 => by
    rw [bxX, bxX_cons mk B m]
    all_goals (first | rfl | (conv => rhs; rw [bxX]))
    all_goals (cases mk (m + 1) <;> rfl)
theorem genM_trace (all : List Oper) (es : List Nat) (B0 : Bx) (K : Env → Bx → Prop) : ∀ (l : List Oper) (i0 : Nat) (gs : List (Nat × Nat)) (env : Env) (B : Bx), dstsOk n l = true → (∀ x ∈ B0, x ∈ B) → genVCM P all es B0 i0 gs l env B K →
    ∃ (t : Nat → T) (mk : Nat → Option (Nat × Res)), (∀ i o, l[i]? = some o → OSpecM P n all B0 o (envA l t (fun _ => true) env i) (t i) (mk i)) ∧ (∀ i p, mk i = some p → i < l.length) ∧ RowsOnly mk ∧
      (∀ i p, mk i = some p → Bx.fresh p.1 B = true) ∧ (∀ i j p q, mk i = some p → mk j = some q → i ≠ j → p.1 ≠ q.1) ∧ (∀ i, i < l.length → FreshOr all (i0 + i) (t i) gs) ∧
      (∀ g k p, mk g = some p → g < k → k < l.length → (t k).fresh p.1 = true ∨ depB all (i0 + k) (i0 + g) = true) ∧ K (envA l t (fun _ => true) env l.length) (bxX mk B (fun _ => true) l.length)
  | [], i0, gs, env, B, _, hB, h => ⟨fun _ => undefT, fun _ => none, fun i o ho => by simp at ho, fun _ _ h => (by cases h), fun _ _ h => (by cases h), fun _ _ h => (by cases h), fun _ _ _ _ h => (by cases h), fun i hi => by simp at hi, fun _ _ _ h => (by cases h), h⟩
  | o :: os, i0, gs, env, B, hd, hB, h => by
    simp only [dstsOk, List.all_cons, Bool.and_eq_true] at hd
    obtain ⟨⟨hd1, hd2⟩, hd3⟩ := hd
    have step : ∃ (t0 : T) (B' : Bx) (j0 : Option (Nat × Res)) (gs' : List (Nat × Nat)), OSpecM P n all B0 o env t0 j0 ∧ (∀ x ∈ B, x ∈ B') ∧ B' = (match j0 with | some p => p :: B | none => B) ∧ (∀ p, j0 = some p → p.2.plain ∧ Bx.fresh p.1 B = true ∧ (i0, p.1) ∈ gs') ∧ FreshOr all i0 t0 gs ∧
        (∀ p ∈ gs, p ∈ gs') ∧ genVCM P all es B0 (i0 + 1) gs' os (putE env o.dst t0) B' K := by
      rcases guardT_true h with ⟨hg, hx⟩ | ⟨hg, hx⟩
      · cases hm : memN i0 es with
        | true =>
          rw [hm] at hx
          simp only [cond_true] at hx
          obtain ⟨t, r, hpl, hop, hfe, hfb, h2, h3⟩ := mkOp_sound hx
          refine ⟨t, _, some (dstN o, r), _, ⟨hd1, .inl ⟨hg, .inr ⟨_, _, rfl, Nat.le_of_ble_eq_true hd2, hfe, Bx.fresh_sub hfb hB, fun B' hs hf => hop B' hfe hf⟩⟩⟩, fun x hx => List.mem_cons_of_mem _ hx, rfl, fun p hp => ?_, h2, fun p hp => List.mem_cons_of_mem _ hp, h3⟩
          cases hp
          exact ⟨hpl, hfb, List.mem_cons_self⟩
        | false =>
          rw [hm] at hx
          simp only [cond_false] at hx
          obtain ⟨t, hop, h2, h3⟩ := pureVC_sound hx
          exact ⟨t, B, none, gs, ⟨hd1, .inl ⟨hg, .inl ⟨rfl, hop⟩⟩⟩, fun _ h => h, rfl, fun p hp => (by cases hp), h2, fun _ h => h, h3⟩
      · exact ⟨undefT, B, none, gs, ⟨hd1, .inr ⟨hg, rfl, rfl⟩⟩, fun _ h => h, rfl, fun p hp => (by cases hp), FreshOr_un gs, fun _ h => h, hx⟩
    obtain ⟨t0, B', j0, gs', hspec, hsubB, hBe, hj0, hfr0, hsub, hk⟩ := step
    obtain ⟨t, mk, hs, hlen, hro, hfb, hdis, hfr, hjj, hK⟩ := genM_trace all es B0 K os (i0 + 1) gs' _ B' hd3 (fun x hx => hsubB x (hB x hx)) hk
    have hmk : ∀ i p, (match i with | 0 => j0 | i + 1 => mk i) = some p → (i = 0 ∧ j0 = some p) ∨ ∃ i', i = i' + 1 ∧ mk i' = some p := by
      intro i p h
      cases i with
      | zero => exact .inl ⟨rfl, h⟩
      | succ i => exact .inr ⟨i, rfl, h⟩
    have ne0 : ∀ i p q, j0 = some p → mk i = some q → q.1 ≠ p.1 := by
      intro i p q h1 h2
      have h3 := hfb i q h2
      subst h1
      rw [hBe] at h3
      exact fun e => (Bx.fresh_spec (j := p.1) (r := p.2) h3 List.mem_cons_self).1 e.symm
    refine ⟨fun i => match i with | 0 => t0 | i + 1 => t i, fun i => match i with | 0 => j0 | i + 1 => mk i, ?_, ?_, ?_, ?_, ?_, ?_, ?_, ?_⟩
    · intro i o' ho
      cases i with
      | zero => simp at ho; subst ho; exact hspec
      | succ i =>
        rw [envA_cons]
        exact hs i o' (by simpa using ho)
    · intro i p h
      rcases hmk i p h with ⟨rfl, _⟩ | ⟨i', rfl, h⟩
      · simp
      · have := hlen i' p h; simp; omega
    · intro i p h
      rcases hmk i p h with ⟨rfl, h⟩ | ⟨i', rfl, h⟩
      · exact (hj0 p h).1
      · exact hro i' p h
    · intro i p h
      rcases hmk i p h with ⟨rfl, h⟩ | ⟨i', rfl, h⟩
      · exact (hj0 p h).2.1
      · exact Bx.fresh_sub (hfb i' p h) hsubB
    · intro i j p q h1 h2 hij
      rcases hmk i p h1 with ⟨rfl, h1⟩ | ⟨i', rfl, h1⟩ <;> rcases hmk j q h2 with ⟨rfl, h2⟩ | ⟨j', rfl, h2⟩
      · exact absurd rfl hij
      · exact fun e => ne0 j' p q h1 h2 e.symm
      · exact ne0 i' q p h2 h1
      · exact hdis i' j' p q h1 h2 (by omega)
    · intro i hi
      cases i with
      | zero => exact hfr0
      | succ i =>
        have := hfr i (by simpa using hi)
        rw [show i0 + 1 + i = i0 + (i + 1) by omega] at this
        exact gen_trace.FreshOr_sub hsub this
    · intro g k p hg hgk hk'
      cases k with
      | zero => omega
      | succ k =>
        rcases hmk g p hg with ⟨rfl, hg⟩ | ⟨g', rfl, hg⟩
        · have := FreshOr_spec (hfr k (by simpa using hk')) (i0, p.1) (hj0 p hg).2.2
          rwa [show i0 + 1 + k = i0 + (k + 1) by omega] at this
        · have := hjj g' k p hg (by omega) (by simpa using hk')
          rwa [show i0 + 1 + k = i0 + (k + 1) by omega, show i0 + 1 + g' = i0 + (g' + 1) by omega] at this
    · rw [List.length_cons, envA_cons, bxX_cons]
      rw [hBe] at hK
      exact hK
def genMOk (n : Nat) (l : List Oper) : Bool := Region.lexB .any l.toArray && dstsOk n l
theorem genMVC_nil {all : List Oper} {es : List Nat} {B0 : Bx} {i : Nat} {gs : List (Nat × Nat)} {env : Env} {B : Bx} {K : Env → Bx → Prop} (h : K env B) : genVCM P all es B0 i gs [] env B K := h
def genOpVCM (P : Program) (all : List Oper) (es : List Nat) (B0 : Bx) (i : Nat) (gs : List (Nat × Nat)) (o : Oper) (env : Env) (B : Bx) (K' : List (Nat × Nat) → Env → Bx → Prop) : Prop :=
  bif memN i es then mkOp P o env fun t r => Env.fresh (dstN o) env = true ∧ Bx.fresh (dstN o) B = true ∧ FreshOr all i t gs ∧ K' ((i, dstN o) :: gs) (putE env o.dst t) ((dstN o, r) :: B)
  else pureVC P o env B0 fun t => FreshOr all i t gs ∧ K' gs (putE env o.dst t) B
theorem genMVC_stepN {all os : List Oper} {es : List Nat} {B0 : Bx} {i : Nat} {gs : List (Nat × Nat)} {o : Oper} {env : Env} {B : Bx} {K : Env → Bx → Prop} (hg : o.guard = none)
    (h : ∀ K' : List (Nat × Nat) → Env → Bx → Prop, (∀ gs e b, genVCM P all es B0 (i + 1) gs os e b K → K' gs e b) → genOpVCM P all es B0 i gs o env B K') : genVCM P all es B0 i gs (o :: os) env B K :=
  guardT_none hg (h (fun gs e b => genVCM P all es B0 (i + 1) gs os e b K) fun _ _ _ q => q)
attribute [go_sem] genOpVCM mkOp vAppendM
def lastVC (P : Program) : List Oper → Env → Bx → (Env → Bx → Prop) → Prop
  | [o], env, B, K => (match o.op with
    | .store t x y => vStore P t (ev P env 0 x) (ev P env t y) B (fun B' => K (putE env o.dst undefT) B')
    | _ => False)
  | _, _, _, _ => False
def genMSOk (n : Nat) (l : List Oper) (m : Nat) : Bool := genMOk n l && (l.length == m + 1 && ((List.range m).all (fun i => depB l m i) && (match l[m]? with | some o => o.guard.isNone | none => false)))
attribute [go_sem] lastVC
end Go.Sx

namespace Go.Sx
theorem Gh.fz {n : Nat} {env : Env} {B : Bx} (k : Nat) {sz : Nat} {rows : List (List C)} (hb : B.lookup k = some (.row sz rows) := by rfl) (hlow : lowN k = true := by rfl)
    (hE : Env.frOk k rows.length env := by simp only [go_sem, zA, zB, zC, zD, zE, zF, zG, reduceCtorEq, zH, zI, zJ, zK, zL, List.length_map]) (hB : Bx.frOk k rows.length B := by simp only [go_sem, zA, zB, zC, zD, zE, zF, zG, reduceCtorEq, zH, zI, zJ, zK, zL, List.length_map]) :
    Gh n ⟨env, B⟩ ⟨frE k sz rows env, frB k sz rows (Bx.drop k B)⟩ := Gh.freeze k hb hlow hE hB
end Go.Sx
set_option linter.unusedVariables false
namespace Go.Proofs.YtogponhonjiidaaDoor
open Go Go.Sx
open Nat renaming reduceBEq → zA, reduceBNe → zB, reduceAdd → zC, reduceSub → zD, reduceMul → zE, reduceLeDiff → zF, reduceLT → zG, reduceEqDiff → zH
open Int renaming reduceToNat → zI, reduceLE → zJ, reduceLT → zK, reduceEq → zL
open Bool renaming not_eq_true' → zM, not_eq_false' → zN
structure Tok where
  kind : Int
  text : List UInt8
  num : Int
  at_ : Int
  deriving DecidableEq
def encTok (t : Tok) : List C := [.int .i64 t.kind, .str t.text, .int .i64 t.num, .int .i64 t.at_]
def zeroTok : Tok := ⟨0, [], 0, 0⟩
def lowI (n : Int) : Bool := decide (97 ≤ n) && decide (n ≤ 122)
def uppI (n : Int) : Bool := decide (65 ≤ n) && decide (n ≤ 90)
def digI (n : Int) : Bool := decide (48 ≤ n) && decide (n ≤ 57)
/-- bytes of names, of variables -/
def nameI (n : Int) : Bool := lowI n || (digI n || decide (n = 95))
def varI (n : Int) : Bool := lowI n || (uppI n || (digI n || decide (n = 95)))
/-- how many bytes at the head meet p -/
def cntW (p : Int → Bool) : List UInt8 → Nat
  | [] => 0
  | b :: l => bif p b.toNat then 1 + cntW p l else 0
theorem cntW_le (p : Int → Bool) : ∀ l, cntW p l ≤ l.length
  | [] => Nat.le_refl _
  | b :: l => by
    have := cntW_le p l
    rw [cntW, List.length_cons]
    cases p b.toNat <;> simp only [cond_true, cond_false] <;> omega
theorem cntW_at {p : Int → Bool} {s : List UInt8} {k : Nat} {b : UInt8} (h : s[k]? = some b) : cntW p (s.drop k) = bif p b.toNat then 1 + cntW p (s.drop (k + 1)) else 0 := by
  obtain ⟨hk, rfl⟩ := List.getElem?_eq_some_iff.1 h
  rw [List.drop_eq_getElem_cons hk, cntW]
theorem cntW_end {p : Int → Bool} {s : List UInt8} {k : Nat} (h : s.length ≤ k) : cntW p (s.drop k) = 0 := by rw [List.drop_eq_nil_of_le h]; rfl
/-- the place behind the bytes from k on that meet p -/
def toW (p : Int → Bool) (s : List UInt8) (k : Nat) : Nat := k + cntW p (s.drop k)
theorem toW_le {p : Int → Bool} {s : List UInt8} {k : Nat} (h : k ≤ s.length) : toW p s k ≤ s.length := by
  have := cntW_le p (s.drop k); rw [List.length_drop] at this; unfold toW; omega
theorem toW_ge {p : Int → Bool} {s : List UInt8} {k : Nat} : k ≤ toW p s k := Nat.le_add_right _ _
theorem toW_yes {p : Int → Bool} {s : List UInt8} {k : Nat} {b : UInt8} (h : s[k]? = some b) (hp : p b.toNat = true) : toW p s k = toW p s (k + 1) := by unfold toW; rw [cntW_at h, hp, cond_true]; omega
theorem toW_no {p : Int → Bool} {s : List UInt8} {k : Nat} {b : UInt8} (h : s[k]? = some b) (hp : p b.toNat = false) : toW p s k = k := by unfold toW; rw [cntW_at h, hp]; rfl
theorem toW_end {p : Int → Bool} {s : List UInt8} {k : Nat} (h : s.length ≤ k) : toW p s k = k := by unfold toW; rw [cntW_end h]; rfl
def sepI (n : Int) : Bool := decide (n = 9) || (decide (n = 10) || (decide (n = 13) || decide (n = 32)))
def noLf (n : Int) : Bool := !decide (n = 10)
/-- how many bytes of separators stand at the head -/
def skipL : List UInt8 → Nat
  | [] => 0
  | b :: l => bif sepI b.toNat then 1 + skipL l else bif decide ((b.toNat : Int) = 37) then 1 + cntW noLf l + skipL (l.drop (cntW noLf l)) else 0
termination_by l => l.length
decreasing_by
  · simp
  · simp; omega
def skipTo (s : List UInt8) (k : Nat) : Nat := k + skipL (s.drop k)
theorem skipL_le : ∀ l : List UInt8, skipL l ≤ l.length
  | [] => by simp [skipL]
  | b :: l => by
    have h1 := skipL_le l
    have h2 := cntW_le noLf l
    have h3 := skipL_le (l.drop (cntW noLf l))
    rw [List.length_drop] at h3
    rw [skipL, List.length_cons]
    cases sepI b.toNat <;> cases decide ((b.toNat : Int) = 37) <;> simp only [cond_true, cond_false] <;> omega
termination_by l => l.length
decreasing_by
  · simp
  · simp; omega
theorem skipTo_le {s : List UInt8} {k : Nat} (h : k ≤ s.length) : skipTo s k ≤ s.length := by
  have := skipL_le (s.drop k); rw [List.length_drop] at this; unfold skipTo; omega
theorem skipTo_ge {s : List UInt8} {k : Nat} : k ≤ skipTo s k := Nat.le_add_right _ _
theorem skipTo_end {s : List UInt8} {k : Nat} (h : s.length ≤ k) : skipTo s k = k := by unfold skipTo; rw [List.drop_eq_nil_of_le h, skipL]; rfl
theorem skipTo_sep {s : List UInt8} {k : Nat} {b : UInt8} (h : s[k]? = some b) (hs : sepI b.toNat = true) : skipTo s k = skipTo s (k + 1) := by
  obtain ⟨hk, rfl⟩ := List.getElem?_eq_some_iff.1 h
  unfold skipTo
  rw [List.drop_eq_getElem_cons hk, skipL, hs, cond_true]; omega
theorem skipTo_com {s : List UInt8} {k : Nat} {b : UInt8} (h : s[k]? = some b) (hs : sepI b.toNat = false) (hc : decide ((b.toNat : Int) = 37) = true) : skipTo s k = skipTo s (toW noLf s (k + 1)) := by
  obtain ⟨hk, rfl⟩ := List.getElem?_eq_some_iff.1 h
  unfold skipTo toW
  rw [List.drop_eq_getElem_cons hk, skipL, hs, hc, cond_false, cond_true, List.drop_drop, Nat.add_assoc k 1]
  omega
theorem skipTo_no {s : List UInt8} {k : Nat} {b : UInt8} (h : s[k]? = some b) (hs : sepI b.toNat = false) (hc : decide ((b.toNat : Int) = 37) = false) : skipTo s k = k := by
  obtain ⟨hk, rfl⟩ := List.getElem?_eq_some_iff.1 h
  unfold skipTo
  rw [List.drop_eq_getElem_cons hk, skipL, hs, hc]; rfl
end Go.Proofs.YtogponhonjiidaaDoor
set_option linter.unusedSimpArgs false
set_option linter.unusedVariables false
set_option maxRecDepth 20000
set_option maxHeartbeats 16000000
namespace Go.Proofs.YtogponhonjiidaaDoor
open Go Go.Sx
open Nat renaming reduceBEq → zA, reduceBNe → zB, reduceAdd → zC, reduceSub → zD, reduceMul → zE, reduceLeDiff → zF, reduceLT → zG, reduceEqDiff → zH
open Int renaming reduceToNat → zI, reduceLE → zJ, reduceLT → zK, reduceEq → zL
open Bool renaming not_eq_true' → zM, not_eq_false' → zN
theorem wordslower_c (n : Int) : PC Tryd.prog 57 [I .u8 n] (Bo (lowI n)) := by
  refine PCB.of_body Tryd.func57 rfl (by decide) Tryd.ntmps57 Tryd.results57 rfl rfl rfl ?_ rfl rfl
  repeat' (first | (simp only [go_sem, zA, zB, zC, zD, zE, zF, zG, reduceCtorEq, zH, zI, zJ, zK, zL]; all_goals fail_if_success guard_target =ₛ False) | (with_reducible first | ((first | refine seqVC_stepN rfl ?_ | refine seqVC_stepG rfl (by with_unfolding_all rfl) ?_ | refine AWP.seq ?_ | refine AWP.seqR (by kernel_rfl) ?_); intro K hK) | ((first | refine hK _ _ _ ?_ | refine hK _ _ ?_ | refine hK _ ?_); clear hK K) | refine seqVC_nil ?_ | refine AWP.block ?_ | (refine AWP.cond (by with_unfolding_all rfl) ?_ ?_ <;> intro h <;> (try simp only [zM, zN] at h) <;> try exact absurd h (by decide)) | refine AWP.skip ?_ | refine AWP.ret ?_ | refine AWP.exit ?_ | (refine ⟨fun h => ?_, fun h => ?_⟩ <;> (try simp only [zM, zN] at h) <;> try simp only [h]) | refine Or.inl ?_) | (clear hK K))
  all_goals (first | exact fun _ h => absurd h List.not_mem_nil | (refine fin0 ?_; first | rfl | (simp only [lowI, Bool.true_and, Bool.false_and, Bool.and_false, Bool.and_true, *, zb, cond_true, cond_false, decide_true, decide_false] <;> rfl)))
theorem wordsupper_c (n : Int) : PC Tryd.prog 62 [I .u8 n] (Bo (uppI n)) := by
  refine PCB.of_body Tryd.func62 rfl (by decide) Tryd.ntmps62 Tryd.results62 rfl rfl rfl ?_ rfl rfl
  repeat' (first | (simp only [go_sem, zA, zB, zC, zD, zE, zF, zG, reduceCtorEq, zH, zI, zJ, zK, zL]; all_goals fail_if_success guard_target =ₛ False) | (with_reducible first | ((first | refine seqVC_stepN rfl ?_ | refine seqVC_stepG rfl (by with_unfolding_all rfl) ?_ | refine AWP.seq ?_ | refine AWP.seqR (by kernel_rfl) ?_); intro K hK) | ((first | refine hK _ _ _ ?_ | refine hK _ _ ?_ | refine hK _ ?_); clear hK K) | refine seqVC_nil ?_ | refine AWP.block ?_ | (refine AWP.cond (by with_unfolding_all rfl) ?_ ?_ <;> intro h <;> (try simp only [zM, zN] at h) <;> try exact absurd h (by decide)) | refine AWP.skip ?_ | refine AWP.ret ?_ | refine AWP.exit ?_ | (refine ⟨fun h => ?_, fun h => ?_⟩ <;> (try simp only [zM, zN] at h) <;> try simp only [h]) | refine Or.inl ?_) | (clear hK K))
  all_goals (first | exact fun _ h => absurd h List.not_mem_nil | (refine fin0 ?_; first | rfl | (simp only [uppI, Bool.true_and, Bool.false_and, Bool.and_false, Bool.and_true, *, zb, cond_true, cond_false, decide_true, decide_false] <;> rfl)))
theorem wordsdigit_c (n : Int) : PC Tryd.prog 61 [I .u8 n] (Bo (digI n)) := by
  refine PCB.of_body Tryd.func61 rfl (by decide) Tryd.ntmps61 Tryd.results61 rfl rfl rfl ?_ rfl rfl
  repeat' (first | (simp only [go_sem, zA, zB, zC, zD, zE, zF, zG, reduceCtorEq, zH, zI, zJ, zK, zL]; all_goals fail_if_success guard_target =ₛ False) | (with_reducible first | ((first | refine seqVC_stepN rfl ?_ | refine seqVC_stepG rfl (by with_unfolding_all rfl) ?_ | refine AWP.seq ?_ | refine AWP.seqR (by kernel_rfl) ?_); intro K hK) | ((first | refine hK _ _ _ ?_ | refine hK _ _ ?_ | refine hK _ ?_); clear hK K) | refine seqVC_nil ?_ | refine AWP.block ?_ | (refine AWP.cond (by with_unfolding_all rfl) ?_ ?_ <;> intro h <;> (try simp only [zM, zN] at h) <;> try exact absurd h (by decide)) | refine AWP.skip ?_ | refine AWP.ret ?_ | refine AWP.exit ?_ | (refine ⟨fun h => ?_, fun h => ?_⟩ <;> (try simp only [zM, zN] at h) <;> try simp only [h]) | refine Or.inl ?_) | (clear hK K))
  all_goals (first | exact fun _ h => absurd h List.not_mem_nil | (refine fin0 ?_; first | rfl | (simp only [digI, Bool.true_and, Bool.false_and, Bool.and_false, Bool.and_true, *, zb, cond_true, cond_false, decide_true, decide_false] <;> rfl)))
theorem wName_c (n : Int) : PC Tryd.prog 60 [I .u8 n] (Bo (nameI n)) := by
  have h1 := wordslower_c n
  have h2 := wordsdigit_c n
  generalize h3 : lowI n = a at h1
  generalize h4 : digI n = b at h2
  refine PCB.of_body Tryd.func60 rfl (by decide) Tryd.ntmps60 Tryd.results60 rfl rfl rfl ?_ rfl rfl
  repeat' (first | (simp only [go_sem, zA, zB, zC, zD, zE, zF, zG, reduceCtorEq, zH, zI, zJ, zK, zL]; all_goals fail_if_success guard_target =ₛ False) | (with_reducible first | ((first | refine seqVC_stepN rfl ?_ | refine seqVC_stepG rfl (by with_unfolding_all rfl) ?_ | refine AWP.seq ?_ | refine AWP.seqR (by kernel_rfl) ?_); intro K hK) | ((first | refine hK _ _ _ ?_ | refine hK _ _ ?_ | refine hK _ ?_); clear hK K) | refine seqVC_nil ?_ | refine AWP.block ?_ | (refine AWP.cond (by with_unfolding_all rfl) ?_ ?_ <;> intro h <;> (try simp only [zM, zN] at h) <;> try exact absurd h (by decide)) | refine AWP.skip ?_ | refine AWP.ret ?_ | refine AWP.exit ?_ | (refine ⟨fun h => ?_, fun h => ?_⟩ <;> (try simp only [zM, zN] at h) <;> try simp only [h]) | refine ⟨_, h1, ?_⟩ | refine ⟨_, h2, ?_⟩ | refine Or.inl ?_) | (clear hK K))
  all_goals (first | exact fun _ h => absurd h List.not_mem_nil | (refine fin0 ?_; first | rfl | (simp only [nameI, h3, h4, Bool.true_or, Bool.false_or, Bool.or_false, *, zb, cond_true, cond_false, decide_true, decide_false] <;> rfl)))
theorem wVar_c (n : Int) : PC Tryd.prog 63 [I .u8 n] (Bo (varI n)) := by
  have h1 := wordslower_c n
  have h2 := wordsdigit_c n
  have h0 := wordsupper_c n
  generalize h3 : lowI n = a at h1
  generalize h4 : digI n = b at h2
  generalize h5 : uppI n = c at h0
  refine PCB.of_body Tryd.func63 rfl (by decide) Tryd.ntmps63 Tryd.results63 rfl rfl rfl ?_ rfl rfl
  repeat' (first | (simp only [go_sem, zA, zB, zC, zD, zE, zF, zG, reduceCtorEq, zH, zI, zJ, zK, zL]; all_goals fail_if_success guard_target =ₛ False) | (with_reducible first | ((first | refine seqVC_stepN rfl ?_ | refine seqVC_stepG rfl (by with_unfolding_all rfl) ?_ | refine AWP.seq ?_ | refine AWP.seqR (by kernel_rfl) ?_); intro K hK) | ((first | refine hK _ _ _ ?_ | refine hK _ _ ?_ | refine hK _ ?_); clear hK K) | refine seqVC_nil ?_ | refine AWP.block ?_ | (refine AWP.cond (by with_unfolding_all rfl) ?_ ?_ <;> intro h <;> (try simp only [zM, zN] at h) <;> try exact absurd h (by decide)) | refine AWP.skip ?_ | refine AWP.ret ?_ | refine AWP.exit ?_ | (refine ⟨fun h => ?_, fun h => ?_⟩ <;> (try simp only [zM, zN] at h) <;> try simp only [h]) | refine ⟨_, h1, ?_⟩ | refine ⟨_, h2, ?_⟩ | refine ⟨_, h0, ?_⟩ | refine Or.inl ?_) | (clear hK K))
  all_goals (first | exact fun _ h => absurd h List.not_mem_nil | (refine fin0 ?_; first | rfl | (simp only [varI, h3, h4, h5, Bool.true_or, Bool.false_or, Bool.or_false, *, zb, cond_true, cond_false, decide_true, decide_false] <;> rfl)))
/-- the scanner's box -/
abbrev scB (s : List UInt8) (k : Nat) : Res := .cells [.dat (.str s), .dat (.int .i64 k)]
abbrev Scp (k : Nat) : T := .one (.ptr k 0)
/-- run: from the place i on, at least one byte -/
theorem run_c (F : FuncId) (p : Int → Bool) (hF : ∀ n : Int, PC Tryd.prog F [I .u8 n] (Bo (p n))) (s : List UInt8) (hs : s.length ≤ 1000000000000) (i : Nat) (hi : i < s.length) :
    PCB Tryd.prog 59 [Scp pin, .one (.dat (.fn F))] [(pin, scB s i)] (S ((s.take (toW p s (i + 1))).drop i)) [(pin, scB s (toW p s (i + 1)))] := by
  have hw : IntKind.i64.wrap ((i : Int) + 1) = ((i + 1 : Nat) : Int) := by rw [w64 (by omega)]; rfl
  refine PCB.of_body Tryd.func59 rfl (by decide) Tryd.ntmps59 Tryd.results59 rfl rfl rfl ?_ rfl rfl
  repeat' (first | (simp only [go_sem, zA, zB, zC, zD, zE, zF, zG, reduceCtorEq, zH, zI, zJ, zK, zL, pin, hw]; all_goals fail_if_success guard_target =ₛ False) | (with_reducible first | ((first | refine seqVC_stepN rfl ?_ | refine seqVC_stepG rfl (by with_unfolding_all rfl) ?_ | refine AWP.seq ?_ | refine AWP.seqR (by kernel_rfl) ?_ | refine parVC_stepN rfl ?_ | refine parVC_stepG rfl (by with_unfolding_all rfl) ?_ | refine parEVC_stepN rfl ?_ | refine parEVC_stepG rfl (by with_unfolding_all rfl) ?_ | refine genVC_stepN rfl ?_ | refine genVC_stepG rfl (by with_unfolding_all rfl) ?_); intro K hK) | ((first | refine hK _ _ _ ?_ | refine hK _ _ ?_ | refine hK _ ?_); clear hK K) | refine seqVC_nil ?_ | refine parVC_nil ?_ | refine parEVC_nil ?_ | refine genVC_nil ?_ | refine AWP.block ?_ | (refine AWP.cond (by with_unfolding_all rfl) ?_ ?_ <;> intro h <;> (try simp only [zM, zN] at h) <;> try exact absurd h (by decide)) | refine AWP.skip ?_ | refine AWP.ret ?_ | refine AWP.exit ?_ | (refine ⟨fun h => ?_, fun h => ?_⟩ <;> (try simp only [zM, zN] at h) <;> try simp only [h]) | refine AWP.parR mixed (by kernel_rfl) fun K hK => ?_ | refine ⟨(by kernel_rfl : depB _ _ _ = true), ?_⟩ | refine Or.inl ?_) | (clear hK K))
  refine AWP.loopF (X := Nat) (fun k => [(0, Scp 1000000)]) (fun k => [(1000000, scB s k)]) [1, 5] [] (fun k => i + 1 ≤ k ∧ k ≤ s.length ∧ toW p s (i + 1) = toW p s k) (fun k => s.length - k) (i + 1) (by simp only [go_sem, zA, zB, zC, zD, zE, zF, zG, reduceCtorEq, zH, zI, zJ, zK, zL]; exact Gh.to [] (by repeat (first | exact trivial | refine ⟨rfl, ?_⟩ | refine ⟨by (simp only [go_sem, zA, zB, zC, zD, zE, zF, zG, reduceCtorEq, zH, zI, zJ, zK, zL, List.length_append, List.length_map, List.length_cons, List.length_nil, Nat.zero_add]) <;> rfl, ?_⟩)) (by repeat (first | exact trivial | refine ⟨rfl, ?_⟩ | refine ⟨by (simp only [go_sem, zA, zB, zC, zD, zE, zF, zG, reduceCtorEq, zH, zI, zJ, zK, zL, List.length_append, List.length_map, List.length_cons, List.length_nil, Nat.zero_add]) <;> rfl, ?_⟩)) rfl rfl rfl) ?_ ?_
  · exact ⟨Nat.le_refl _, hi, rfl⟩
  rintro k ⟨hk, hkl, hok⟩
  simp only [go_sem, zA, zB, zC, zD, zE, zF, zG, reduceCtorEq, zH, zI, zJ, zK, zL]
  by_cases hlt : k < s.length
  · obtain ⟨b, hb⟩ : ∃ b, s[k]? = some b := ⟨s[k], List.getElem?_eq_getElem hlt⟩
    have hd : decide ((k : Int) < (s.length : Int)) = true := by rw [decide_eq_true_eq]; omega
    have hwk : IntKind.i64.wrap ((k : Int) + 1) = ((k + 1 : Nat) : Int) := by rw [w64 (by omega)]; rfl
    have hp := hF b.toNat
    cases hz : p b.toNat <;> rw [hz] at hp
    ·
      rw [toW_no hb hz] at hok
      repeat' (first | (simp only [go_sem, zA, zB, zC, zD, zE, zF, zG, reduceCtorEq, zH, zI, zJ, zK, zL, pin, hd, hwk]; all_goals fail_if_success guard_target =ₛ False) | (with_reducible first | ((first | refine seqVC_stepN rfl ?_ | refine seqVC_stepG rfl (by with_unfolding_all rfl) ?_ | refine AWP.seq ?_ | refine AWP.seqR (by kernel_rfl) ?_ | refine parVC_stepN rfl ?_ | refine parVC_stepG rfl (by with_unfolding_all rfl) ?_ | refine parEVC_stepN rfl ?_ | refine parEVC_stepG rfl (by with_unfolding_all rfl) ?_ | refine genVC_stepN rfl ?_ | refine genVC_stepG rfl (by with_unfolding_all rfl) ?_); intro K hK) | ((first | refine hK _ _ _ ?_ | refine hK _ _ ?_ | refine hK _ ?_); clear hK K) | refine seqVC_nil ?_ | refine parVC_nil ?_ | refine parEVC_nil ?_ | refine genVC_nil ?_ | refine AWP.block ?_ | (refine AWP.cond (by with_unfolding_all rfl) ?_ ?_ <;> intro h <;> (try simp only [zM, zN] at h) <;> try exact absurd h (by decide)) | refine AWP.skip ?_ | refine AWP.ret ?_ | refine AWP.exit ?_ | (refine ⟨fun h => ?_, fun h => ?_⟩ <;> (try simp only [zM, zN] at h) <;> try simp only [h]) | refine ⟨_, hp, ?_⟩ | refine ⟨by omega, b, hb, ?_⟩ | refine ⟨by omega, by omega, by omega, ?_⟩ | refine AWP.parR mixed (by kernel_rfl) fun K hK => ?_ | refine ⟨(by kernel_rfl : depB _ _ _ = true), ?_⟩ | refine Or.inl ?_) | (clear hK K))
      all_goals (simp only [hok, Int.toNat_natCast])
      all_goals (refine ⟨by first | trivial | rfl, fun x hx => ?_⟩; simp only [List.mem_singleton] at hx; subst hx; simp)
    ·
      rw [toW_yes hb hz] at hok
      repeat' (first | (simp only [go_sem, zA, zB, zC, zD, zE, zF, zG, reduceCtorEq, zH, zI, zJ, zK, zL, pin, hd, hwk]; all_goals fail_if_success guard_target =ₛ False) | (with_reducible first | ((first | refine seqVC_stepN rfl ?_ | refine seqVC_stepG rfl (by with_unfolding_all rfl) ?_ | refine AWP.seq ?_ | refine AWP.seqR (by kernel_rfl) ?_ | refine parVC_stepN rfl ?_ | refine parVC_stepG rfl (by with_unfolding_all rfl) ?_ | refine parEVC_stepN rfl ?_ | refine parEVC_stepG rfl (by with_unfolding_all rfl) ?_ | refine genVC_stepN rfl ?_ | refine genVC_stepG rfl (by with_unfolding_all rfl) ?_); intro K hK) | ((first | refine hK _ _ _ ?_ | refine hK _ _ ?_ | refine hK _ ?_); clear hK K) | refine seqVC_nil ?_ | refine parVC_nil ?_ | refine parEVC_nil ?_ | refine genVC_nil ?_ | refine AWP.block ?_ | (refine AWP.cond (by with_unfolding_all rfl) ?_ ?_ <;> intro h <;> (try simp only [zM, zN] at h) <;> try exact absurd h (by decide)) | refine AWP.skip ?_ | refine AWP.ret ?_ | refine AWP.exit ?_ | (refine ⟨fun h => ?_, fun h => ?_⟩ <;> (try simp only [zM, zN] at h) <;> try simp only [h]) | refine ⟨_, hp, ?_⟩ | refine ⟨by omega, b, hb, ?_⟩ | refine AWP.parR mixed (by kernel_rfl) fun K hK => ?_ | refine ⟨(by kernel_rfl : depB _ _ _ = true), ?_⟩ | refine Or.inl ?_) | (clear hK K))
      all_goals (refine ⟨k + 1, by first | omega | (simp only; omega), ⟨by omega, by omega, hok⟩, Gh.to [] (by repeat (first | exact trivial | refine ⟨rfl, ?_⟩ | refine ⟨by (simp only [go_sem, zA, zB, zC, zD, zE, zF, zG, reduceCtorEq, zH, zI, zJ, zK, zL, List.length_append, List.length_map, List.length_cons, List.length_nil, Nat.zero_add]) <;> rfl, ?_⟩)) (by repeat (first | exact trivial | refine ⟨rfl, ?_⟩ | refine ⟨by (simp only [go_sem, zA, zB, zC, zD, zE, zF, zG, reduceCtorEq, zH, zI, zJ, zK, zL, List.length_append, List.length_map, List.length_cons, List.length_nil, Nat.zero_add]) <;> rfl, ?_⟩)) rfl rfl rfl⟩)
  · have hd : decide ((k : Int) < (s.length : Int)) = false := by rw [decide_eq_false_iff_not]; omega
    rw [toW_end (s := s) (k := k) (by omega)] at hok
    repeat' (first | (simp only [go_sem, zA, zB, zC, zD, zE, zF, zG, reduceCtorEq, zH, zI, zJ, zK, zL, pin, hd]; all_goals fail_if_success guard_target =ₛ False) | (with_reducible first | ((first | refine seqVC_stepN rfl ?_ | refine seqVC_stepG rfl (by with_unfolding_all rfl) ?_ | refine AWP.seq ?_ | refine AWP.seqR (by kernel_rfl) ?_ | refine parVC_stepN rfl ?_ | refine parVC_stepG rfl (by with_unfolding_all rfl) ?_ | refine parEVC_stepN rfl ?_ | refine parEVC_stepG rfl (by with_unfolding_all rfl) ?_ | refine genVC_stepN rfl ?_ | refine genVC_stepG rfl (by with_unfolding_all rfl) ?_); intro K hK) | ((first | refine hK _ _ _ ?_ | refine hK _ _ ?_ | refine hK _ ?_); clear hK K) | refine seqVC_nil ?_ | refine parVC_nil ?_ | refine parEVC_nil ?_ | refine genVC_nil ?_ | refine AWP.block ?_ | (refine AWP.cond (by with_unfolding_all rfl) ?_ ?_ <;> intro h <;> (try simp only [zM, zN] at h) <;> try exact absurd h (by decide)) | refine AWP.skip ?_ | refine AWP.ret ?_ | refine AWP.exit ?_ | (refine ⟨fun h => ?_, fun h => ?_⟩ <;> (try simp only [zM, zN] at h) <;> try simp only [h]) | refine ⟨by omega, by omega, by omega, ?_⟩ | refine AWP.parR mixed (by kernel_rfl) fun K hK => ?_ | refine ⟨(by kernel_rfl : depB _ _ _ = true), ?_⟩ | refine Or.inl ?_) | (clear hK K))
    all_goals (simp only [hok, Int.toNat_natCast])
    all_goals (refine ⟨by first | trivial | rfl, fun x hx => ?_⟩; simp only [List.mem_singleton] at hx; subst hx; simp)
/-- the reserved words -/
def resW : List (List UInt8) := [[109, 111, 100, 117, 108, 101], [105, 109, 112, 111, 114, 116], [101, 120, 112, 111, 114, 116], [115, 105, 103], [119, 104, 101, 110], [99, 97, 115, 101], [111, 102], [101, 110, 100], [116, 114, 121], [99, 97, 116, 99, 104], [114, 97, 105, 115, 101], [97, 115, 115, 101, 114, 116], [115, 112, 97, 119, 110], [115, 101, 108, 102], [115, 101, 110, 100], [114, 101, 99, 101, 105, 118, 101], [97, 102, 116, 101, 114], [108, 101, 116], [105, 110], [102, 117, 110], [97, 112, 112, 108, 121], [112, 117, 116], [103, 101, 116], [97, 110, 100], [111, 114], [110, 111, 116], [100, 105, 118], [114, 101, 109]]
@[go_sem] theorem mp57 : mpT Tryd.prog 57 = some ([.bool false], false) := by kernel_rfl
theorem assoc_putA (k s : List UInt8) (r : List C) : ∀ es, assoc s (putA k r es) = bif decide (k = s) then some r else assoc s es
  | [] => by simp only [putA, assoc]
  | p :: es => by
    have ih := assoc_putA k s r es
    rw [putA]
    by_cases h : p.1 = k
    · rw [decide_eq_true h, cond_true]
      simp only [assoc, h]
      cases decide (k = s) <;> rfl
    · rw [decide_eq_false h, cond_false, assoc, ih, assoc]
      by_cases h2 : k = s
      · rw [decide_eq_true h2, cond_true, cond_true]
        rw [decide_eq_false (by rintro rfl; exact h h2.symm), cond_false]
      · rw [decide_eq_false h2, cond_false, cond_false]
def mapW : List (List UInt8) → List (List UInt8 × List C) → List (List UInt8 × List C)
  | [], es => es
  | k :: l, es => mapW l (putA k [.bool true] es)
theorem assoc_mapW (s : List UInt8) : ∀ l es, assoc s (mapW l es) = bif l.any (fun x => decide (x = s)) then some [.bool true] else assoc s es
  | [], es => rfl
  | k :: l, es => by
    rw [mapW, assoc_mapW s l, assoc_putA, List.any_cons]
    cases l.any _ <;> cases decide (k = s) <;> rfl
theorem reserved_c (s : List UInt8) : PC Tryd.prog 17 [S s] (Bo (resW.any fun x => decide (x = s))) := by
  have hm := assoc_mapW s resW []
  generalize (resW.any fun x => decide (x = s)) = c at hm ⊢
  simp only [resW, mapW] at hm
  refine PCB.of_body Tryd.func17 rfl (by decide) Tryd.ntmps17 Tryd.results17 rfl rfl rfl ?_ rfl rfl
  repeat' (first | (simp only [go_sem, zA, zB, zC, zD, zE, zF, zG, reduceCtorEq, zH, zI, zJ, zK, zL, hm, assoc]; all_goals fail_if_success guard_target =ₛ False) | (with_reducible first | ((first | refine seqVC_stepN rfl ?_ | refine AWP.seq ?_ | refine AWP.seqR (by kernel_rfl) ?_); intro K hK) | ((first | refine hK _ _ _ ?_ | refine hK _ _ ?_ | refine hK _ ?_); clear hK K) | refine seqVC_nil ?_ | refine AWP.block ?_ | (refine AWP.cond (by with_unfolding_all rfl) ?_ ?_ <;> intro h <;> (try simp only [zM, zN] at h) <;> try exact absurd h (by decide)) | refine AWP.skip ?_ | refine AWP.ret ?_ | refine AWP.exit ?_ | refine Or.inl ?_) | (clear hK K))
  all_goals (refine fin0 ?_; cases c <;> rfl)
theorem sepI_yes {n : Int} (h : sepI n = true) : n = 9 ∨ n = 10 ∨ n = 13 ∨ n = 32 := by simpa [sepI] using h
theorem sepI_no {n : Int} (h : sepI n = false) : decide (n = 9) = false ∧ decide (n = 10) = false ∧ decide (n = 13) = false ∧ decide (n = 32) = false := by simpa [sepI] using h
theorem byte_at {s : List UInt8} {k : Nat} (h : k < s.length) : ∃ b, s[k]? = some b := ⟨s[k], List.getElem?_eq_getElem h⟩
theorem wk64 {k n : Nat} (h : k < n) (hn : n ≤ 1000000000000) : IntKind.i64.wrap ((k : Int) + 1) = ((k + 1 : Nat) : Int) := by rw [w64 (by omega)]; rfl
/-- skip passes over separators -/
theorem wskip_c (s : List UInt8) (hs : s.length ≤ 1000000000000) (k0 : Nat) (hk0 : k0 ≤ s.length) :
    PCB Tryd.prog 36 [Scp pin] [(pin, scB s k0)] (.tup []) [(pin, scB s (skipTo s k0))] := by
  refine PCB.of_body Tryd.func36 rfl (by decide) Tryd.ntmps36 Tryd.results36 rfl rfl rfl ?_ rfl rfl
  repeat' (first | (simp only [go_sem, zA, zB, zC, zD, zE, zF, zG, reduceCtorEq, zH, zI, zJ, zK, zL, pin]; all_goals fail_if_success guard_target =ₛ False) | (with_reducible first | ((first | refine seqVC_stepN rfl ?_ | refine seqVC_stepG rfl (by with_unfolding_all rfl) ?_ | refine AWP.seq ?_ | refine AWP.seqR (by kernel_rfl) ?_ | refine parVC_stepN rfl ?_ | refine parVC_stepG rfl (by with_unfolding_all rfl) ?_ | refine parEVC_stepN rfl ?_ | refine parEVC_stepG rfl (by with_unfolding_all rfl) ?_ | refine genVC_stepN rfl ?_ | refine genVC_stepG rfl (by with_unfolding_all rfl) ?_); intro K hK) | ((first | refine hK _ _ _ ?_ | refine hK _ _ ?_ | refine hK _ ?_); clear hK K) | refine seqVC_nil ?_ | refine parVC_nil ?_ | refine parEVC_nil ?_ | refine genVC_nil ?_ | refine AWP.block ?_ | (refine AWP.cond (by with_unfolding_all rfl) ?_ ?_ <;> intro h <;> (try simp only [zM, zN] at h) <;> try exact absurd h (by decide)) | refine AWP.skip ?_ | refine AWP.ret ?_ | refine AWP.exit ?_ | (refine ⟨fun h => ?_, fun h => ?_⟩ <;> (try simp only [zM, zN] at h) <;> try simp only [h]) | refine AWP.parR mixed (by kernel_rfl) fun K hK => ?_ | refine ⟨(by kernel_rfl : depB _ _ _ = true), ?_⟩ | refine Or.inl ?_) | (clear hK K))
  refine AWP.loopF (X := Nat) (fun k => [(0, Scp 1000000)]) (fun k => [(1000000, scB s k)]) [] [] (fun k => k ≤ s.length ∧ skipTo s k0 = skipTo s k) (fun k => s.length - k) (k0) (by simp only [go_sem, zA, zB, zC, zD, zE, zF, zG, reduceCtorEq, zH, zI, zJ, zK, zL]; exact Gh.to [] (by repeat (first | exact trivial | refine ⟨rfl, ?_⟩ | refine ⟨by (simp only [go_sem, zA, zB, zC, zD, zE, zF, zG, reduceCtorEq, zH, zI, zJ, zK, zL, List.length_append, List.length_map, List.length_cons, List.length_nil, Nat.zero_add]) <;> rfl, ?_⟩)) (by repeat (first | exact trivial | refine ⟨rfl, ?_⟩ | refine ⟨by (simp only [go_sem, zA, zB, zC, zD, zE, zF, zG, reduceCtorEq, zH, zI, zJ, zK, zL, List.length_append, List.length_map, List.length_cons, List.length_nil, Nat.zero_add]) <;> rfl, ?_⟩)) rfl rfl rfl) ?_ ?_
  · exact ⟨hk0, rfl⟩
  rintro k ⟨hkl, hok⟩
  simp only [go_sem, zA, zB, zC, zD, zE, zF, zG, reduceCtorEq, zH, zI, zJ, zK, zL]
  by_cases hlt : k < s.length
  · obtain ⟨b, hb⟩ := byte_at hlt
    have hd : decide ((k : Int) < (s.length : Int)) = true := by rw [decide_eq_true_eq]; omega
    have hwk := wk64 hlt hs
    cases hz : sepI b.toNat
    · obtain ⟨h9, h10, h13, h32⟩ := sepI_no hz
      cases hc : decide ((b.toNat : Int) = 37)
      · rw [skipTo_no hb hz hc] at hok
        repeat' (first | (simp only [go_sem, zA, zB, zC, zD, zE, zF, zG, reduceCtorEq, zH, zI, zJ, zK, zL, pin, hd, hwk, h9, h10, h13, h32, hc]; all_goals fail_if_success guard_target =ₛ False) | (with_reducible first | ((first | refine seqVC_stepN rfl ?_ | refine seqVC_stepG rfl (by with_unfolding_all rfl) ?_ | refine AWP.seq ?_ | refine AWP.seqR (by kernel_rfl) ?_ | refine parVC_stepN rfl ?_ | refine parVC_stepG rfl (by with_unfolding_all rfl) ?_ | refine parEVC_stepN rfl ?_ | refine parEVC_stepG rfl (by with_unfolding_all rfl) ?_ | refine genVC_stepN rfl ?_ | refine genVC_stepG rfl (by with_unfolding_all rfl) ?_); intro K hK) | ((first | refine hK _ _ _ ?_ | refine hK _ _ ?_ | refine hK _ ?_); clear hK K) | refine seqVC_nil ?_ | refine parVC_nil ?_ | refine parEVC_nil ?_ | refine genVC_nil ?_ | refine AWP.block ?_ | (refine AWP.cond (by with_unfolding_all rfl) ?_ ?_ <;> intro h <;> (try simp only [zM, zN] at h) <;> try exact absurd h (by decide)) | refine AWP.skip ?_ | refine AWP.ret ?_ | refine AWP.exit ?_ | (refine ⟨fun h => ?_, fun h => ?_⟩ <;> (try simp only [zM, zN] at h) <;> try simp only [h]) | refine ⟨by omega, b, hb, ?_⟩ | refine AWP.parR mixed (by kernel_rfl) fun K hK => ?_ | refine ⟨(by kernel_rfl : depB _ _ _ = true), ?_⟩ | refine Or.inl ?_) | (clear hK K))
        all_goals (simp only [hok])
        all_goals (exact fun x hx => hx)
      · rw [skipTo_com hb hz hc] at hok
        repeat' (first | (simp only [go_sem, zA, zB, zC, zD, zE, zF, zG, reduceCtorEq, zH, zI, zJ, zK, zL, pin, hd, hwk, h9, h10, h13, h32, hc]; all_goals fail_if_success guard_target =ₛ False) | (with_reducible first | ((first | refine seqVC_stepN rfl ?_ | refine seqVC_stepG rfl (by with_unfolding_all rfl) ?_ | refine AWP.seq ?_ | refine AWP.seqR (by kernel_rfl) ?_ | refine parVC_stepN rfl ?_ | refine parVC_stepG rfl (by with_unfolding_all rfl) ?_ | refine parEVC_stepN rfl ?_ | refine parEVC_stepG rfl (by with_unfolding_all rfl) ?_ | refine genVC_stepN rfl ?_ | refine genVC_stepG rfl (by with_unfolding_all rfl) ?_); intro K hK) | ((first | refine hK _ _ _ ?_ | refine hK _ _ ?_ | refine hK _ ?_); clear hK K) | refine seqVC_nil ?_ | refine parVC_nil ?_ | refine parEVC_nil ?_ | refine genVC_nil ?_ | refine AWP.block ?_ | (refine AWP.cond (by with_unfolding_all rfl) ?_ ?_ <;> intro h <;> (try simp only [zM, zN] at h) <;> try exact absurd h (by decide)) | refine AWP.skip ?_ | refine AWP.ret ?_ | refine AWP.exit ?_ | (refine ⟨fun h => ?_, fun h => ?_⟩ <;> (try simp only [zM, zN] at h) <;> try simp only [h]) | refine ⟨by omega, b, hb, ?_⟩ | refine AWP.parR mixed (by kernel_rfl) fun K hK => ?_ | refine ⟨(by kernel_rfl : depB _ _ _ = true), ?_⟩ | refine Or.inl ?_) | (clear hK K))
        refine AWP.loopF (X := Nat) (fun j => [(0, Scp 1000000)]) (fun j => [(1000000, scB s j)]) [] [] (fun j => k ≤ j ∧ j < s.length ∧ toW noLf s (k + 1) = toW noLf s (j + 1)) (fun j => s.length - j) (k) (by simp only [go_sem, zA, zB, zC, zD, zE, zF, zG, reduceCtorEq, zH, zI, zJ, zK, zL]; exact Gh.to [] (by repeat (first | exact trivial | refine ⟨rfl, ?_⟩ | refine ⟨by (simp only [go_sem, zA, zB, zC, zD, zE, zF, zG, reduceCtorEq, zH, zI, zJ, zK, zL, List.length_append, List.length_map, List.length_cons, List.length_nil, Nat.zero_add]) <;> rfl, ?_⟩)) (by repeat (first | exact trivial | refine ⟨rfl, ?_⟩ | refine ⟨by (simp only [go_sem, zA, zB, zC, zD, zE, zF, zG, reduceCtorEq, zH, zI, zJ, zK, zL, List.length_append, List.length_map, List.length_cons, List.length_nil, Nat.zero_add]) <;> rfl, ?_⟩)) rfl rfl rfl) ?_ ?_
        · exact ⟨Nat.le_refl _, hlt, rfl⟩
        rintro j ⟨hkj, hjl, hoj⟩
        simp only [go_sem, zA, zB, zC, zD, zE, zF, zG, reduceCtorEq, zH, zI, zJ, zK, zL]
        have hwj := wk64 hjl hs
        by_cases hj1 : j + 1 < s.length
        · obtain ⟨c, hcj⟩ := byte_at hj1
          have hdj : decide (((j + 1 : Nat) : Int) < (s.length : Int)) = true := by rw [decide_eq_true_eq]; omega
          cases h0 : decide ((c.toNat : Int) = 10)
          · have hn : noLf c.toNat = true := by simp only [noLf, h0, Bool.not_false]
            rw [toW_yes hcj hn] at hoj
            repeat' (first | (simp only [go_sem, zA, zB, zC, zD, zE, zF, zG, reduceCtorEq, zH, zI, zJ, zK, zL, pin, hwj, hdj, h0]; all_goals fail_if_success guard_target =ₛ False) | (with_reducible first | ((first | refine seqVC_stepN rfl ?_ | refine seqVC_stepG rfl (by with_unfolding_all rfl) ?_ | refine AWP.seq ?_ | refine AWP.seqR (by kernel_rfl) ?_ | refine parVC_stepN rfl ?_ | refine parVC_stepG rfl (by with_unfolding_all rfl) ?_ | refine parEVC_stepN rfl ?_ | refine parEVC_stepG rfl (by with_unfolding_all rfl) ?_ | refine genVC_stepN rfl ?_ | refine genVC_stepG rfl (by with_unfolding_all rfl) ?_); intro K hK) | ((first | refine hK _ _ _ ?_ | refine hK _ _ ?_ | refine hK _ ?_); clear hK K) | refine seqVC_nil ?_ | refine parVC_nil ?_ | refine parEVC_nil ?_ | refine genVC_nil ?_ | refine AWP.block ?_ | (refine AWP.cond (by with_unfolding_all rfl) ?_ ?_ <;> intro h <;> (try simp only [zM, zN] at h) <;> try exact absurd h (by decide)) | refine AWP.skip ?_ | refine AWP.ret ?_ | refine AWP.exit ?_ | (refine ⟨fun h => ?_, fun h => ?_⟩ <;> (try simp only [zM, zN] at h) <;> try simp only [h]) | refine ⟨by omega, c, hcj, ?_⟩ | refine AWP.parR mixed (by kernel_rfl) fun K hK => ?_ | refine ⟨(by kernel_rfl : depB _ _ _ = true), ?_⟩ | refine Or.inl ?_) | (clear hK K))
            all_goals (refine ⟨j + 1, by first | omega | (simp only; omega), ⟨by omega, by omega, hoj⟩, Gh.to [] (by repeat (first | exact trivial | refine ⟨rfl, ?_⟩ | refine ⟨by (simp only [go_sem, zA, zB, zC, zD, zE, zF, zG, reduceCtorEq, zH, zI, zJ, zK, zL, List.length_append, List.length_map, List.length_cons, List.length_nil, Nat.zero_add]) <;> rfl, ?_⟩)) (by repeat (first | exact trivial | refine ⟨rfl, ?_⟩ | refine ⟨by (simp only [go_sem, zA, zB, zC, zD, zE, zF, zG, reduceCtorEq, zH, zI, zJ, zK, zL, List.length_append, List.length_map, List.length_cons, List.length_nil, Nat.zero_add]) <;> rfl, ?_⟩)) rfl rfl rfl⟩)
          · have hn : noLf c.toNat = false := by simp only [noLf, h0, Bool.not_true]
            rw [toW_no hcj hn] at hoj
            repeat' (first | (simp only [go_sem, zA, zB, zC, zD, zE, zF, zG, reduceCtorEq, zH, zI, zJ, zK, zL, pin, hwj, hdj, h0]; all_goals fail_if_success guard_target =ₛ False) | (with_reducible first | ((first | refine seqVC_stepN rfl ?_ | refine seqVC_stepG rfl (by with_unfolding_all rfl) ?_ | refine AWP.seq ?_ | refine AWP.seqR (by kernel_rfl) ?_ | refine parVC_stepN rfl ?_ | refine parVC_stepG rfl (by with_unfolding_all rfl) ?_ | refine parEVC_stepN rfl ?_ | refine parEVC_stepG rfl (by with_unfolding_all rfl) ?_ | refine genVC_stepN rfl ?_ | refine genVC_stepG rfl (by with_unfolding_all rfl) ?_); intro K hK) | ((first | refine hK _ _ _ ?_ | refine hK _ _ ?_ | refine hK _ ?_); clear hK K) | refine seqVC_nil ?_ | refine parVC_nil ?_ | refine parEVC_nil ?_ | refine genVC_nil ?_ | refine AWP.block ?_ | (refine AWP.cond (by with_unfolding_all rfl) ?_ ?_ <;> intro h <;> (try simp only [zM, zN] at h) <;> try exact absurd h (by decide)) | refine AWP.skip ?_ | refine AWP.ret ?_ | refine AWP.exit ?_ | (refine ⟨fun h => ?_, fun h => ?_⟩ <;> (try simp only [zM, zN] at h) <;> try simp only [h]) | refine ⟨by omega, c, hcj, ?_⟩ | refine AWP.parR mixed (by kernel_rfl) fun K hK => ?_ | refine ⟨(by kernel_rfl : depB _ _ _ = true), ?_⟩ | refine Or.inl ?_) | (clear hK K))
            all_goals (refine ⟨j + 1, by first | omega | (simp only; omega), ⟨by omega, by rw [hok, hoj]⟩, Gh.to [] (by repeat (first | exact trivial | refine ⟨rfl, ?_⟩ | refine ⟨by (simp only [go_sem, zA, zB, zC, zD, zE, zF, zG, reduceCtorEq, zH, zI, zJ, zK, zL, List.length_append, List.length_map, List.length_cons, List.length_nil, Nat.zero_add]) <;> rfl, ?_⟩)) (by repeat (first | exact trivial | refine ⟨rfl, ?_⟩ | refine ⟨by (simp only [go_sem, zA, zB, zC, zD, zE, zF, zG, reduceCtorEq, zH, zI, zJ, zK, zL, List.length_append, List.length_map, List.length_cons, List.length_nil, Nat.zero_add]) <;> rfl, ?_⟩)) rfl rfl rfl⟩)
        · have hdj : decide (((j + 1 : Nat) : Int) < (s.length : Int)) = false := by rw [decide_eq_false_iff_not]; omega
          rw [toW_end (s := s) (k := j + 1) (by omega)] at hoj
          repeat' (first | (simp only [go_sem, zA, zB, zC, zD, zE, zF, zG, reduceCtorEq, zH, zI, zJ, zK, zL, pin, hwj, hdj]; all_goals fail_if_success guard_target =ₛ False) | (with_reducible first | ((first | refine seqVC_stepN rfl ?_ | refine seqVC_stepG rfl (by with_unfolding_all rfl) ?_ | refine AWP.seq ?_ | refine AWP.seqR (by kernel_rfl) ?_ | refine parVC_stepN rfl ?_ | refine parVC_stepG rfl (by with_unfolding_all rfl) ?_ | refine parEVC_stepN rfl ?_ | refine parEVC_stepG rfl (by with_unfolding_all rfl) ?_ | refine genVC_stepN rfl ?_ | refine genVC_stepG rfl (by with_unfolding_all rfl) ?_); intro K hK) | ((first | refine hK _ _ _ ?_ | refine hK _ _ ?_ | refine hK _ ?_); clear hK K) | refine seqVC_nil ?_ | refine parVC_nil ?_ | refine parEVC_nil ?_ | refine genVC_nil ?_ | refine AWP.block ?_ | (refine AWP.cond (by with_unfolding_all rfl) ?_ ?_ <;> intro h <;> (try simp only [zM, zN] at h) <;> try exact absurd h (by decide)) | refine AWP.skip ?_ | refine AWP.ret ?_ | refine AWP.exit ?_ | (refine ⟨fun h => ?_, fun h => ?_⟩ <;> (try simp only [zM, zN] at h) <;> try simp only [h]) | refine AWP.parR mixed (by kernel_rfl) fun K hK => ?_ | refine ⟨(by kernel_rfl : depB _ _ _ = true), ?_⟩ | refine Or.inl ?_) | (clear hK K))
          all_goals (refine ⟨j + 1, by first | omega | (simp only; omega), ⟨by omega, by rw [hok, hoj]⟩, Gh.to [] (by repeat (first | exact trivial | refine ⟨rfl, ?_⟩ | refine ⟨by (simp only [go_sem, zA, zB, zC, zD, zE, zF, zG, reduceCtorEq, zH, zI, zJ, zK, zL, List.length_append, List.length_map, List.length_cons, List.length_nil, Nat.zero_add]) <;> rfl, ?_⟩)) (by repeat (first | exact trivial | refine ⟨rfl, ?_⟩ | refine ⟨by (simp only [go_sem, zA, zB, zC, zD, zE, zF, zG, reduceCtorEq, zH, zI, zJ, zK, zL, List.length_append, List.length_map, List.length_cons, List.length_nil, Nat.zero_add]) <;> rfl, ?_⟩)) rfl rfl rfl⟩)
    · rw [skipTo_sep hb hz] at hok
      rcases sepI_yes hz with h4 | h4 | h4 | h4
      all_goals
        repeat' (first | (simp only [go_sem, zA, zB, zC, zD, zE, zF, zG, reduceCtorEq, zH, zI, zJ, zK, zL, pin, hd, hwk, h4]; all_goals fail_if_success guard_target =ₛ False) | (with_reducible first | ((first | refine seqVC_stepN rfl ?_ | refine seqVC_stepG rfl (by with_unfolding_all rfl) ?_ | refine AWP.seq ?_ | refine AWP.seqR (by kernel_rfl) ?_ | refine parVC_stepN rfl ?_ | refine parVC_stepG rfl (by with_unfolding_all rfl) ?_ | refine parEVC_stepN rfl ?_ | refine parEVC_stepG rfl (by with_unfolding_all rfl) ?_ | refine genVC_stepN rfl ?_ | refine genVC_stepG rfl (by with_unfolding_all rfl) ?_); intro K hK) | ((first | refine hK _ _ _ ?_ | refine hK _ _ ?_ | refine hK _ ?_); clear hK K) | refine seqVC_nil ?_ | refine parVC_nil ?_ | refine parEVC_nil ?_ | refine genVC_nil ?_ | refine AWP.block ?_ | (refine AWP.cond (by with_unfolding_all rfl) ?_ ?_ <;> intro h <;> (try simp only [zM, zN] at h) <;> try exact absurd h (by decide)) | refine AWP.skip ?_ | refine AWP.ret ?_ | refine AWP.exit ?_ | (refine ⟨fun h => ?_, fun h => ?_⟩ <;> (try simp only [zM, zN] at h) <;> try simp only [h]) | refine ⟨by omega, b, hb, ?_⟩ | refine AWP.parR mixed (by kernel_rfl) fun K hK => ?_ | refine ⟨(by kernel_rfl : depB _ _ _ = true), ?_⟩ | refine Or.inl ?_) | (clear hK K))
        all_goals (refine ⟨k + 1, by first | omega | (simp only; omega), ⟨by omega, hok⟩, Gh.to [] (by repeat (first | exact trivial | refine ⟨rfl, ?_⟩ | refine ⟨by (simp only [go_sem, zA, zB, zC, zD, zE, zF, zG, reduceCtorEq, zH, zI, zJ, zK, zL, List.length_append, List.length_map, List.length_cons, List.length_nil, Nat.zero_add]) <;> rfl, ?_⟩)) (by repeat (first | exact trivial | refine ⟨rfl, ?_⟩ | refine ⟨by (simp only [go_sem, zA, zB, zC, zD, zE, zF, zG, reduceCtorEq, zH, zI, zJ, zK, zL, List.length_append, List.length_map, List.length_cons, List.length_nil, Nat.zero_add]) <;> rfl, ?_⟩)) rfl rfl rfl⟩)
  · have hd : decide ((k : Int) < (s.length : Int)) = false := by rw [decide_eq_false_iff_not]; omega
    rw [skipTo_end (s := s) (k := k) (by omega)] at hok
    repeat' (first | (simp only [go_sem, zA, zB, zC, zD, zE, zF, zG, reduceCtorEq, zH, zI, zJ, zK, zL, pin, hd]; all_goals fail_if_success guard_target =ₛ False) | (with_reducible first | ((first | refine seqVC_stepN rfl ?_ | refine seqVC_stepG rfl (by with_unfolding_all rfl) ?_ | refine AWP.seq ?_ | refine AWP.seqR (by kernel_rfl) ?_ | refine parVC_stepN rfl ?_ | refine parVC_stepG rfl (by with_unfolding_all rfl) ?_ | refine parEVC_stepN rfl ?_ | refine parEVC_stepG rfl (by with_unfolding_all rfl) ?_ | refine genVC_stepN rfl ?_ | refine genVC_stepG rfl (by with_unfolding_all rfl) ?_); intro K hK) | ((first | refine hK _ _ _ ?_ | refine hK _ _ ?_ | refine hK _ ?_); clear hK K) | refine seqVC_nil ?_ | refine parVC_nil ?_ | refine parEVC_nil ?_ | refine genVC_nil ?_ | refine AWP.block ?_ | (refine AWP.cond (by with_unfolding_all rfl) ?_ ?_ <;> intro h <;> (try simp only [zM, zN] at h) <;> try exact absurd h (by decide)) | refine AWP.skip ?_ | refine AWP.ret ?_ | refine AWP.exit ?_ | (refine ⟨fun h => ?_, fun h => ?_⟩ <;> (try simp only [zM, zN] at h) <;> try simp only [h]) | refine AWP.parR mixed (by kernel_rfl) fun K hK => ?_ | refine ⟨(by kernel_rfl : depB _ _ _ = true), ?_⟩ | refine Or.inl ?_) | (clear hK K))
    all_goals (simp only [hok])
    all_goals (exact fun x hx => hx)
end Go.Proofs.YtogponhonjiidaaDoor
set_option linter.unusedSimpArgs false
set_option linter.unusedVariables false
set_option maxRecDepth 20000
set_option maxHeartbeats 400000
namespace Go.Proofs.YtogponhonjiidaaDoor
open Go Go.Sx
open Nat renaming reduceBEq → zA, reduceBNe → zB, reduceAdd → zC, reduceSub → zD, reduceMul → zE, reduceLeDiff → zF, reduceLT → zG, reduceEqDiff → zH
open Int renaming reduceToNat → zI, reduceLE → zJ, reduceLT → zK, reduceEq → zL
open Bool renaming not_eq_true' → zM, not_eq_false' → zN
/-- the number that digits spell, after acc -/
@[irreducible] def dval (b : UInt8) : Nat := b.toNat - 48
theorem dval_eq (b : UInt8) : dval b = b.toNat - 48 := by unfold dval; exact Eq.refl _
def decA (acc : Nat) : List UInt8 → Nat
  | [] => acc
  | b :: l => decA (acc * 10 + dval b) l
theorem decA_ge (l : List UInt8) : ∀ acc, acc ≤ decA acc l := by
  induction l with
  | nil => exact fun _ => Nat.le_refl _
  | cons b l ih => exact fun acc => Nat.le_trans (by omega) (ih _)
/-- all are digits -/
def allDig (l : List UInt8) : Prop := ∀ b ∈ l, digI b.toNat = true
theorem dig_bd {b : UInt8} (h : digI b.toNat = true) : 48 ≤ b.toNat ∧ b.toNat ≤ 57 := by
  simp only [digI, Bool.and_eq_true, decide_eq_true_eq] at h; omega
theorem pu_big {M acc : Nat} {c : UInt8} {r : List UInt8} (h : 48 ≤ c.toNat ∧ c.toNat ≤ 57) (h3 : 1844674407370955162 ≤ acc) : Lib.parseUintM M acc (c :: r) = .range := by
  simp only [Lib.parseUintM, h, and_self, if_true, h3]
theorem pu_over {M acc : Nat} {c : UInt8} {r : List UInt8} (h : 48 ≤ c.toNat ∧ c.toNat ≤ 57) (h3 : ¬ 1844674407370955162 ≤ acc) (h4 : M < acc * 10 + (c.toNat - 48)) : Lib.parseUintM M acc (c :: r) = .range := by
  simp only [Lib.parseUintM, h, and_self, if_true, h3, if_false, h4]
theorem pu_step {M acc : Nat} {c : UInt8} {r : List UInt8} (h : 48 ≤ c.toNat ∧ c.toNat ≤ 57) (h3 : ¬ 1844674407370955162 ≤ acc) (h4 : ¬ M < acc * 10 + (c.toNat - 48)) : Lib.parseUintM M acc (c :: r) = Lib.parseUintM M (acc * 10 + (c.toNat - 48)) r := by
  simp only [Lib.parseUintM, h, and_self, if_true, h3, if_false, h4]
theorem decA_cons (acc : Nat) (b : UInt8) (l : List UInt8) : decA acc (b :: l) = decA (acc * 10 + (b.toNat - 48)) l := by rw [decA, dval_eq]
theorem pu_aux {M acc x D : Nat} (hM : M < 18446744073709551620) (h3 : 1844674407370955162 ≤ acc) (h : acc * 10 ≤ x) (hg : x ≤ D) : M < D := by omega
theorem parseUint_ok {M : Nat} (hM : M < 18446744073709551620) : ∀ (l : List UInt8) (acc : Nat), allDig l → acc ≤ M → decA acc l ≤ M → Lib.parseUintM M acc l = .ok (decA acc l)
  | [], acc, _, _, _ => rfl
  | b :: l, acc, hd, hacc, h => by
    have hb := dig_bd (hd b List.mem_cons_self)
    have hge := decA_ge l (acc * 10 + (b.toNat - 48))
    have hle : acc * 10 ≤ acc * 10 + (b.toNat - 48) := Nat.le_add_right _ _
    rw [decA_cons] at h ⊢
    have h3 : ¬ 1844674407370955162 ≤ acc := fun h3 => absurd h (Nat.not_le.2 (pu_aux hM h3 hle hge))
    have h4 : ¬ M < acc * 10 + (b.toNat - 48) := Nat.not_lt.2 (Nat.le_trans hge h)
    rw [pu_step hb h3 h4]
    exact parseUint_ok hM l _ (fun x hx => hd x (List.mem_cons_of_mem _ hx)) (Nat.le_trans hge h) h
theorem parseUint_bad {M : Nat} (hM : M < 18446744073709551620) : ∀ (l : List UInt8) (acc : Nat), allDig l → acc ≤ M → M < decA acc l → Lib.parseUintM M acc l = .range
  | [], acc, _, h, h2 => absurd h (Nat.not_le.2 h2)
  | b :: l, acc, hd, hacc, h => by
    have hb := dig_bd (hd b List.mem_cons_self)
    rw [decA_cons] at h
    by_cases h3 : 1844674407370955162 ≤ acc
    · exact pu_big hb h3
    · by_cases h4 : M < acc * 10 + (b.toNat - 48)
      · exact pu_over hb h3 h4
      · rw [pu_step hb h3 h4]
        exact parseUint_bad hM l _ (fun x hx => hd x (List.mem_cons_of_mem _ hx)) (Nat.not_lt.1 h4) h
/-- a number: what it is, and the code of the answer (5: a zero too many, 2: too great) -/
def numM (neg : Bool) (d : List UInt8) : Int × Int :=
  bif decide (d.head? = some 48) && (decide (1 < d.length) || neg) then (0, 5)
  else bif neg then (bif decide (decA 0 d ≤ 9223372036854775808) then (-(decA 0 d : Int), 0) else (0, 2))
  else (bif decide (decA 0 d < 9223372036854775808) then ((decA 0 d : Int), 0) else (0, 2))
theorem parseUintB_num {d : List UInt8} (hd : allDig d) (hne : d ≠ []) : (decA 0 d ≤ 18446744073709551615 → Lib.parseUintB 64 d = .ok (decA 0 d)) ∧ (18446744073709551615 < decA 0 d → Lib.parseUintB 64 d = .range) := by
  have e : Lib.parseUintB 64 d = Lib.parseUintM 18446744073709551615 0 d := if_neg hne
  rw [e]
  exact ⟨fun h1 => parseUint_ok (by decide) d 0 hd (Nat.zero_le _) h1, fun h1 => parseUint_bad (by decide) d 0 hd (Nat.zero_le _) h1⟩
/-- ParseInt at digits, at a minus and digits -/
theorem parseInt_pos {d : List UInt8} (hd : allDig d) (hne : d ≠ []) : (decA 0 d < 9223372036854775808 → Lib.parseIntB 64 d = .ok (decA 0 d : Int)) ∧ (9223372036854775808 ≤ decA 0 d → Lib.parseIntB 64 d = .range) := by
  obtain ⟨h1, h2⟩ := parseUintB_num hd hne
  cases d with
  | nil => exact absurd rfl hne
  | cons c r =>
    obtain ⟨h3, h4⟩ := dig_bd (hd c List.mem_cons_self)
    have hc1 : ¬ (c.toNat = 43 ∨ c.toNat = 45) := by omega
    have hc2 : ¬ c.toNat = 45 := by omega
    generalize decA 0 (c :: r) = u at h1 h2 ⊢
    unfold Lib.parseIntB
    simp only []
    rw [if_neg hc1]
    constructor
    · intro h
      rw [h1 (by omega)]
      simp only []
      rw [if_neg (fun k => absurd k.2 (Nat.not_le.2 h)), if_neg (fun k => hc2 k.1), if_neg hc2]
    · intro h
      by_cases h6 : u ≤ 18446744073709551615
      · rw [h1 h6]
        simp only []
        rw [if_pos ⟨hc2, h⟩]
      · rw [h2 (by omega)]
theorem parseInt_neg {d : List UInt8} (hd : allDig d) (hne : d ≠ []) : (decA 0 d ≤ 9223372036854775808 → Lib.parseIntB 64 (45 :: d) = .ok (-(decA 0 d : Int))) ∧ (9223372036854775808 < decA 0 d → Lib.parseIntB 64 (45 :: d) = .range) := by
  obtain ⟨h1, h2⟩ := parseUintB_num hd hne
  have hc1 : (45 : UInt8).toNat = 43 ∨ (45 : UInt8).toNat = 45 := .inr rfl
  have hc2 : (45 : UInt8).toNat = 45 := rfl
  generalize decA 0 d = u at h1 h2 ⊢
  unfold Lib.parseIntB
  simp only []
  rw [if_pos hc1]
  constructor
  · intro h
    rw [h1 (by omega)]
    simp only []
    rw [if_neg (fun k => k.1 hc2), if_neg (fun k => absurd k.2 (Nat.not_lt.2 h)), if_pos hc2]
  · intro h
    by_cases h6 : u ≤ 18446744073709551615
    · rw [h1 h6]
      simp only []
      rw [if_neg (fun k => k.1 hc2), if_pos ⟨hc2, h⟩]
    · rw [h2 (by omega)]
end Go.Proofs.YtogponhonjiidaaDoor
set_option maxRecDepth 100000
namespace Go.Proofs
open Go.Shelf
def Tryd.hasPrefixL_ren : Go.Shelf.Ren := ⟨fun | 99 => 86 | 206 => 102 | n => n, fun | 9 => 9 | 4 => 4 | 3 => 3 | n => n, fun | n => n⟩
theorem Tryd.hasPrefixL : Go.Proofs.Lays.n99 Tryd.prog Tryd.hasPrefixL_ren := {
  mixed := by kernel_rfl,
  f99 := Tryd.func86.trans (congrArg some (by kernel_rfl)),
  f206 := Tryd.func102.trans (congrArg some (by kernel_rfl)),
  t3 := Tryd.underlying3,
  a3 := Tryd.isAgg3,
  z3 := Tryd.sizeOf3,
  v3 := Tryd.zeroValue3,
  t4 := Tryd.underlying4,
  a4 := Tryd.isAgg4,
  z4 := Tryd.sizeOf4,
  v4 := Tryd.zeroValue4,
  t9 := Tryd.underlying9,
  a9 := Tryd.isAgg9,
  z9 := Tryd.sizeOf9,
  v9 := Tryd.zeroValue9 }
def Tryd.trimPrefixL_ren : Go.Shelf.Ren := ⟨fun | 101 => 82 | 208 => 97 | 206 => 102 | n => n, fun | 9 => 9 | 4 => 4 | 3 => 3 | n => n, fun | n => n⟩
theorem Tryd.trimPrefixL : Go.Proofs.Lays.n101 Tryd.prog Tryd.trimPrefixL_ren := {
  mixed := by kernel_rfl,
  f101 := Tryd.func82.trans (congrArg some (by kernel_rfl)),
  f206 := Tryd.func102.trans (congrArg some (by kernel_rfl)),
  f208 := Tryd.func97.trans (congrArg some (by kernel_rfl)),
  t3 := Tryd.underlying3,
  a3 := Tryd.isAgg3,
  z3 := Tryd.sizeOf3,
  v3 := Tryd.zeroValue3,
  t4 := Tryd.underlying4,
  a4 := Tryd.isAgg4,
  z4 := Tryd.sizeOf4,
  v4 := Tryd.zeroValue4,
  t9 := Tryd.underlying9,
  a9 := Tryd.isAgg9,
  z9 := Tryd.sizeOf9,
  v9 := Tryd.zeroValue9 }
def Tryd.parseIntL_ren : Go.Shelf.Ren := ⟨fun | 174 => 83 | 247 => 98 | 245 => 99 | 287 => 111 | 279 => 112 | 280 => 113 | 281 => 114 | 282 => 115 | 321 => 121 | 322 => 122 | 316 => 123 | 171 => 125 | 205 => 124 | 243 => 130 | 246 => 68 | 283 => 87 | 284 => 88 | 285 => 89 | 286 => 90 | 129 => 104 | 317 => 103 | 318 => 105 | 319 => 106 | 320 => 107 | 337 => 118 | 338 => 119 | n => n, fun | 9 => 9 | 3 => 3 | 2 => 2 | 75 => 82 | 85 => 112 | 4 => 4 | 167 => 141 | 5 => 5 | 53 => 107 | 175 => 142 | 46 => 36 | 168 => 144 | 37 => 40 | 0 => 0 | 210 => 151 | 21 => 21 | 127 => 106 | 145 => 157 | 143 => 155 | 171 => 119 | 173 => 122 | 212 => 134 | 51 => 135 | 20 => 20 | 213 => 136 | 232 => 153 | 233 => 154 | 80 => 85 | n => n, fun | 15 => 4 | 16 => 5 | 17 => 1 | 18 => 6 | 19 => 7 | n => n⟩
theorem Tryd.parseIntL : Go.Proofs.LaysC.n174 Tryd.prog Tryd.parseIntL_ren := {
  mixed := by kernel_rfl,
  f129 := Tryd.func104.trans (congrArg some (by kernel_rfl)),
  f171 := Tryd.func125.trans (congrArg some (by kernel_rfl)),
  f174 := Tryd.func83.trans (congrArg some (by kernel_rfl)),
  f205 := Tryd.func124.trans (congrArg some (by kernel_rfl)),
  f243 := Tryd.func130.trans (congrArg some (by kernel_rfl)),
  f245 := Tryd.func99.trans (congrArg some (by kernel_rfl)),
  f246 := Tryd.func68.trans (congrArg some (by kernel_rfl)),
  f247 := Tryd.func98.trans (congrArg some (by kernel_rfl)),
  f279 := Tryd.func112.trans (congrArg some (by kernel_rfl)),
  f280 := Tryd.func113.trans (congrArg some (by kernel_rfl)),
  f281 := Tryd.func114.trans (congrArg some (by kernel_rfl)),
  f282 := Tryd.func115.trans (congrArg some (by kernel_rfl)),
  f283 := Tryd.func87.trans (congrArg some (by kernel_rfl)),
  f284 := Tryd.func88.trans (congrArg some (by kernel_rfl)),
  f285 := Tryd.func89.trans (congrArg some (by kernel_rfl)),
  f286 := Tryd.func90.trans (congrArg some (by kernel_rfl)),
  f287 := Tryd.func111.trans (congrArg some (by kernel_rfl)),
  f316 := Tryd.func123.trans (congrArg some (by kernel_rfl)),
  f317 := Tryd.func103.trans (congrArg some (by kernel_rfl)),
  f318 := Tryd.func105.trans (congrArg some (by kernel_rfl)),
  f319 := Tryd.func106.trans (congrArg some (by kernel_rfl)),
  f320 := Tryd.func107.trans (congrArg some (by kernel_rfl)),
  f321 := Tryd.func121.trans (congrArg some (by kernel_rfl)),
  f322 := Tryd.func122.trans (congrArg some (by kernel_rfl)),
  f337 := Tryd.func118.trans (congrArg some (by kernel_rfl)),
  f338 := Tryd.func119.trans (congrArg some (by kernel_rfl)),
  t0 := Tryd.underlying0,
  a0 := Tryd.isAgg0,
  z0 := Tryd.sizeOf0,
  v0 := Tryd.zeroValue0,
  t2 := Tryd.underlying2,
  a2 := Tryd.isAgg2,
  z2 := Tryd.sizeOf2,
  v2 := Tryd.zeroValue2,
  t3 := Tryd.underlying3,
  a3 := Tryd.isAgg3,
  z3 := Tryd.sizeOf3,
  v3 := Tryd.zeroValue3,
  t4 := Tryd.underlying4,
  a4 := Tryd.isAgg4,
  z4 := Tryd.sizeOf4,
  v4 := Tryd.zeroValue4,
  t5 := Tryd.underlying5,
  a5 := Tryd.isAgg5,
  z5 := Tryd.sizeOf5,
  v5 := Tryd.zeroValue5,
  t9 := Tryd.underlying9,
  a9 := Tryd.isAgg9,
  z9 := Tryd.sizeOf9,
  v9 := Tryd.zeroValue9,
  t20 := Tryd.underlying20,
  a20 := Tryd.isAgg20,
  z20 := Tryd.sizeOf20,
  v20 := Tryd.zeroValue20,
  t21 := Tryd.underlying21,
  a21 := Tryd.isAgg21,
  z21 := Tryd.sizeOf21,
  v21 := Tryd.zeroValue21,
  t37 := Tryd.underlying40,
  a37 := Tryd.isAgg40,
  z37 := Tryd.sizeOf40,
  v37 := Tryd.zeroValue40,
  t46 := Tryd.underlying36,
  a46 := Tryd.isAgg36,
  z46 := Tryd.sizeOf36,
  v46 := Tryd.zeroValue36,
  t51 := Tryd.underlying135,
  a51 := Tryd.isAgg135,
  z51 := Tryd.sizeOf135,
  v51 := Tryd.zeroValue135,
  t53 := Tryd.underlying107,
  a53 := Tryd.isAgg107,
  z53 := Tryd.sizeOf107,
  v53 := Tryd.zeroValue107,
  t75 := Tryd.underlying82,
  a75 := Tryd.isAgg82,
  z75 := Tryd.sizeOf82,
  v75 := Tryd.zeroValue82,
  t85 := Tryd.underlying112,
  a85 := Tryd.isAgg112,
  z85 := Tryd.sizeOf112,
  v85 := Tryd.zeroValue112,
  t127 := Tryd.underlying106,
  a127 := Tryd.isAgg106,
  z127 := Tryd.sizeOf106,
  v127 := Tryd.zeroValue106,
  t143 := Tryd.underlying155,
  a143 := Tryd.isAgg155,
  z143 := Tryd.sizeOf155,
  v143 := Tryd.zeroValue155,
  t145 := Tryd.underlying157,
  a145 := Tryd.isAgg157,
  z145 := Tryd.sizeOf157,
  v145 := Tryd.zeroValue157,
  t167 := Tryd.underlying141,
  a167 := Tryd.isAgg141,
  z167 := Tryd.sizeOf141,
  v167 := Tryd.zeroValue141,
  t168 := Tryd.underlying144,
  a168 := Tryd.isAgg144,
  z168 := Tryd.sizeOf144,
  v168 := Tryd.zeroValue144,
  t171 := Tryd.underlying119,
  a171 := Tryd.isAgg119,
  z171 := Tryd.sizeOf119,
  v171 := Tryd.zeroValue119,
  t173 := Tryd.underlying122,
  a173 := Tryd.isAgg122,
  z173 := Tryd.sizeOf122,
  v173 := Tryd.zeroValue122,
  t175 := Tryd.underlying142,
  a175 := Tryd.isAgg142,
  z175 := Tryd.sizeOf142,
  v175 := Tryd.zeroValue142,
  t210 := Tryd.underlying151,
  a210 := Tryd.isAgg151,
  z210 := Tryd.sizeOf151,
  v210 := Tryd.zeroValue151,
  t212 := Tryd.underlying134,
  a212 := Tryd.isAgg134,
  z212 := Tryd.sizeOf134,
  v212 := Tryd.zeroValue134,
  t213 := Tryd.underlying136,
  a213 := Tryd.isAgg136,
  z213 := Tryd.sizeOf136,
  t232 := Tryd.underlying153,
  a232 := Tryd.isAgg153,
  z232 := Tryd.sizeOf153,
  v232 := Tryd.zeroValue153,
  t233 := Tryd.underlying154,
  a233 := Tryd.isAgg154,
  z233 := Tryd.sizeOf154,
  v233 := Tryd.zeroValue154,
  g15 := by kernel_rfl,
  g16 := by kernel_rfl,
  g17 := by kernel_rfl,
  g18 := by kernel_rfl,
  g19 := by kernel_rfl,
  t80 := Tryd.underlying85,
  a80 := Tryd.isAgg85,
  z80 := Tryd.sizeOf85,
  v80 := Tryd.zeroValue85,
  i0 := by kernel_rfl,
  i2 := by kernel_rfl,
  i3 := by kernel_rfl,
  i4 := by kernel_rfl,
  i5 := by kernel_rfl,
  i9 := by kernel_rfl,
  i20 := by kernel_rfl,
  i21 := by kernel_rfl,
  i37 := by kernel_rfl,
  i46 := by kernel_rfl,
  i51 := by kernel_rfl,
  i53 := by kernel_rfl,
  i75 := by kernel_rfl,
  i80 := by kernel_rfl,
  i85 := by kernel_rfl,
  i127 := by kernel_rfl,
  i143 := by kernel_rfl,
  i145 := by kernel_rfl,
  i167 := by kernel_rfl,
  i168 := by kernel_rfl,
  i171 := by kernel_rfl,
  i173 := by kernel_rfl,
  i175 := by kernel_rfl,
  i210 := by kernel_rfl,
  i212 := by kernel_rfl,
  i232 := by kernel_rfl,
  i233 := by kernel_rfl,
  m15 := by kernel_rfl,
  m16 := by kernel_rfl,
  m17 := by kernel_rfl,
  m18 := by kernel_rfl,
  m19 := by kernel_rfl,
  c0 := by kernel_rfl,
  c2 := by kernel_rfl,
  c3 := by kernel_rfl,
  c4 := by kernel_rfl,
  c5 := by kernel_rfl,
  c9 := by kernel_rfl,
  c20 := by kernel_rfl,
  c21 := by kernel_rfl,
  c37 := by kernel_rfl,
  c46 := by kernel_rfl,
  c51 := by kernel_rfl,
  c53 := by kernel_rfl,
  c75 := by kernel_rfl,
  c80 := by kernel_rfl,
  c85 := by kernel_rfl,
  c127 := by kernel_rfl,
  c143 := by kernel_rfl,
  c145 := by kernel_rfl,
  c167 := by kernel_rfl,
  c168 := by kernel_rfl,
  c171 := by kernel_rfl,
  c173 := by kernel_rfl,
  c175 := by kernel_rfl,
  c210 := by kernel_rfl,
  c212 := by kernel_rfl,
  c213 := by kernel_rfl,
  c232 := by kernel_rfl,
  c233 := by kernel_rfl }
def Tryd.cutL_ren : Go.Shelf.Ren := ⟨fun | 145 => 85 | 220 => 101 | 219 => 117 | 217 => 116 | 225 => 127 | 224 => 128 | 267 => 129 | 266 => 126 | 314 => 131 | n => n, fun | 9 => 9 | 4 => 4 | 59 => 116 | 3 => 3 | 5 => 5 | 46 => 36 | 146 => 158 | 51 => 135 | n => n, fun | 1 => 3 | n => n⟩
theorem Tryd.cutL : Go.Proofs.Lays.n145 Tryd.prog Tryd.cutL_ren := {
  mixed := by kernel_rfl,
  f145 := Tryd.func85.trans (congrArg some (by kernel_rfl)),
  f217 := Tryd.func116.trans (congrArg some (by kernel_rfl)),
  f219 := Tryd.func117.trans (congrArg some (by kernel_rfl)),
  f220 := Tryd.func101.trans (congrArg some (by kernel_rfl)),
  f224 := Tryd.func128.trans (congrArg some (by kernel_rfl)),
  f225 := Tryd.func127.trans (congrArg some (by kernel_rfl)),
  f266 := Tryd.func126.trans (congrArg some (by kernel_rfl)),
  f267 := Tryd.func129.trans (congrArg some (by kernel_rfl)),
  f314 := Tryd.func131.trans (congrArg some (by kernel_rfl)),
  t3 := Tryd.underlying3,
  a3 := Tryd.isAgg3,
  z3 := Tryd.sizeOf3,
  v3 := Tryd.zeroValue3,
  t4 := Tryd.underlying4,
  a4 := Tryd.isAgg4,
  z4 := Tryd.sizeOf4,
  v4 := Tryd.zeroValue4,
  t5 := Tryd.underlying5,
  a5 := Tryd.isAgg5,
  z5 := Tryd.sizeOf5,
  v5 := Tryd.zeroValue5,
  t9 := Tryd.underlying9,
  a9 := Tryd.isAgg9,
  z9 := Tryd.sizeOf9,
  v9 := Tryd.zeroValue9,
  t46 := Tryd.underlying36,
  a46 := Tryd.isAgg36,
  z46 := Tryd.sizeOf36,
  v46 := Tryd.zeroValue36,
  t51 := Tryd.underlying135,
  a51 := Tryd.isAgg135,
  z51 := Tryd.sizeOf135,
  v51 := Tryd.zeroValue135,
  t59 := Tryd.underlying116,
  a59 := Tryd.isAgg116,
  z59 := Tryd.sizeOf116,
  v59 := Tryd.zeroValue116,
  t146 := Tryd.underlying158,
  a146 := Tryd.isAgg158,
  z146 := Tryd.sizeOf158,
  v146 := Tryd.zeroValue158,
  g1 := by kernel_rfl }
def Tryd.indexByteL_ren : Go.Shelf.Ren := ⟨fun | 137 => 100 | 217 => 116 | 266 => 126 | n => n, fun | 9 => 9 | 5 => 5 | 3 => 3 | n => n, fun | n => n⟩
theorem Tryd.indexByteL : Go.Proofs.Lays.n137 Tryd.prog Tryd.indexByteL_ren := {
  mixed := by kernel_rfl,
  f137 := Tryd.func100.trans (congrArg some (by kernel_rfl)),
  f217 := Tryd.func116.trans (congrArg some (by kernel_rfl)),
  f266 := Tryd.func126.trans (congrArg some (by kernel_rfl)),
  t3 := Tryd.underlying3,
  a3 := Tryd.isAgg3,
  z3 := Tryd.sizeOf3,
  v3 := Tryd.zeroValue3,
  t5 := Tryd.underlying5,
  a5 := Tryd.isAgg5,
  z5 := Tryd.sizeOf5,
  v5 := Tryd.zeroValue5,
  t9 := Tryd.underlying9,
  a9 := Tryd.isAgg9,
  z9 := Tryd.sizeOf9,
  v9 := Tryd.zeroValue9 }
end Go.Proofs
set_option linter.unusedSimpArgs false
set_option linter.unusedVariables false
set_option maxRecDepth 20000
set_option maxHeartbeats 4000000
namespace Go.Proofs.YtogponhonjiidaaDoor
open Go Go.Sx Go.RowKit
abbrev Er (b : Bool) : T := .one (.dat (.err b))
theorem hasPrefix_c (s p : List UInt8) : PC Tryd.prog 86 [S s, S p] (Bo (Lib.hasPrefix s p)) := by
  refine PC.native ⟨_, Tryd.func86, by decide, rfl⟩ fun M ν w vs hf hv => ?_
  obtain ⟨x, y, rfl, h1, h2⟩ := reps2 hv
  rw [rep_S] at h1 h2
  subst h1 h2
  refine Calls.mono (Any.strings_HasPrefix Tryd.hasPrefixL ⟨s.toArray⟩ ⟨p.toArray⟩ w) ?_
  rintro e w' ⟨rfl, rfl⟩
  exact ⟨_, rfl, by simp only [T.rep, Cell.rep, C.rep], Below.refl _ _⟩
theorem trimPrefix_c (s p : List UInt8) : PC Tryd.prog 82 [S s, S p] (S (Lib.trimPrefix s p)) := by
  refine PC.native ⟨_, Tryd.func82, by decide, rfl⟩ fun M ν w vs hf hv => ?_
  obtain ⟨x, y, rfl, h1, h2⟩ := reps2 hv
  rw [rep_S] at h1 h2
  subst h1 h2
  refine Calls.mono (Any.strings_TrimPrefix Tryd.trimPrefixL ⟨s.toArray⟩ ⟨p.toArray⟩ w) ?_
  rintro e w' ⟨rfl, rfl⟩
  exact ⟨_, rfl, by simp only [T.rep, Cell.rep, C.rep], Below.refl _ _⟩
theorem cut_c (s p : List UInt8) (hs : s.length ≤ 1000000000) : PC Tryd.prog 85 [S s, S p] (.tup [S (Lib.cut s p).1, S (Lib.cut s p).2.1, Bo (Lib.cut s p).2.2]) := by
  refine PC.native ⟨_, Tryd.func85, by decide, rfl⟩ fun M ν w vs hf hv => ?_
  obtain ⟨x, y, rfl, h1, h2⟩ := reps2 hv
  rw [rep_S] at h1 h2
  subst h1 h2
  obtain ⟨m, hm⟩ := M.glo.2.1
  refine Calls.mono (Any.strings_Cut Tryd.cutL ⟨s.toArray⟩ ⟨p.toArray⟩ m w (by show s.toArray.size < _; simp; omega) (cell_of_At hf hm)) ?_
  rintro e w' ⟨rfl, n, rfl⟩
  refine ⟨_, rfl, ?_, ⟨rfl, rfl, rfl, Nat.le_refl _, fun _ _ => rfl⟩⟩
  simp only [T.rep, T.reps, Cell.rep, C.rep]
  exact ⟨_, rfl, _, _, rfl, rfl, _, _, rfl, rfl, _, _, rfl, rfl, rfl⟩
/-- what ParseInt gives -/
def piT (s : List UInt8) : T := match Lib.parseIntB 64 s with
  | .ok v => .tup [I .i64 v, Er false]
  | .range => .tup [I .i64 (Lib.intSat 64 s), Er true]
  | _ => .tup [I .i64 0, Er true]
theorem err_at {M : Mem} {w : World} (hf : ∀ b o, M b = some o → w.heap[b]? = some o) {g : Nat} (hg : gl.lookup g = some [.err true]) : ∃ te pe, w.cell? ⟨g, 0, none⟩ = some (.iface te pe) := by
  obtain ⟨vs, h1, h2⟩ := M.glo.1 g _ hg
  simp only [repRow, C.rep, cond_true] at h2
  obtain ⟨v, vs', rfl, ⟨te, pe, rfl⟩, rfl⟩ := h2
  exact ⟨te, pe, cell_of_At hf h1⟩
theorem parseInt_c (s : List UInt8) (hs : s.length ≤ 1000000000) : PC Tryd.prog 83 [S s, I .i64 10, I .i64 64] (piT s) := by
  refine PC.native ⟨_, Tryd.func83, by decide, rfl⟩ fun M ν w vs hf hv => ?_
  obtain ⟨x, y, z, rfl, h1, h2, h3⟩ := reps3 hv
  rw [rep_S] at h1
  simp only [T.rep, Cell.rep, C.rep] at h2 h3
  subst h1 h2 h3
  obtain ⟨t4, p4, e4⟩ := err_at (g := 4) hf rfl
  obtain ⟨t5, p5, e5⟩ := err_at (g := 5) hf rfl
  have hsz : ∀ n : Nat, 1000000000 ≤ n → (ByteArray.mk s.toArray).size ≤ n := fun n hn => by show s.toArray.size ≤ _; simp; omega
  unfold piT
  cases hp : Lib.parseIntB 64 s with
  | ok v =>
    refine Calls.mono (Any.strconv_ParseInt_10_at64_ok Tryd.parseIntL ⟨s.toArray⟩ (hsz _ (by decide)) v hp w) ?_
    rintro e w' ⟨rfl, hw⟩
    refine ⟨_, rfl, ?_, ?_⟩
    · simp only [T.rep, T.reps, Cell.rep, C.rep, cond_false]
      exact ⟨_, rfl, _, _, rfl, rfl, _, _, rfl, rfl, rfl⟩
    · rcases hw with rfl | ⟨t, rfl⟩
      · exact Below.refl _ _
      · exact Lib.bytesWorld_below _ _ _
  | range =>
    refine Calls.mono (Any.strconv_ParseInt_10_at64_range Tryd.parseIntL ⟨s.toArray⟩ (hsz _ (by decide)) hp _ w e5 (.inr ⟨_, _, rfl⟩)) ?_
    rintro e w' ⟨N, rfl, _, _, hb⟩
    refine ⟨_, rfl, ?_, hb⟩
    simp only [T.rep, T.reps, Cell.rep, C.rep, cond_true]
    exact ⟨_, rfl, _, _, rfl, rfl, _, _, rfl, ⟨_, _, rfl⟩, rfl⟩
  | _ =>
    refine Calls.mono (Any.strconv_ParseInt_10_at64_syntax Tryd.parseIntL ⟨s.toArray⟩ (hsz _ (by decide)) hp _ w e4 (.inr ⟨_, _, rfl⟩)) ?_
    rintro e w' ⟨N, rfl, _, _, hb⟩
    refine ⟨_, rfl, ?_, hb⟩
    simp only [T.rep, T.reps, Cell.rep, C.rep, cond_true]
    exact ⟨_, rfl, _, _, rfl, rfl, _, _, rfl, ⟨_, _, rfl⟩, rfl⟩
end Go.Proofs.YtogponhonjiidaaDoor
