/- A part of the proof: lemmas about the walk of the program and about plain integers and lists. No conditions beyond those that each lemma states. -/
import Derived.Test.YtmpfdejckbceiaaOp11
import Derived.Test.YtmpfdejckbceiaaOp8
/-! A region that draws its order and holds operations that make or turn boxes: one walk in the order of the text serves every order, where those operations wait for each other and what they name is not met by whoever does not wait for them. -/
set_option linter.unusedVariables false
set_option linter.unusedSimpArgs false
namespace Go.Sx
variable {P : Program} {n : Nat} {σ : AS} {Q : Exit → AS → Prop}

/-- the later operation waits for the earlier one -/
def depB (l : List Oper) (k g : Nat) : Bool := ((maskAll l)[k]?.getD 0).testBit g
theorem dep_of {l : List Oper} {k g : Nat} {o : Oper} (h : depB l k g = true) (ho : l[k]? = some o) {listed : Array Bool} (hc : Closed l listed) (hr : ∀ e ∈ o.after, Region.binds .any e = true → listed.getD e.on false = true) : listed.getD g false = true := by
  unfold depB at h
  cases hm : (maskAll l)[k]? with
  | none => rw [hm] at h; simp at h
  | some m =>
    rw [hm] at h
    exact maskAll_ok l k m hm listed hc (fun o' ho' e he hb => by rw [ho] at ho'; cases ho'; exact hr e he hb) g h

/-- what the walk found of one operation; j: the name that it makes -/
def OSpecG (P : Program) (n : Nat) (all : List Oper) (fixB : Bx) (o : Oper) (env : Env) (b : Bx) (t : T) (b' : Bx) (e : Bool) (j : Option Nat) : Prop :=
  dstOk n o = true ∧
  ((guardT all env o True False ∧ ((e = false ∧ j = none ∧ OpP P o env fixB t ∧ b' = b) ∨ (e = true ∧ j = none ∧ OpE P o env b t b') ∨ (∃ k, e = true ∧ j = some k ∧ OpG P o env b k t b' ∧ k < pin ∧ Env.fresh k env = true))) ∨
   (guardT all env o False True ∧ t = undefT ∧ b' = b ∧ e = false ∧ j = none))

def EffOrdG (l : List Oper) (e : Nat → Bool) : Prop := ∀ i k, i < k → k < l.length → e i = true → e k = true → depB l k i = true

theorem envA_fresh {l : List Oper} {t : Nat → T} {env0 : Env} {j : Nat} {X : Nat → Bool} (h0 : Env.fresh j env0 = true) : ∀ m, (∀ i, i < m → X i = true → (t i).fresh j = true) → Env.fresh j (envA l t X env0 m) = true
  | 0, _ => h0
  | m + 1, h => by
    have ih := envA_fresh (l := l) (t := t) (X := X) h0 m (fun i hi hx => h i (by omega) hx)
    rw [envA]
    cases hx : X m with
    | false => exact ih
    | true =>
      simp only [cond_true]
      cases (l[m]?).bind (·.dst) with
      | none => exact ih
      | some d => simp only [putE, Env.fresh, Bool.and_eq_true]; exact ⟨h m (by omega) hx, ih⟩
theorem fresh_envA {l : List Oper} {t : Nat → T} {env0 : Env} {j : Nat} : ∀ m, Env.fresh j (envA l t (fun _ => true) env0 m) = true → Env.fresh j env0 = true ∧ ∀ i, i < m → (∃ d, (l[i]?).bind (·.dst) = some d) → (t i).fresh j = true
  | 0, h => ⟨h, fun i hi => by omega⟩
  | m + 1, h => by
    rw [envA] at h
    simp only [cond_true] at h
    cases hd : (l[m]?).bind (·.dst) with
    | none =>
      rw [hd] at h
      obtain ⟨h1, h2⟩ := fresh_envA m h
      refine ⟨h1, fun i hi hx => ?_⟩
      by_cases him : i = m
      · subst him; obtain ⟨d, hx⟩ := hx; rw [hd] at hx; cases hx
      · exact h2 i (by omega) hx
    | some d =>
      rw [hd] at h
      simp only [putE, Env.fresh, Bool.and_eq_true] at h
      obtain ⟨h1, h2⟩ := fresh_envA m h.2
      refine ⟨h1, fun i hi hx => ?_⟩
      by_cases him : i = m
      · subst him; exact h.1
      · exact h2 i (by omega) hx
theorem envA_fresh' {l : List Oper} {t : Nat → T} {env0 : Env} {j : Nat} {X : Nat → Bool} (h0 : Env.fresh j env0 = true) : ∀ m, (∀ i, i < m → X i = true → (∃ d, (l[i]?).bind (·.dst) = some d) → (t i).fresh j = true) → Env.fresh j (envA l t X env0 m) = true
  | 0, _ => h0
  | m + 1, h => by
    have ih := envA_fresh' (l := l) (t := t) (X := X) h0 m (fun i hi hx => h i (by omega) hx)
    rw [envA]
    cases hx : X m with
    | false => exact ih
    | true =>
      simp only [cond_true]
      cases hd : (l[m]?).bind (·.dst) with
      | none => exact ih
      | some d => simp only [putE, Env.fresh, Bool.and_eq_true]; exact ⟨h m (by omega) hx ⟨d, hd⟩, ih⟩

theorem gen_sound {κ : Kap} {M0 : Mem} {l : List Oper} {fixB : Bx} {t : Nat → T} {b : Nat → Bx} {e : Nat → Bool} {jn : Nat → Option Nat} {env0 : Env} {Q' : Exit → Act → World → Prop}
    (hback : Back l) (hpairs : Pairs l) (hord : EffOrdG l e)
    (hs : ∀ i o, l[i]? = some o → OSpecG P n l fixB o (envA l t (fun _ => true) env0 i) (b i) (t i) (b (i + 1)) (e i) (jn i)) (hf : ∀ i, i ≤ l.length → ∀ x ∈ fixB, x ∈ b i)
    (hfr : ∀ g k j, jn g = some j → g < k → k < l.length → (t k).fresh j = true ∨ depB l k g = true)
    (hQ : ∀ a w, St κ M0 n ⟨envA l t (fun _ => true) env0 l.length, b l.length⟩ a w → Q' .normal a w) :
    ∀ (fuel : Nat) (listed : Array Bool) (a : Act) (w : World), cnt l listed = fuel → Mid κ M0 n l t b e env0 listed a w →
      wpAny P .any l.toArray Q' fuel listed a w := by
  have hbc : ∀ i, i < l.length → e i = false → b (i + 1) = b i := by
    intro i hi he
    rcases (hs i l[i] (by simp [hi])).2 with ⟨_, ⟨_, _, _, h⟩ | ⟨h, _⟩ | ⟨_, h, _⟩⟩ | ⟨_, _, h, _⟩
    · exact h
    · rw [he] at h; cases h
    · rw [he] at h; cases h
    · exact h
  have done : ∀ (listed : Array Bool) (a : Act) (w : World), Mid κ M0 n l t b e env0 listed a w → (∀ i, i < l.length → listed.getD i false = true) → Q' .normal a w := by
    intro listed a w hm hall
    obtain ⟨M, ν, m, h1, h2, h3, h4, h5, h6, h7, h8⟩ := hm.st
    refine hQ a w ⟨M, ν, h1, h2, h3, ?_, ?_⟩
    · intro d u hu
      refine h4 d u ?_
      rw [envA_same l t (xs listed) (fun _ => true) env0 d l.length (fun j o hj _ _ => hall j hj)]
      exact hu
    · have : b l.length = b m := const_b hbc m l.length h5 (Nat.le_refl _) (fun j hj1 hj2 => by
        cases hj : e j with
        | false => rfl
        | true => have := (h6 j hj2 hj).1 (hall j hj2); omega)
      simp only [this]
      exact ⟨h7, h8⟩
  have hord' : ∀ listed : Array Bool, Closed l listed → ∀ i j, i < j → j < l.length → e i = true → e j = true → listed.getD j false = true → listed.getD i false = true := by
    intro listed hc i j hij hj hei hej hx
    exact dep_of (hord i j hij hj hei hej) (List.getElem?_eq_getElem hj) hc (fun e' he' hb' => hc j l[j] (List.getElem?_eq_getElem hj) hx e' he' hb')
  intro fuel
  induction fuel with
  | zero =>
    intro listed a w hfuel hm
    have hall := cnt_zero hfuel
    exact ⟨ready_none hm.size hall, done listed a w hm hall⟩
  | succ fuel ih =>
    intro listed a w hfuel hm
    refine ⟨fun hr => done listed a w hm (ready_least hback hm.size hr), fun i hi => ?_⟩
    obtain ⟨h0, oi, hoi, hall⟩ := mem_ready.1 hi
    have hil : i < l.length := by have := (Array.getElem?_eq_some_iff.1 hoi).1; simpa using this
    have hoi' : l[i]? = some oi := by simpa using hoi
    have hisz : i < listed.size := by rw [hm.size]; exact hil
    have hxi : listed.getD i false = false := by simp [hisz] at h0 ⊢; exact h0
    obtain ⟨M, ν, m, h1, h2, h3, h4, h5, h6, h7, h8⟩ := hm.st
    obtain ⟨hd, hspec⟩ := hs i oi hoi'
    have look : ∀ d, d ∈ oi.looksAt l.toArray → (envA l t (xs listed) env0 l.length).lookup d = (envA l t (fun _ => true) env0 i).lookup d := by
      intro d hdm
      rw [envA_skip l t (xs listed) env0 d i l.length (by omega) ?_, envA_same l t (xs listed) (fun _ => true) env0 d i ?_]
      · intro j o hj ho hod
        rcases hpairs j i o oi hj ho hoi' with ⟨e', he', hb', hon⟩ | hap
        · exact hon ▸ hall e' he' hb'
        · exact absurd hdm ((Oper.apart_spec hap).1 d hod)
      · intro j o hj hjl ho hod
        by_cases hji : i = j
        · subst hji; exact hxi
        · cases hxj : xs listed j with
          | false => rfl
          | true =>
            rcases hpairs i j oi o (by omega) hoi' ho with ⟨e', he', hb', hon⟩ | hap
            · have := hm.closed j o ho hxj e' he' hb'
              rw [hon, hxi] at this; cases this
            · exact absurd hdm ((Oper.apart_spec hap).2.2 d hod)
    have hclosed : Closed l (listed.setIfInBounds i true) := by
      intro j oj hj hx e' he' hb'
      by_cases hji : i = j
      · subst hji
        rw [hoi'] at hj; cases hj
        exact getD_set_true (hall e' he' hb')
      · rw [getD_set_ne false hji] at hx
        exact getD_set_true (hm.closed j oj hj hx e' he' hb')
    have hcount : cnt l (listed.setIfInBounds i true) = fuel := by
      have := cnt_set hm.size hil hxi; omega
    have after : ∀ (M' : Mem) (ν' : Nu) (v : Value) (w' : World) (m' : Nat), M.ext κ M' → EnvOk M ν' a.tmps (envA l t (xs listed) env0 l.length) → (t i).rep M' ν' v → m' ≤ l.length →
        (∀ j, j < l.length → e j = true → ((listed.setIfInBounds i true).getD j false = true ↔ j < m')) → Sat κ M' ν' (b m') w' → (∀ k, pin ≤ k → ν' k = κ.nu k) →
        Mid κ M0 n l t b e env0 (listed.setIfInBounds i true) (a.put oi.dst v) w' := by
      intro M' ν' v w' m' hle h4 hr hm' hem hsat hpin
      refine ⟨by simpa using hm.size, hclosed, M', ν', m', h1.trans hle, by rw [Act.put_size]; exact h2, by rw [Act.put_defers']; exact h3, ?_, hm', hem, hsat, hpin⟩
      have hput := EnvOk.put (df := a.defers) (h4.mono hle.1) (dst := oi.dst) (v := v) (t := t i) (fun d he => by rw [h2]; exact dstOk_spec hd d he) hr
      intro k u hu
      refine hput k u ?_
      rw [putE_lookup]
      by_cases hk : oi.dst = some k
      · rw [if_pos hk]
        have e1 := envA_skip l t (xs (listed.setIfInBounds i true)) env0 k (i + 1) l.length (by omega) (fun j o hj hjl ho hod => by
          cases hxj : xs (listed.setIfInBounds i true) j with
          | false => rfl
          | true =>
            have hne : i ≠ j := by omega
            have hxj' : listed.getD j false = true := by rw [← getD_set_ne false hne]; exact hxj
            rcases hpairs i j oi o (by omega) hoi' ho with ⟨e', he', hb', hon⟩ | hap
            · have := hm.closed j o ho hxj' e' he' hb'
              rw [hon, hxi] at this; cases this
            · exact absurd hod ((Oper.apart_spec hap).2.1 k hk))
        rw [e1] at hu
        have hself : xs (listed.setIfInBounds i true) i = true := by simp [xs, hisz]
        rw [envA, hself] at hu
        simp only [cond_true, putE_lookup, hoi', Option.bind_some, hk, if_true] at hu
        exact hu
      · rw [if_neg hk]
        have e2 := envA_same l t (xs (listed.setIfInBounds i true)) (xs listed) env0 k l.length (fun j o hj ho hod => by
          have hne : i ≠ j := fun h => by subst h; rw [hoi'] at ho; cases ho; exact hk hod
          exact getD_set_ne false hne)
        rw [← e2]; exact hu
    have hon : EnvOn M ν a (envA l t (fun _ => true) env0 i) oi := by
      intro d u hdo hu
      refine h4 d u ?_
      rw [look d (looksAt_op hdo)]; exact hu
    have hgd : ∀ g want d u, oi.guard = some (g, want) → (l[g]?).bind (·.dst) = some d → (envA l t (fun _ => true) env0 i).lookup d = some u → u.rep M ν (a.tmps.getD d undef) := by
      intro g want d u hg hgd hu
      refine h4 d u ?_
      rw [look d (looksAt_guard hg hgd)]; exact hu
    have samem : e i = false → ∀ j, j < l.length → e j = true → ((listed.setIfInBounds i true).getD j false = true ↔ j < m) := by
      intro hei j hj hej
      have hne : i ≠ j := fun h => by subst h; rw [hei] at hej; cases hej
      rw [getD_set_ne false hne]; exact h6 j hj hej
    -- what an operation that turns boxes finds and leaves
    have effm : e i = true → b i = b m ∧ ∀ j, j < l.length → e j = true → ((listed.setIfInBounds i true).getD j false = true ↔ j < i + 1) := by
      intro hei
      have hmi : m ≤ i := by
        rcases Nat.lt_or_ge i m with h | h
        · have := (h6 i hil hei).2 h; rw [hxi] at this; cases this
        · exact h
      have prev : ∀ j, j < i → e j = true → listed.getD j false = true := by
        intro j hj hej
        have hself : (listed.setIfInBounds i true).getD i false = true := by simp [hisz]
        have := hord' _ hclosed j i hj hil hej hei hself
        rwa [getD_set_ne false (by omega)] at this
      refine ⟨const_b hbc m i hmi (by omega) (fun j hj1 hj2 => by
        cases hj : e j with
        | false => rfl
        | true => have := (h6 j (by omega) hj).1 (prev j hj2 hj); omega), fun j hj hej => ?_⟩
      by_cases hji : i = j
      · subst hji; simp [hisz]
      · rw [getD_set_ne false hji]
        constructor
        · intro hx
          rcases Nat.lt_or_ge i j with h | h
          · have := hord' _ hm.closed i j h hj hei hej hx
            rw [hxi] at this; cases this
          · omega
        · intro hx
          exact prev j (by omega) hej
    unfold wpOp
    rw [hoi]
    simp only []
    rcases hspec with ⟨hg, ⟨hei, hjn, hop, hbb⟩ | ⟨hei, hjn, hop⟩ | ⟨k, hei, hjn, hop, hkp, hfk⟩⟩ | ⟨hg, ht, hbb, hei, hjn⟩
    · rw [if_pos (wanted_of hg hgd)]
      left
      refine Oper.wp_mono_Q (Oper.wp_mono ?_ (hop κ M ν a w (b m) (hf m h5) hon h7))
      rintro a' w' ⟨v, M', rfl, hle, hr, hsat⟩
      exact ih _ _ _ hcount (after M' ν v w' m hle h4 hr h5 (samem hei) hsat h8)
    · rw [if_pos (wanted_of hg hgd)]
      left
      obtain ⟨hbm, hem⟩ := effm hei
      refine Oper.wp_mono_Q (Oper.wp_mono ?_ (hop κ M ν a w hon (by rw [hbm]; exact h7)))
      rintro a' w' ⟨v, M', rfl, hle, hr, hsat⟩
      exact ih _ _ _ hcount (after M' ν v w' (i + 1) hle h4 hr hil hem hsat h8)
    · rw [if_pos (wanted_of hg hgd)]
      left
      obtain ⟨hbm, hem⟩ := effm hei
      refine Oper.wp_mono_Q (Oper.wp_mono ?_ (hop κ M ν a w hon (by rw [hbm]; exact h7)))
      rintro a' w' ⟨v, M', ν', rfl, hle, hν, hr, hsat⟩
      obtain ⟨hf0, hft⟩ := fresh_envA i hfk
      have hfresh : Env.fresh k (envA l t (xs listed) env0 l.length) = true := by
        refine envA_fresh' hf0 l.length (fun q hq hx hdq => ?_)
        rcases Nat.lt_trichotomy q i with h | h | h
        · exact hft q h hdq
        · subst h; unfold xs at hx; rw [hxi] at hx; cases hx
        · rcases hfr i q k hjn h hq with h' | h'
          · exact h'
          · exfalso
            have := dep_of h' (List.getElem?_eq_getElem hq) hm.closed (fun e' he' hb' => hm.closed q l[q] (List.getElem?_eq_getElem hq) hx e' he' hb')
            rw [hxi] at this; cases this
      exact ih _ _ _ hcount (after M' ν' v w' (i + 1) hle (h4.fresh hfresh hν) hr hil hem hsat (fun q hq => by rw [hν q (by omega)]; exact h8 q hq))
    · rw [unwanted_of hg hgd]
      simp only [Bool.false_eq_true, if_false]
      refine ih _ _ _ hcount (after M ν undef w m (Mem.ext.refl κ M) h4 (by rw [ht]; simp [undefT, T.rep, Cell.rep, C.rep]) h5 (samem hei) h7 h8)

def bxSub (B : Bx) : Bx → Prop
  | [] => True
  | p :: B' => B.lookup p.1 = some p.2 ∧ bxSub B B'
theorem bxSub_spec {B : Bx} : ∀ {B' : Bx}, bxSub B B' → ∀ x ∈ B', x ∈ B
  | p :: B', h, x, hm => by
    rcases List.mem_cons.1 hm with rfl | hm
    · exact lookup_box h.1
    · exact bxSub_spec h.2 x hm
/-! ### what is to be shown -/
def memN (i : Nat) : List Nat → Bool
  | [] => false
  | k :: ks => (i == k) || memN i ks
/-- the names made so far, each with the operation that made it: whoever does not wait for it does not meet it -/
def FreshOr (all : List Oper) (k : Nat) (t : T) : List (Nat × Nat) → Prop
  | [] => True
  | (g, j) :: gs => (t.fresh j = true ∨ depB all k g = true) ∧ FreshOr all k t gs
/-- does the operation make a name? -/
def makes (o : Oper) : Bool :=
  match o.op with
  | .alloc _ => true
  | .box _ _ => true
  | .buildSlice _ _ _ => true
  | .call { callee := .builtin .append, args := _, argTypes := _ } => true
  | _ => false
def gsNext (i : Nat) (o : Oper) (gs : List (Nat × Nat)) : List (Nat × Nat) := bif makes o then (i, dstN o) :: gs else gs

def genVC (P : Program) (all : List Oper) (es : List Nat) (fixB : Bx) : Nat → List (Nat × Nat) → List Oper → Env → Bx → (Env → Bx → Prop) → Prop
  | _, _, [], env, B, K => K env B
  | i, gs, o :: os, env, B, K => guardT all env o
      (bif memN i es then effVC P o env B fun t B' => bxSub B' fixB ∧ FreshOr all i t gs ∧ genVC P all es fixB (i + 1) (gsNext i o gs) os (putE env o.dst t) B' K
       else pureVC P o env fixB fun t => FreshOr all i t gs ∧ genVC P all es fixB (i + 1) gs os (putE env o.dst t) B K)
      (genVC P all es fixB (i + 1) gs os (putE env o.dst undefT) B K)

theorem FreshOr_spec {all : List Oper} {k : Nat} {t : T} : ∀ {gs : List (Nat × Nat)}, FreshOr all k t gs → ∀ p ∈ gs, t.fresh p.2 = true ∨ depB all k p.1 = true
  | q :: gs, h, p, hm => by
    rcases List.mem_cons.1 hm with rfl | hm
    · exact h.1
    · exact FreshOr_spec h.2 p hm
theorem FreshOr_un {all : List Oper} {k : Nat} : ∀ gs : List (Nat × Nat), FreshOr all k undefT gs
  | [] => trivial
  | (g, j) :: gs => ⟨.inl rfl, FreshOr_un gs⟩

/-- effVC tells which kind it was -/
theorem effVC_makes {o : Oper} {env : Env} {B : Bx} {K : T → Bx → Prop} (h : effVC P o env B K) :
    (∃ t, OpP P o env B t ∧ K t B) ∨ (∃ t B', OpE P o env B t B' ∧ K t B') ∨ (makes o = true ∧ ∃ t B', OpG P o env B (dstN o) t B' ∧ Env.fresh (dstN o) env = true ∧ K t B') := by
  unfold effVC at h
  split at h
  · rename_i e ho; exact .inr (.inr ⟨by simp only [makes, ho], vAlloc_sound ho h⟩)
  · rename_i e x ho; exact .inr (.inr ⟨by simp only [makes, ho], vBox_sound ho h⟩)
  · rename_i t x y ho
    obtain ⟨B', h1, h2⟩ := vStore_sound ho h
    exact .inr (.inl ⟨_, B', h1, h2⟩)
  · rename_i s x t1 t2 ho; exact .inr (.inr ⟨by simp only [makes, ho], vAppend_sound ho h⟩)
  · rename_i f args ts ho
    split at h
    · rename_i g caps us hf hu
      cases hp : T.anyPtr (us ++ caps) with
      | true =>
        rw [hp] at h
        obtain ⟨u, B', h1, _, h2⟩ := vCall1_sound (args := args.toList) (by rw [ho]) hf hu h
        exact .inr (.inl ⟨u, B', h1, h2⟩)
      | false =>
        rw [hp] at h
        simp only [cond_false] at h
        unfold vCallE at h
        split at h
        · exact .inl (vCall_sound (ty := 0) (args := args.toList) (by rw [ho]) (K := fun t => K t B) (by unfold vCall; rw [hf, hu]; exact h))
        · rcases h with h | h
          · exact .inr (.inl (vCallZ_sound (args := args.toList) (by rw [ho]) hf hu h))
          · obtain ⟨u, B', h1, _, h2⟩ := vCall1_sound (args := args.toList) (by rw [ho]) hf hu h
            exact .inr (.inl ⟨u, B', h1, h2⟩)
    · exact h.elim
  · rename_i t len parts ho
    rcases h with h | h
    · exact .inl (vBuildSlice_sound (parts := parts.toList) (by rw [ho]) h)
    · exact .inr (.inr ⟨by simp only [makes, ho], vBuildOwn_sound (parts := parts.toList) (by rw [ho]) h⟩)
  · exact .inl (pureVC_sound h)

theorem gen_trace (all : List Oper) (es : List Nat) (fixB : Bx) (K : Env → Bx → Prop) : ∀ (l : List Oper) (i0 : Nat) (gs : List (Nat × Nat)) (env : Env) (B : Bx), dstsOk n l = true → (∀ x ∈ fixB, x ∈ B) → genVC P all es fixB i0 gs l env B K →
    ∃ (t : Nat → T) (b : Nat → Bx) (e : Nat → Bool) (jn : Nat → Option Nat), b 0 = B ∧ (∀ i o, l[i]? = some o → OSpecG P n all fixB o (envA l t (fun _ => true) env i) (b i) (t i) (b (i + 1)) (e i) (jn i)) ∧
      (∀ i, i ≤ l.length → ∀ x ∈ fixB, x ∈ b i) ∧ (∀ i, e i = true → memN (i0 + i) es = true) ∧ (∀ i, i < l.length → FreshOr all (i0 + i) (t i) gs) ∧
      (∀ g k j, jn g = some j → g < k → k < l.length → (t k).fresh j = true ∨ depB all (i0 + k) (i0 + g) = true) ∧ K (envA l t (fun _ => true) env l.length) (b l.length)
  | [], i0, gs, env, B, _, hB, h => ⟨fun _ => undefT, fun _ => B, fun _ => false, fun _ => none, rfl, fun i o ho => by simp at ho, fun i _ => hB, fun i h => (by cases h), fun i hi => by simp at hi, fun _ _ _ h => (by cases h), h⟩
  | o :: os, i0, gs, env, B, hd, hB, h => by
    simp only [dstsOk, List.all_cons, Bool.and_eq_true] at hd
    obtain ⟨⟨hd1, hd2⟩, hd3⟩ := hd
    have step : ∃ (t0 : T) (B' : Bx) (e0 : Bool) (j0 : Option Nat) (gs' : List (Nat × Nat)), OSpecG P n all fixB o env B t0 B' e0 j0 ∧ (∀ x ∈ fixB, x ∈ B') ∧ (e0 = true → memN i0 es = true) ∧ FreshOr all i0 t0 gs ∧
        (∀ p ∈ gs, p ∈ gs') ∧ (∀ j, j0 = some j → (i0, j) ∈ gs') ∧ genVC P all es fixB (i0 + 1) gs' os (putE env o.dst t0) B' K := by
      rcases guardT_true h with ⟨hg, hx⟩ | ⟨hg, hx⟩
      · cases hm : memN i0 es with
        | true =>
          rw [hm] at hx
          simp only [cond_true] at hx
          have sub : ∀ p ∈ gs, p ∈ gsNext i0 o gs := fun p hp => by unfold gsNext; cases makes o <;> simp [hp]
          rcases effVC_makes hx with ⟨t, hop, h1, h2, h3⟩ | ⟨t, B', hop, h1, h2, h3⟩ | ⟨hmk, t, B', hop, hfr, h1, h2, h3⟩
          · refine ⟨t, B, true, none, _, ⟨hd1, .inl ⟨hg, .inr (.inl ⟨rfl, rfl, hop.e⟩)⟩⟩, hB, fun _ => rfl, h2, sub, fun j hj => (by cases hj), h3⟩
          · exact ⟨t, B', true, none, _, ⟨hd1, .inl ⟨hg, .inr (.inl ⟨rfl, rfl, hop⟩)⟩⟩, bxSub_spec h1, fun _ => rfl, h2, sub, fun j hj => (by cases hj), h3⟩
          · refine ⟨t, B', true, some (dstN o), _, ⟨hd1, .inl ⟨hg, .inr (.inr ⟨dstN o, rfl, rfl, hop, Nat.le_of_ble_eq_true hd2, hfr⟩)⟩⟩, bxSub_spec h1, fun _ => rfl, h2, sub, fun j hj => ?_, h3⟩
            cases hj
            unfold gsNext; rw [hmk]; simp
        | false =>
          rw [hm] at hx
          simp only [cond_false] at hx
          obtain ⟨t, hop, h2, h3⟩ := pureVC_sound hx
          exact ⟨t, B, false, none, gs, ⟨hd1, .inl ⟨hg, .inl ⟨rfl, rfl, hop, rfl⟩⟩⟩, hB, fun h => (by cases h), h2, fun _ h => h, fun j hj => (by cases hj), h3⟩
      · exact ⟨undefT, B, false, none, gs, ⟨hd1, .inr ⟨hg, rfl, rfl, rfl, rfl⟩⟩, hB, fun h => (by cases h), FreshOr_un gs, fun _ h => h, fun j hj => (by cases hj), hx⟩
    obtain ⟨t0, B', e0, j0, gs', hspec, hfix, he0, hfr0, hsub, hj0, hk⟩ := step
    obtain ⟨t, b, e, jn, hb0, hs, hf, he, hfr, hjj, hK⟩ := gen_trace all es fixB K os (i0 + 1) gs' _ B' hd3 hfix hk
    refine ⟨fun i => match i with | 0 => t0 | i + 1 => t i, fun i => match i with | 0 => B | i + 1 => b i, fun i => match i with | 0 => e0 | i + 1 => e i, fun i => match i with | 0 => j0 | i + 1 => jn i, rfl, ?_, ?_, ?_, ?_, ?_, ?_⟩
    · intro i o' ho
      cases i with
      | zero => simp at ho; subst ho; rw [← hb0] at hspec; exact hspec
      | succ i =>
        rw [envA_cons]
        exact hs i o' (by simpa using ho)
    · intro i hi
      cases i with
      | zero => exact hB
      | succ i => exact hf i (by simpa using hi)
    · intro i hi
      cases i with
      | zero => exact he0 hi
      | succ i => have := he i hi; rwa [show i0 + 1 + i = i0 + (i + 1) by omega] at this
    · intro i hi
      cases i with
      | zero => exact hfr0
      | succ i =>
        have := hfr i (by simpa using hi)
        rw [show i0 + 1 + i = i0 + (i + 1) by omega] at this
        exact FreshOr_sub hsub this
    · intro g k j hg hgk hk'
      cases k with
      | zero => omega
      | succ k =>
        cases g with
        | zero =>
          have := FreshOr_spec (hfr k (by simpa using hk')) (i0, j) (hj0 j hg)
          rwa [show i0 + 1 + k = i0 + (k + 1) by omega] at this
        | succ g =>
          have := hjj g k j hg (by omega) (by simpa using hk')
          rwa [show i0 + 1 + k = i0 + (k + 1) by omega, show i0 + 1 + g = i0 + (g + 1) by omega] at this
    · rw [List.length_cons, envA_cons]; exact hK
where
  FreshOr_sub {all : List Oper} {k : Nat} {t : T} {gs gs' : List (Nat × Nat)} (h : ∀ p ∈ gs, p ∈ gs') (hf : FreshOr all k t gs') : FreshOr all k t gs := by
    induction gs with
    | nil => trivial
    | cons p gs ih =>
      obtain ⟨g, j⟩ := p
      exact ⟨FreshOr_spec hf (g, j) (h _ (by simp)), ih (fun p hp => h p (List.mem_cons_of_mem _ hp))⟩

/-- of two of these the later waits for the earlier -/
def esOk (l : List Oper) : List Nat → Bool
  | [] => true
  | i :: es => es.all (fun k => (Nat.blt i k && depB l k i) || (Nat.blt k i && depB l i k) || i == k) && esOk l es
theorem memN_spec {i : Nat} : ∀ {es : List Nat}, memN i es = true → i ∈ es
  | k :: es, h => by
    simp only [memN, Bool.or_eq_true, beq_iff_eq] at h
    rcases h with h | h
    · subst h; simp
    · exact List.mem_cons_of_mem _ (memN_spec h)
theorem esOk_spec {l : List Oper} : ∀ {es : List Nat}, esOk l es = true → ∀ i ∈ es, ∀ k ∈ es, i < k → depB l k i = true
  | q :: es, h, i, hi, k, hk, hik => by
    simp only [esOk, Bool.and_eq_true, List.all_eq_true, Bool.or_eq_true, beq_iff_eq] at h
    rcases List.mem_cons.1 hi with e1 | hi' <;> rcases List.mem_cons.1 hk with e2 | hk'
    · omega
    · subst e1; rcases h.1 k hk' with (⟨_, h⟩ | ⟨h, _⟩) | h
      · exact h
      · have : k < i := by simpa using h
        omega
      · omega
    · subst e2; rcases h.1 i hi' with (⟨h, _⟩ | ⟨_, h⟩) | h
      · have : k < i := by simpa using h
        omega
      · exact h
      · omega
    · exact esOk_spec h.2 i hi' k hk' hik

def genOk (n : Nat) (l : List Oper) (es : List Nat) : Bool := Region.lexB .any l.toArray && (dstsOk n l && esOk l es)
/-- the boxes of these names are left out -/
def Bx.outs (B : Bx) : List Nat → Bx
  | [] => B
  | k :: ks => Bx.outs (Bx.drop k B) ks
theorem Bx.outs_sub : ∀ {ks : List Nat} {B : Bx} {x : Nat × Res}, x ∈ Bx.outs B ks → x ∈ B
  | [], _, _, h => h
  | k :: ks, B, x, h => Bx.drop_sub (Bx.outs_sub (ks := ks) h)

/-- THE RULE: es: the operations that turn or make boxes; ks: the names of the boxes that they turn -/
theorem AWP.genR {id : Nat} {l : List Oper} {env : Env} {B : Bx} (es ks : List Nat) (hm : P.follows .mixedOrders = true) (hl : genOk n l es = true)
    (h : ∀ K : Env → Bx → Prop, (∀ e b, Q .normal ⟨e, b⟩ → K e b) → genVC P l es (Bx.outs B ks) 0 [] l env B K) : AWP P n (.region id l.toArray true) ⟨env, B⟩ Q := by
  simp only [genOk, Bool.and_eq_true] at hl
  intro κ M0 a w hs
  obtain ⟨hback, hpairs, _⟩ := lex_pairs hl.1
  obtain ⟨t, b, e, jn, hb0, hsp, hf, he, _, hjj, hK⟩ := gen_trace l es (Bx.outs B ks) _ l 0 [] env B hl.2.1 (fun x hx => Bx.outs_sub hx) (h (fun e b => Q .normal ⟨e, b⟩) (fun _ _ k => k))
  have hord : EffOrdG l e := fun i k hik hk hei hek => esOk_spec hl.2.2 i (memN_spec (by simpa using he i hei)) k (memN_spec (by simpa using he k hek)) hik
  refine wp_region_any hm ?_
  have hsz : l.toArray.size = l.length := by simp
  rw [hsz]
  have hrep : ∀ j, (Array.replicate l.length false).getD j false = false := fun j => rep_getD _ j
  refine gen_sound hback hpairs hord hsp hf (fun g k j hg hgk hk => by have := hjj g k j hg hgk hk; simpa using this) (fun a w s => ⟨_, s, hK⟩) l.length _ a _ ?_ (mid_start (σ := ⟨env, B⟩) hb0 hs)
  unfold cnt
  have hfil : (List.range l.length).filter (fun i => !(Array.replicate l.length false).getD i false) = List.range l.length := by
    rw [List.filter_eq_self]
    intro x _
    simp only [hrep x, Bool.not_false]
  rw [hfil, List.length_range]

/-! ### one operation at a time -/
theorem genVC_nil {all : List Oper} {es : List Nat} {fixB : Bx} {i : Nat} {gs : List (Nat × Nat)} {env : Env} {B : Bx} {K : Env → Bx → Prop} (h : K env B) : genVC P all es fixB i gs [] env B K := h
def genOpVC (P : Program) (all : List Oper) (es : List Nat) (fixB : Bx) (i : Nat) (gs : List (Nat × Nat)) (o : Oper) (env : Env) (B : Bx) (K' : List (Nat × Nat) → Env → Bx → Prop) : Prop :=
  bif memN i es then effVC P o env B fun t B' => bxSub B' fixB ∧ FreshOr all i t gs ∧ K' (gsNext i o gs) (putE env o.dst t) B'
  else pureVC P o env fixB fun t => FreshOr all i t gs ∧ K' gs (putE env o.dst t) B
theorem genVC_stepN {all os : List Oper} {es : List Nat} {fixB : Bx} {i : Nat} {gs : List (Nat × Nat)} {o : Oper} {env : Env} {B : Bx} {K : Env → Bx → Prop} (hg : o.guard = none)
    (h : ∀ K' : List (Nat × Nat) → Env → Bx → Prop, (∀ gs e b, genVC P all es fixB (i + 1) gs os e b K → K' gs e b) → genOpVC P all es fixB i gs o env B K') : genVC P all es fixB i gs (o :: os) env B K :=
  guardT_none hg (h (fun gs e b => genVC P all es fixB (i + 1) gs os e b K) fun _ _ _ q => q)
theorem genVC_stepG {all os : List Oper} {es : List Nat} {fixB : Bx} {i : Nat} {gs : List (Nat × Nat)} {o : Oper} {env : Env} {B : Bx} {K : Env → Bx → Prop} {j d : Nat} {want : Bool} (hg : o.guard = some (j, want)) (hd : (all[j]?).bind (·.dst) = some d)
    (h : ∀ K' : List (Nat × Nat) → Env → Bx → Prop, (∀ gs e b, genVC P all es fixB (i + 1) gs os e b K → K' gs e b) → guardE (env.lookup d) want (genOpVC P all es fixB i gs o env B K') (K' gs (putE env o.dst undefT) B)) : genVC P all es fixB i gs (o :: os) env B K :=
  guardT_some hg hd (h (fun gs e b => genVC P all es fixB (i + 1) gs os e b K) fun _ _ _ q => q)
end Go.Sx
/-! The walk's own rules of rewriting. -/
namespace Go.Sx
attribute [go_sem] true_or or_true false_or or_false genOpVC memN FreshOr gsNext makes bxSub Bx.outs
attribute [go_sem] parOpVC guardE effVC pureVC vMove vPick vInt vStr vBin vUn vLoad vFieldAddr vIndexAddr vIndex vField vExtract vSlice vNil vConv vBuild vParts vBuildSlice vRows vRowsH vLen vMinMax vCall vAlloc vBox vStore vAppend
attribute [go_sem] ev evs constT softO C.soft Cell.soft T.soft T.softs calleeT cutC mkAgg pureCs toCells lenIs bnd srcRows undefT putE Bx.put Bx.drop retTs retT envOf effCall notIn ptrName Bx.drop
attribute [go_sem] vBinE vCallE vCallZ vCallZ0 vFr ownIn ownCell T.frOk T.frOks Cell.frOk Cell.frOks T.fr T.frs Cell.fr Cell.frs lowN T.anyPtr T.hasPtr capsPtr Env.fresh Bx.fresh T.fresh T.freshs Cell.fresh Cell.freshs dstN Then InBlock RetQ ev0
attribute [go_sem] List.lookup_cons List.lookup_nil List.headD_cons List.tail_cons cond_true cond_false Option.bind_some Option.map_some Option.map_none List.map_cons List.map_nil
attribute [go_sem] List.toList_toArray Option.getD_some Option.getD_none beq_true beq_false Bool.and_true Bool.true_and Bool.not_true Bool.not_false Bool.or_false Bool.false_or Bool.or_true Bool.true_or Bool.and_false Bool.false_and
attribute [go_sem] List.getElem?_cons_zero List.getElem?_cons_succ List.cons_append List.nil_append List.append_nil Bool.not_not
attribute [go_sem] if_true if_false true_and and_true true_imp_iff false_imp_iff eq_self Int.toNat_zero Int.toNat_one Int.toNat_natCast Option.some.injEq exists_eq_left exists_eq_left' List.length_cons List.length_nil Int.cast_ofNat_Int Int.natCast_zero Int.natCast_one decide_true decide_false Nat.zero_add Nat.add_zero
@[go_sem] theorem takeT_agg (n : Nat) (cs : List Cell) (K : T → Prop) : takeT true n cs K = (match cutC n cs with
    | some (x, _) => K (mkAgg x)
    | none => False) := rfl
@[go_sem] theorem takeT_one (n : Nat) (c : Cell) (cs : List Cell) (K : T → Prop) : takeT false n (c :: cs) K = K (.one c) := rfl
@[go_sem] theorem takeP_agg (n : Nat) (cs : List C) (K : T → Prop) : takeP true n cs K = (match cutC n cs with
    | some (x, _) => K (.st x)
    | none => False) := rfl
@[go_sem] theorem takeP_one (n : Nat) (c : C) (cs : List C) (K : T → Prop) : takeP false n (c :: cs) K = K (.one (.dat c)) := rfl
theorem guard_c (b : Bool) (X Y : Prop) : (bif b then X else Y) ↔ ((b = true → X) ∧ (b = false → Y)) := by cases b <;> simp
attribute [go_sem low] guard_c
end Go.Sx
/-! The data of the program: keys, types, data, values; how they lie in cells. -/
namespace Go.Sx

structure KeyD where
  kind : Int
  text : List UInt8
  deriving DecidableEq
def encKey (k : KeyD) : List C := [.int .i64 k.kind, .str k.text]

structure FieldD where
  key : KeyD
  node : Int
  opt : Bool
  deriving DecidableEq
def encField (f : FieldD) : List C := [.int .i64 f.key.kind, .str f.key.text, .int .i64 f.node, .bool f.opt]

def encInt (n : Int) : List C := [.int .i64 n]
def encStr (l : List UInt8) : List C := [.str l]

structure NodeD where
  kind : Int
  lo : Int
  hi : Int
  text : List UInt8
  kids : List Int
  fields : List FieldD
  r0 : Int
  r1 : Int
  deriving DecidableEq
def encNode (n : NodeD) : List C := [.int .i64 n.kind, .int .i64 n.lo, .int .i64 n.hi, .str n.text, .sl 1 (n.kids.map encInt), .sl 4 (n.fields.map encField), .int .i64 n.r0, .int .i64 n.r1]

structure Dat where
  kind : Int
  num : Int
  text : List UInt8
  kids : List Dat
  keys : List KeyD
  mod : List UInt8
  version : Int
  routine : Int
  wrapped : Bool
  nodes : List NodeD
  root : Int
  inner : List UInt8
  outer : List UInt8

mutual
def encDat : Dat → List C
  | ⟨kind, num, text, kids, keys, mod, version, routine, wrapped, nodes, root, inner, outer⟩ =>
    [.int .i64 kind, .int .i64 num, .str text, .sl 13 (encDats kids), .sl 2 (keys.map encKey), .str mod, .int .i64 version, .int .i64 routine, .bool wrapped, .sl 8 (nodes.map encNode), .int .i64 root, .str inner, .str outer]
def encDats : List Dat → List (List C)
  | [] => []
  | d :: ds => encDat d :: encDats ds
end
theorem encDats_eq : ∀ l : List Dat, encDats l = l.map encDat
  | [] => by simp only [encDats, List.map_nil]
  | d :: l => by simp only [encDats, List.map_cons, encDats_eq l]
theorem encDat_eq (d : Dat) : encDat d = [.int .i64 d.kind, .int .i64 d.num, .str d.text, .sl 13 (d.kids.map encDat), .sl 2 (d.keys.map encKey), .str d.mod, .int .i64 d.version, .int .i64 d.routine, .bool d.wrapped, .sl 8 (d.nodes.map encNode), .int .i64 d.root, .str d.inner, .str d.outer] := by
  cases d
  simp only [encDat, encDats_eq]

structure Val where
  kind : Int
  num : Int
  text : List UInt8
  kids : List Val
  keys : List KeyD
  ents : List (List Val × Bool × Val)
  labels : List (List UInt8)

mutual
def encVal : Val → List C
  | ⟨kind, num, text, kids, keys, ents, labels⟩ => [.int .i64 kind, .int .i64 num, .str text, .sl 7 (encVals kids), .sl 2 (keys.map encKey), .sl 9 (encEnts ents), .sl 1 (labels.map encStr)]
def encVals : List Val → List (List C)
  | [] => []
  | d :: ds => encVal d :: encVals ds
def encEnt : List Val × Bool × Val → List C
  | (args, fails, result) => .sl 7 (encVals args) :: .bool fails :: encVal result
def encEnts : List (List Val × Bool × Val) → List (List C)
  | [] => []
  | e :: es => encEnt e :: encEnts es
end
theorem encVals_eq : ∀ l : List Val, encVals l = l.map encVal
  | [] => by simp only [encVals, List.map_nil]
  | d :: l => by simp only [encVals, List.map_cons, encVals_eq l]
theorem encEnts_eq : ∀ l : List (List Val × Bool × Val), encEnts l = l.map encEnt
  | [] => by simp only [encEnts, List.map_nil]
  | d :: l => by simp only [encEnts, List.map_cons, encEnts_eq l]
theorem encVal_eq (v : Val) : encVal v = [.int .i64 v.kind, .int .i64 v.num, .str v.text, .sl 7 (v.kids.map encVal), .sl 2 (v.keys.map encKey), .sl 9 (v.ents.map encEnt), .sl 1 (v.labels.map encStr)] := by
  cases v
  simp only [encVal, encVals_eq, encEnts_eq]
theorem encEnt_eq (e : List Val × Bool × Val) : encEnt e = [.sl 7 (e.1.map encVal), .bool e.2.1, .int .i64 e.2.2.kind, .int .i64 e.2.2.num, .str e.2.2.text, .sl 7 (e.2.2.kids.map encVal), .sl 2 (e.2.2.keys.map encKey), .sl 9 (e.2.2.ents.map encEnt), .sl 1 (e.2.2.labels.map encStr)] := by
  obtain ⟨a, f, r⟩ := e
  simp only [encEnt, encVals_eq, encVal_eq]

/-- the datum of a kind, all else zero -/
def zeroDat : Dat := ⟨0, 0, [], [], [], [], 0, 0, false, [], 0, [], []⟩
def atomDat (s : List UInt8) : Dat := { zeroDat with kind := 3, text := s }
def intDat (n : Int) : Dat := { zeroDat with kind := 1, num := n }
end Go.Sx
