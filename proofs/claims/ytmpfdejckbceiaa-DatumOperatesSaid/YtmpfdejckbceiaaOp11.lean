/- A part of the proof: lemmas about the walk of the program and about plain integers and lists. No conditions beyond those that each lemma states. -/
import Derived.Test.YtmpfdejckbceiaaOp10
/-! A region that draws its order, in parts: the operations of a part wait for all that come before the part. Inside a part any order; a part of one operation is walked as in a region that draws nothing. -/
set_option linter.unusedVariables false
set_option linter.unusedSimpArgs false
namespace Go.Sx
variable {P : Program} {n : Nat} {σ : AS} {Q : Exit → AS → Prop}

/-- done, and no earlier than lo -/
def xl (lo : Nat) (listed : Array Bool) (i : Nat) : Bool := decide (lo ≤ i) && listed.getD i false
def envS (l : List Oper) (t : Nat → T) (lo : Nat) (env : Env) (i : Nat) : Env := envA l t (fun j => decide (lo ≤ j)) env i

/-- whoever comes at hi or later waits for all that come before hi -/
def Wall (l : List Oper) (hi : Nat) : Prop := ∀ listed : Array Bool, listed.size = l.length → Closed l listed → ∀ i, hi ≤ i → i ∈ Region.ready .any l.toArray listed → ∀ k, k < hi → listed.getD k false = true

structure Mid2 (κ : Kap) (M0 : Mem) (n : Nat) (l : List Oper) (t : Nat → T) (b : Nat → Bx) (e : Nat → Bool) (env0 : Env) (lo hi : Nat) (listed : Array Bool) (a : Act) (w : World) : Prop where
  size : listed.size = l.length
  closed : Closed l listed
  before : ∀ i, i < lo → listed.getD i false = true
  behind : ∀ i, hi ≤ i → listed.getD i false = false
  st : ∃ M ν m, M0.ext κ M ∧ a.tmps.size = n ∧ a.defers = [] ∧ EnvOk M ν a.tmps (envA l t (xl lo listed) env0 l.length) ∧ lo ≤ m ∧ m ≤ hi ∧
    (∀ i, lo ≤ i → i < hi → e i = true → (listed.getD i false = true ↔ i < m)) ∧ Sat κ M ν (b m) w ∧ ∀ k, pin ≤ k → ν k = κ.nu k

def cnt (l : List Oper) (listed : Array Bool) : Nat := ((List.range l.length).filter fun i => !listed.getD i false).length

def FirstOnly (l : List Oper) (listed : Array Bool) (hi : Nat) : Prop := listed.size = l.length ∧ ∀ i, i < l.length → listed.getD i false = decide (i < hi)

theorem cnt_set {l : List Oper} {listed : Array Bool} {i : Nat} (hsz : listed.size = l.length) (hil : i < l.length) (hxi : listed.getD i false = false) : cnt l listed = cnt l (listed.setIfInBounds i true) + 1 := by
  have hisz : i < listed.size := by omega
  have hsplit : ∀ r : List Nat, r.Nodup → i ∈ r → (r.filter fun j => !listed.getD j false).length = (r.filter fun j => !(listed.setIfInBounds i true).getD j false).length + 1 := by
    intro r
    induction r with
    | nil => intro _ h; cases h
    | cons y r ihr =>
      intro hnd hmem
      simp only [List.nodup_cons] at hnd
      have hself : (listed.setIfInBounds i true).getD i false = true := by simp [hisz]
      rcases List.mem_cons.1 hmem with rfl | hmem
      · have : (r.filter fun j => !listed.getD j false) = (r.filter fun j => !(listed.setIfInBounds i true).getD j false) := by
          apply List.filter_congr
          intro j hj
          have hne : i ≠ j := fun h => hnd.1 (h ▸ hj)
          rw [getD_set_ne false hne]
        rw [List.filter_cons, List.filter_cons, hxi, hself, this]
        simp
      · have hne : i ≠ y := fun h => hnd.1 (h ▸ hmem)
        have ih' := ihr hnd.2 hmem
        rw [List.filter_cons, List.filter_cons, getD_set_ne false hne]
        cases listed.getD y false <;> simp only [Bool.not_true, Bool.not_false, if_true, if_false, Bool.false_eq_true, List.length_cons] <;> omega
  exact hsplit (List.range l.length) List.nodup_range (by simpa using hil)

theorem ready_least {l : List Oper} (hback : Back l) {listed : Array Bool} (hsz : listed.size = l.length) (hr : Region.ready .any l.toArray listed = []) : ∀ i, i < l.length → listed.getD i false = true := by
  intro i
  induction i using Nat.strongRecOn with
  | _ i ih =>
    intro hi
    cases hc : listed.getD i false with
    | true => rfl
    | false =>
      exfalso
      have : i ∈ Region.ready .any l.toArray listed := by
        rw [mem_ready]
        refine ⟨?_, l[i], by simp [hi], fun e' he' hb' => ?_⟩
        · have : i < listed.size := by omega
          simp [this] at hc ⊢
          exact hc
        · have := hback i l[i] (by simp [hi]) e' he' hb'
          exact ih e'.on this (by omega)
      rw [hr] at this
      cases this

theorem cnt_zero {l : List Oper} {listed : Array Bool} (h : cnt l listed = 0) : ∀ i, i < l.length → listed.getD i false = true := by
  intro i hi
  cases hc : listed.getD i false with
  | true => rfl
  | false =>
    exfalso
    have : i ∈ (List.range l.length).filter fun i => !listed.getD i false := by
      rw [List.mem_filter]; exact ⟨by simpa using hi, by simp only [hc]; rfl⟩
    unfold cnt at h
    rw [List.length_eq_zero_iff.1 h] at this
    cases this

theorem ready_none {l : List Oper} {listed : Array Bool} (hsz : listed.size = l.length) (hall : ∀ i, i < l.length → listed.getD i false = true) : Region.ready .any l.toArray listed = [] := by
  cases hr : Region.ready .any l.toArray listed with
  | nil => rfl
  | cons x xs' =>
    exfalso
    have hx : x ∈ Region.ready .any l.toArray listed := by rw [hr]; simp
    obtain ⟨h0, o, ho, _⟩ := mem_ready.1 hx
    have hlt : x < l.length := by have := (Array.getElem?_eq_some_iff.1 ho).1; simpa using this
    have := hall x hlt
    have hsz' : x < listed.size := by rw [hsz]; exact hlt
    simp [hsz'] at h0 this
    rw [h0] at this; cases this

/-- effects come in the order of the text, inside the part -/
def EffOrdS (l : List Oper) (e : Nat → Bool) (lo hi : Nat) : Prop := ∀ listed : Array Bool, Closed l listed → ∀ i j, lo ≤ i → i < j → j < hi → e i = true → e j = true → listed.getD j false = true → listed.getD i false = true

theorem part_sound {κ : Kap} {M0 : Mem} {l : List Oper} {fixB : Bx} {t : Nat → T} {b : Nat → Bx} {e : Nat → Bool} {env0 : Env} {Q' : Exit → Act → World → Prop} {lo hi_ : Nat} (hlo : lo ≤ hi_) (hhi : hi_ ≤ l.length)
    (hback : Back l) (hpairs : Pairs l) (hord : EffOrdS l e lo hi_) (hwall : Wall l hi_)
    (hs : ∀ i o, lo ≤ i → i < hi_ → l[i]? = some o → OSpec P n l fixB o (envS l t lo env0 i) (b i) (t i) (b (i + 1)) (e i)) (hf : ∀ i, lo ≤ i → i ≤ hi_ → ∀ x ∈ fixB, x ∈ b i)
    (hcont : ∀ fuel listed a w, FirstOnly l listed hi_ → Closed l listed → cnt l listed = fuel → St κ M0 n ⟨envS l t lo env0 hi_, b hi_⟩ a w → wpAny P .any l.toArray Q' fuel listed a w) :
    ∀ (fuel : Nat) (listed : Array Bool) (a : Act) (w : World), cnt l listed = fuel → Mid2 κ M0 n l t b e env0 lo hi_ listed a w →
      wpAny P .any l.toArray Q' fuel listed a w := by
  have hbc : ∀ i, lo ≤ i → i < hi_ → e i = false → b (i + 1) = b i := by
    intro i h0 hi' he
    rcases (hs i (l[i]'(by omega)) h0 hi' (List.getElem?_eq_getElem (by omega))).2 with ⟨_, ⟨_, _, h⟩ | ⟨h, _⟩⟩ | ⟨_, _, h, _⟩
    · exact h
    · rw [he] at h; cases h
    · exact h
  have const : ∀ (m i : Nat), lo ≤ m → m ≤ i → i ≤ hi_ → (∀ j, m ≤ j → j < i → e j = false) → b i = b m := by
    intro m i hm
    induction i with
    | zero => intro h _ _; have : m = 0 := by omega
              subst this; rfl
    | succ i ih =>
      intro h hl hn
      by_cases hmi : m = i + 1
      · subst hmi; rfl
      · rw [hbc i (by omega) (by omega) (hn i (by omega) (by omega))]
        exact ih (by omega) (by omega) (fun j h1 h2 => hn j h1 (by omega))
  have done : ∀ (fuel : Nat) (listed : Array Bool) (a : Act) (w : World), cnt l listed = fuel → Mid2 κ M0 n l t b e env0 lo hi_ listed a w → (∀ i, i < hi_ → listed.getD i false = true) → wpAny P .any l.toArray Q' fuel listed a w := by
    intro fuel listed a w hfuel hm hall
    obtain ⟨M, ν, m, h1, h2, h3, h4, h5a, h5, h6, h7, h8⟩ := hm.st
    refine hcont fuel listed a w ⟨hm.size, fun i hi' => ?_⟩ hm.closed hfuel ⟨M, ν, h1, h2, h3, ?_, ?_⟩
    · by_cases h : i < hi_
      · rw [hall i h]; simp [h]
      · rw [hm.behind i (by omega)]; simp [h]
    · intro d u hu
      refine h4 d u ?_
      unfold envS at hu
      rw [envA_skip l t (xl lo listed) env0 d hi_ l.length hhi (fun j o hj hjl ho hod => by unfold xl; rw [hm.behind j hj]; simp),
        envA_same l t (xl lo listed) (fun j => decide (lo ≤ j)) env0 d hi_ (fun j o hj _ _ => by unfold xl; rw [hall j hj]; simp)]
      exact hu
    · have : b hi_ = b m := const m hi_ h5a h5 (Nat.le_refl _) (fun j hj1 hj2 => by
        cases hj : e j with
        | false => rfl
        | true => have := (h6 j (by omega) hj2 hj).1 (hall j hj2); omega)
      simp only [this]
      exact ⟨h7, h8⟩
  intro fuel
  induction fuel with
  | zero =>
    intro listed a w hfuel hm
    exact done 0 listed a w hfuel hm (fun i hi' => cnt_zero hfuel i (by omega))
  | succ fuel ih =>
    intro listed a w hfuel hm
    by_cases hdone : ∀ i, i < hi_ → listed.getD i false = true
    · exact done (fuel + 1) listed a w hfuel hm hdone
    refine ⟨fun hr => absurd (fun i hi' => ready_least hback hm.size hr i (by omega)) hdone, fun i hi => ?_⟩
    obtain ⟨h0, oi, hoi, hall⟩ := mem_ready.1 hi
    have hil : i < l.length := by have := (Array.getElem?_eq_some_iff.1 hoi).1; simpa using this
    have hihi : i < hi_ := by
      rcases Nat.lt_or_ge i hi_ with h | h
      · exact h
      · exact absurd (hwall listed hm.size hm.closed i h hi) hdone
    have hoi' : l[i]? = some oi := by simpa using hoi
    have hisz : i < listed.size := by rw [hm.size]; exact hil
    have hxi : listed.getD i false = false := by simp [hisz] at h0 ⊢; exact h0
    have hloi : lo ≤ i := by
      rcases Nat.lt_or_ge i lo with h | h
      · have := hm.before i h; rw [hxi] at this; cases this
      · exact h
    obtain ⟨M, ν, m, h1, h2, h3, h4, h5a, h5, h6, h7, h8⟩ := hm.st
    obtain ⟨hd, hspec⟩ := hs i oi hloi hihi hoi'
    -- the operands stand as in the order of the text
    have look : ∀ d, d ∈ oi.looksAt l.toArray → (envA l t (xl lo listed) env0 l.length).lookup d = (envS l t lo env0 i).lookup d := by
      intro d hdm
      unfold envS
      rw [envA_skip l t (xl lo listed) env0 d i l.length (by omega) ?_, envA_same l t (xl lo listed) (fun j => decide (lo ≤ j)) env0 d i ?_]
      · intro j o hj ho hod
        rcases hpairs j i o oi hj ho hoi' with ⟨e', he', hb', hon⟩ | hap
        · have hj2 := hall e' he' hb'
          rw [hon] at hj2
          unfold xl; rw [hj2]; simp
        · exact absurd hdm ((Oper.apart_spec hap).1 d hod)
      · intro j o hj hjl ho hod
        by_cases hji : i = j
        · subst hji; unfold xl; rw [hxi]; simp
        · cases hxj : listed.getD j false with
          | false => unfold xl; rw [hxj]; simp
          | true =>
            rcases hpairs i j oi o (by omega) hoi' ho with ⟨e', he', hb', hon⟩ | hap
            · have := hm.closed j o ho hxj e' he' hb'
              rw [hon, hxi] at this; cases this
            · exact absurd hdm ((Oper.apart_spec hap).2.2 d hod)
    have hclosed : Closed l (listed.setIfInBounds i true) := by
      intro j oj hj hx e' he' hb'
      by_cases hji : i = j
      · subst hji
        rw [hoi'] at hj; cases hj
        exact getD_set_true (hall e' he' hb')
      · rw [getD_set_ne false hji] at hx
        exact getD_set_true (hm.closed j oj hj hx e' he' hb')
    have hcount : cnt l (listed.setIfInBounds i true) = fuel := by
      have := cnt_set hm.size hil hxi; omega
    have hbefore : ∀ j, j < lo → (listed.setIfInBounds i true).getD j false = true := fun j hj => by rw [getD_set_ne false (by omega)]; exact hm.before j hj
    have hbehind : ∀ j, hi_ ≤ j → (listed.setIfInBounds i true).getD j false = false := fun j hj => by rw [getD_set_ne false (by omega)]; exact hm.behind j hj
    -- after the operation
    have after : ∀ (M' : Mem) (v : Value) (w' : World) (m' : Nat), M.ext κ M' → (t i).rep M' ν v → lo ≤ m' → m' ≤ hi_ →
        (∀ j, lo ≤ j → j < hi_ → e j = true → ((listed.setIfInBounds i true).getD j false = true ↔ j < m')) → Sat κ M' ν (b m') w' →
        Mid2 κ M0 n l t b e env0 lo hi_ (listed.setIfInBounds i true) (a.put oi.dst v) w' := by
      intro M' v w' m' hle hr hml hm' hem hsat
      refine ⟨by simpa using hm.size, hclosed, hbefore, hbehind, M', ν, m', h1.trans hle, by rw [Act.put_size]; exact h2, by rw [Act.put_defers']; exact h3, ?_, hml, hm', hem, hsat, h8⟩
      have hput := EnvOk.put (df := a.defers) (h4.mono hle.1) (dst := oi.dst) (v := v) (t := t i) (fun d he => by rw [h2]; exact dstOk_spec hd d he) hr
      intro k u hu
      refine hput k u ?_
      rw [putE_lookup]
      by_cases hk : oi.dst = some k
      · rw [if_pos hk]
        -- nobody behind i that writes k is done
        have e1 := envA_skip l t (xl lo (listed.setIfInBounds i true)) env0 k (i + 1) l.length (by omega) (fun j o hj hjl ho hod => by
          cases hxj : (listed.setIfInBounds i true).getD j false with
          | false => unfold xl; rw [hxj]; simp
          | true =>
            have hne : i ≠ j := by omega
            have hxj' : listed.getD j false = true := by rw [← getD_set_ne false hne]; exact hxj
            rcases hpairs i j oi o (by omega) hoi' ho with ⟨e', he', hb', hon⟩ | hap
            · have := hm.closed j o ho hxj' e' he' hb'
              rw [hon, hxi] at this; cases this
            · exact absurd hod ((Oper.apart_spec hap).2.1 k hk))
        rw [e1] at hu
        have hself : xl lo (listed.setIfInBounds i true) i = true := by simp [xl, hisz, hloi]
        rw [envA, hself] at hu
        simp only [cond_true, putE_lookup, hoi', Option.bind_some, hk, if_true] at hu
        exact hu
      · rw [if_neg hk]
        have e2 := envA_same l t (xl lo (listed.setIfInBounds i true)) (xl lo listed) env0 k l.length (fun j o hj ho hod => by
          have hne : i ≠ j := fun h => by subst h; rw [hoi'] at ho; cases ho; exact hk hod
          unfold xl; rw [getD_set_ne false hne])
        rw [← e2]; exact hu
    have hon : EnvOn M ν a (envS l t lo env0 i) oi := by
      intro d u hdo hu
      refine h4 d u ?_
      rw [look d (looksAt_op hdo)]; exact hu
    have hgd : ∀ g want d u, oi.guard = some (g, want) → (l[g]?).bind (·.dst) = some d → (envS l t lo env0 i).lookup d = some u → u.rep M ν (a.tmps.getD d undef) := by
      intro g want d u hg hgd hu
      refine h4 d u ?_
      rw [look d (looksAt_guard hg hgd)]; exact hu
    have samem : e i = false → ∀ j, lo ≤ j → j < hi_ → e j = true → ((listed.setIfInBounds i true).getD j false = true ↔ j < m) := by
      intro hei j hjl hj hej
      have hne : i ≠ j := fun h => by subst h; rw [hei] at hej; cases hej
      rw [getD_set_ne false hne]; exact h6 j hjl hj hej
    unfold wpOp
    rw [hoi]
    simp only []
    rcases hspec with ⟨hg, ⟨hei, hop, hbb⟩ | ⟨hei, hme, hop⟩⟩ | ⟨hg, ht, hbb, hei⟩
    · rw [if_pos (wanted_of hg hgd)]
      left
      refine Oper.wp_mono_Q (Oper.wp_mono ?_ (hop κ M ν a w (b m) (hf m h5a h5) hon h7))
      rintro a' w' ⟨v, M', rfl, hle, hr, hsat⟩
      exact ih _ _ _ hcount (after M' v w' m hle hr h5a h5 (samem hei) hsat)
    · rw [if_pos (wanted_of hg hgd)]
      left
      -- m and i: no effect between them
      have hmi : m ≤ i := by
        rcases Nat.lt_or_ge i m with h | h
        · have := (h6 i hloi hihi hei).2 h; rw [hxi] at this; cases this
        · exact h
      have prev : ∀ j, lo ≤ j → j < i → e j = true → listed.getD j false = true := by
        intro j hjl hj hej
        have hself : (listed.setIfInBounds i true).getD i false = true := by simp [hisz]
        have := hord _ hclosed j i hjl hj hihi hej hei hself
        rwa [getD_set_ne false (by omega)] at this
      have hbm : b i = b m := const m i h5a hmi (by omega) (fun j hj1 hj2 => by
        cases hj : e j with
        | false => rfl
        | true => have := (h6 j (by omega) (by omega) hj).1 (prev j (by omega) hj2 hj); omega)
      refine Oper.wp_mono_Q (Oper.wp_mono ?_ (hop κ M ν a w hon (by rw [hbm]; exact h7)))
      rintro a' w' ⟨v, M', rfl, hle, hr, hsat⟩
      refine ih _ _ _ hcount (after M' v w' (i + 1) hle hr (by omega) hihi (fun j hjl hj hej => ?_) hsat)
      by_cases hji : i = j
      · subst hji; simp [hisz]
      · rw [getD_set_ne false hji]
        constructor
        · intro hx
          rcases Nat.lt_or_ge i j with h | h
          · have := hord _ hm.closed i j hloi h hj hei hej hx
            rw [hxi] at this; cases this
          · omega
        · intro hx
          exact prev j hjl (by omega) hej
    · rw [unwanted_of hg hgd]
      simp only [Bool.false_eq_true, if_false]
      refine ih _ _ _ hcount (after M undef w m (Mem.ext.refl κ M) (by rw [ht]; simp [undefT, T.rep, Cell.rep, C.rep]) h5a h5 (samem hei) h7)


/-! ### who waits for whom -/
def maskOf (ms : List Nat) (o : Oper) : Nat := o.after.toList.foldl (fun acc e => bif Region.binds .any e then acc ||| (2 ^ e.on ||| ms.getD e.on 0) else acc) 0
def masks : List Oper → List Nat → List Nat
  | [], ms => ms
  | o :: os, ms => masks os (ms ++ [maskOf ms o])
def maskAll (l : List Oper) : List Nat := masks l []
/-- those from hi on wait for all before hi -/
def wallB (l : List Oper) (hi : Nat) : Bool := ((maskAll l).drop hi).all fun m => (List.range hi).all fun k => m.testBit k

theorem maskFold_spec {ms : List Nat} {k : Nat} : ∀ (es : List Edge) (acc : Nat), (es.foldl (fun acc e => bif Region.binds .any e then acc ||| (2 ^ e.on ||| ms.getD e.on 0) else acc) acc).testBit k = true →
    acc.testBit k = true ∨ ∃ e ∈ es, Region.binds .any e = true ∧ (e.on = k ∨ (ms.getD e.on 0).testBit k = true)
  | [], acc, h => .inl h
  | e :: es, acc, h => by
    simp only [List.foldl_cons] at h
    rcases maskFold_spec es _ h with h | ⟨e', h1, h2⟩
    · cases hb : Region.binds .any e with
      | true =>
        rw [hb] at h
        simp only [cond_true, Nat.testBit_or, Bool.or_eq_true, Nat.testBit_two_pow, decide_eq_true_eq] at h
        rcases h with h | h | h
        · exact .inl h
        · exact .inr ⟨e, by simp, hb, .inl h⟩
        · exact .inr ⟨e, by simp, hb, .inr h⟩
      | false => rw [hb] at h; exact .inl h
    · exact .inr ⟨e', List.mem_cons_of_mem _ h1, h2⟩

theorem masks_length : ∀ (l : List Oper) (ms : List Nat), (masks l ms).length = ms.length + l.length
  | [], ms => rfl
  | o :: os, ms => by rw [masks, masks_length os]; simp; omega

/-- whoever is done or ready has those done that its mask names -/
def MaskOk (l : List Oper) (ms : List Nat) : Prop := ∀ (i m : Nat), ms[i]? = some m → ∀ listed : Array Bool, Closed l listed → (∀ o : Oper, l[i]? = some o → ∀ e ∈ o.after, Region.binds .any e = true → listed.getD e.on false = true) → ∀ k, m.testBit k = true → listed.getD k false = true

theorem masks_ok (l : List Oper) : ∀ (os : List Oper) (ms : List Nat), l.drop ms.length = os → MaskOk l ms → MaskOk l (masks os ms)
  | [], ms, _, h => h
  | o :: os, ms, hd, h => by
    rw [masks]
    refine masks_ok l os _ ?_ ?_
    · rw [List.length_append, List.length_singleton, ← List.drop_drop, hd]; rfl
    · intro i m hm listed hc hr k hk
      by_cases hi : i < ms.length
      · rw [List.getElem?_append_left hi] at hm
        exact h i m hm listed hc hr k hk
      · rw [List.getElem?_append_right (by omega)] at hm
        have hi2 : i = ms.length := by
          rcases Nat.lt_or_ge (i - ms.length) 1 with h1 | h1
          · omega
          · rw [List.getElem?_eq_none (by simpa using h1)] at hm; cases hm
        subst hi2
        simp only [Nat.sub_self, List.getElem?_cons_zero, Option.some.injEq] at hm
        subst hm
        have ho : l[ms.length]? = some o := by
          have : (l.drop ms.length)[0]? = some o := by rw [hd]; rfl
          simpa using this
        rcases maskFold_spec _ _ hk with h0 | ⟨e, he, hb, h1⟩
        · simp at h0
        · have hle := hr o ho e (by simpa using he) hb
          rcases h1 with h1 | h1
          · rw [← h1]; exact hle
          · cases hmi : ms[e.on]? with
            | none => rw [List.getD_eq_getElem?_getD, hmi] at h1; simp at h1
            | some m' =>
              rw [List.getD_eq_getElem?_getD, hmi] at h1
              refine h e.on m' hmi listed hc (fun o' ho' e' he' hb' => hc e.on o' ho' hle e' he' hb') k h1

theorem maskAll_ok (l : List Oper) : MaskOk l (maskAll l) := masks_ok l l [] rfl (fun i m h => by simp at h)

theorem wall_of {l : List Oper} {hi : Nat} (h : wallB l hi = true) : Wall l hi := by
  intro listed hsz hc i hi' hr k hk
  obtain ⟨h0, oi, hoi, hall⟩ := mem_ready.1 hr
  have hil : i < l.length := by have := (Array.getElem?_eq_some_iff.1 hoi).1; simpa using this
  have hoi' : l[i]? = some oi := by simpa using hoi
  have hlen : (maskAll l).length = l.length := by unfold maskAll; rw [masks_length]; simp
  have hm : (maskAll l)[i]? = some ((maskAll l)[i]'(by omega)) := List.getElem?_eq_getElem (by omega)
  refine maskAll_ok l i _ hm listed hc (fun o ho e he hb => by rw [hoi'] at ho; cases ho; exact hall e he hb) k ?_
  have hmem : (maskAll l)[i]'(by omega) ∈ (maskAll l).drop hi := by
    rw [List.mem_iff_getElem?]
    exact ⟨i - hi, by rw [List.getElem?_drop, show hi + (i - hi) = i by omega]; exact hm⟩
  have := List.all_eq_true.1 h _ hmem
  exact List.all_eq_true.1 this k (by simpa using hk)

/-- of two that may turn boxes the later waits for the earlier -/
def effB (l : List Oper) (lo hi : Nat) : Bool :=
  (List.range hi).all fun j => Nat.blt j lo || (match l[j]?, (maskAll l)[j]? with
    | some o, some m => !mayEff o || (List.range j).all fun i => Nat.blt i lo || (match l[i]? with
      | some o' => !mayEff o' || m.testBit i
      | none => true)
    | _, _ => false)
theorem eff_of {l : List Oper} {e : Nat → Bool} {lo hi : Nat} (h : effB l lo hi = true) (hm : ∀ i, lo ≤ i → i < hi → e i = true → ∃ o, l[i]? = some o ∧ mayEff o = true) : EffOrdS l e lo hi := by
  intro listed hc i j hlo hij hj hei hej hx
  obtain ⟨oi, hoi, hmi⟩ := hm i hlo (by omega) hei
  obtain ⟨oj, hoj, hmj⟩ := hm j (by omega) hj hej
  have h1 := List.all_eq_true.1 h j (by simpa using hj)
  have hnj : Nat.blt j lo = false := by cases hb : Nat.blt j lo with
    | false => rfl
    | true => have : j < lo := by simpa using hb
              omega
  have hni : Nat.blt i lo = false := by cases hb : Nat.blt i lo with
    | false => rfl
    | true => have : i < lo := by simpa using hb
              omega
  rw [hnj, Bool.false_or, hoj] at h1
  split at h1
  · rename_i o m eo em
    simp only [Option.some.injEq] at eo
    subst eo
    rw [hmj, Bool.not_true, Bool.false_or] at h1
    have h2 := List.all_eq_true.1 h1 i (by simpa using hij)
    rw [hni, Bool.false_or, hoi] at h2
    simp only [hmi, Bool.not_true, Bool.false_or] at h2
    exact maskAll_ok l j m em listed hc (fun o ho e he hb => hc j o ho hx e he hb) i h2
  · cases h1

/-! ### the parts -/
inductive SegK where
  | ser | pur | eff
def segSem (P : Program) (n : Nat) (l : List Oper) : List (Nat × SegK) → Nat → AS → (AS → Prop) → Prop
  | [], _, σ, K => K σ
  | (m, .ser) :: s, lo, σ, K => seqSem P n l ((l.drop lo).take m) σ fun σ' => segSem P n l s (lo + m) σ' K
  | (m, .pur) :: s, lo, σ, K => parPure P n l σ.B ((l.drop lo).take m) σ.env fun env => segSem P n l s (lo + m) ⟨env, σ.B⟩ K
  | (m, .eff) :: s, lo, σ, K => ∃ fixB, (∀ x ∈ fixB, x ∈ σ.B) ∧ parSem P n l fixB ((l.drop lo).take m) σ.env σ.B fun env B => segSem P n l s (lo + m) ⟨env, B⟩ K
def segOk (l : List Oper) : List (Nat × SegK) → Nat → Bool
  | [], lo => lo == l.length
  | (m, .ser) :: s, lo => (List.range m).all (fun i => wallB l (lo + i + 1)) && (Nat.ble (lo + m) l.length && segOk l s (lo + m))
  | (m, .pur) :: s, lo => wallB l (lo + m) && (Nat.ble (lo + m) l.length && segOk l s (lo + m))
  | (m, .eff) :: s, lo => wallB l (lo + m) && (effB l lo (lo + m) && (Nat.ble (lo + m) l.length && segOk l s (lo + m)))

theorem mid2_start {κ : Kap} {M0 : Mem} {l : List Oper} {t : Nat → T} {b : Nat → Bx} {e : Nat → Bool} {lo hi : Nat} {a : Act} {w : World} {listed : Array Bool} (hlo : lo ≤ hi) (hhi : hi ≤ l.length) (hF : FirstOnly l listed lo) (hc : Closed l listed) (hb0 : b lo = σ.B) (hs : St κ M0 n σ a w) :
    Mid2 κ M0 n l t b e σ.env lo hi listed a w := by
  obtain ⟨M, ν, h1, h2, h3, h4, h5, h6⟩ := hs
  have hout : ∀ i, l.length ≤ i → listed.getD i false = false := fun i hi => by
    have : listed.size ≤ i := by rw [hF.1]; exact hi
    simp [Array.getElem?_eq_none this]
  have hx : ∀ j, xl lo listed j = false := fun j => by
    unfold xl
    by_cases hj : lo ≤ j
    · by_cases hjl : j < l.length
      · rw [hF.2 j hjl]; simp
      · rw [hout j (by omega)]; simp
    · simp [hj]
  have henv : ∀ m, envA l t (xl lo listed) σ.env m = σ.env := by
    intro m
    induction m with
    | zero => rfl
    | succ m ih => rw [envA, hx]; simpa using ih
  refine ⟨hF.1, hc, fun i hi' => by rw [hF.2 i (by omega)]; simpa using hi', fun i hi' => ?_, M, ν, lo, h1, h2, h3, ?_, Nat.le_refl _, hlo, fun i hlo' hi' he => ?_, ?_, h6⟩
  · by_cases hjl : i < l.length
    · rw [hF.2 i hjl]; simp; omega
    · exact hout i (by omega)
  · rw [henv]; exact h4
  · rw [hF.2 i (by omega)]; simp
  · rw [hb0]; exact h5

theorem envS_local {l : List Oper} {t : Nat → T} {lo m : Nat} {env : Env} : ∀ i, i ≤ m → envS l (fun j => t (j - lo)) lo env (lo + i) = envA ((l.drop lo).take m) t (fun _ => true) env i
  | 0, _ => by
    have : ∀ k, k ≤ lo → envS l (fun j => t (j - lo)) lo env k = env := by
      intro k hk
      induction k with
      | zero => rfl
      | succ k ih =>
        unfold envS at *
        rw [envA, show decide (lo ≤ k) = false by simp; omega]
        simpa using ih (by omega)
    simpa [envA] using this lo (Nat.le_refl _)
  | i + 1, hi => by
    have ih := envS_local (l := l) (t := t) (lo := lo) (m := m) (env := env) i (by omega)
    unfold envS at *
    rw [show lo + (i + 1) = (lo + i) + 1 by omega, envA, ih, show decide (lo ≤ lo + i) = true by simp, envA]
    simp only [cond_true]
    have e1 : ((l.drop lo).take m)[i]? = l[lo + i]? := by rw [List.getElem?_take, if_pos (by omega), List.getElem?_drop]
    rw [e1, show lo + i - lo = i by omega]

theorem FirstOnly.set {l : List Oper} {listed : Array Bool} {j : Nat} (h : FirstOnly l listed j) (hj : j < l.length) : FirstOnly l (listed.setIfInBounds j true) (j + 1) := by
  refine ⟨by simpa using h.1, fun i hi => ?_⟩
  by_cases hij : j = i
  · subst hij
    have : j < listed.size := by rw [h.1]; exact hj
    simp [this]
  · rw [getD_set_ne false hij, h.2 i hi]
    congr 1
    simp only [eq_iff_iff]
    omega

theorem ser_sound {κ : Kap} {M0 : Mem} {l : List Oper} {Q' : Exit → Act → World → Prop} {K : AS → Prop} {hi : Nat} (hback : Back l) (hhi : hi ≤ l.length)
    (hcont : ∀ fuel listed a w σ, FirstOnly l listed hi → Closed l listed → cnt l listed = fuel → K σ → St κ M0 n σ a w → wpAny P .any l.toArray Q' fuel listed a w) :
    ∀ (os : List Oper) (lo : Nat) (σ : AS) (fuel : Nat) (listed : Array Bool) (a : Act) (w : World), (l.drop lo).take (hi - lo) = os → lo ≤ hi → (∀ i, lo ≤ i → i < hi → wallB l (i + 1) = true) →
      FirstOnly l listed lo → Closed l listed → cnt l listed = fuel → seqSem P n l os σ K → St κ M0 n σ a w → wpAny P .any l.toArray Q' fuel listed a w
  | [], lo, σ, fuel, listed, a, w, hos, hlo, _, hF, hc, hcnt, h, hs => by
    have : lo = hi := by
      have := congrArg List.length hos
      simp only [List.length_take, List.length_drop, List.length_nil] at this
      omega
    subst this
    exact hcont fuel listed a w σ hF hc hcnt h hs
  | o :: os, lo, σ, fuel, listed, a, w, hos, hlo, hw, hF, hc, hcnt, h, hs => by
    have hlt : lo < hi := by
      have := congrArg List.length hos
      simp only [List.length_take, List.length_drop, List.length_cons] at this
      omega
    have hol : l[lo]? = some o := by
      have : ((l.drop lo).take (hi - lo))[0]? = some o := by rw [hos]; rfl
      rw [List.getElem?_take, if_pos (by omega), List.getElem?_drop] at this
      simpa using this
    have hos' : (l.drop (lo + 1)).take (hi - (lo + 1)) = os := by
      have h1 : l.drop lo = o :: l.drop (lo + 1) := by
        rw [List.drop_eq_getElem_cons (by omega)]
        congr 1
        have := List.getElem?_eq_getElem (l := l) (i := lo) (by omega)
        rw [hol] at this
        exact (Option.some.inj this).symm
      rw [h1, show hi - lo = (hi - (lo + 1)) + 1 by omega, List.take_succ_cons] at hos
      exact (List.cons.inj hos).2
    have hunl : listed.getD lo false = false := by rw [hF.2 lo (by omega)]; simp
    cases fuel with
    | zero => have := cnt_zero hcnt lo (by omega); rw [hunl] at this; cases this
    | succ fuel =>
      refine ⟨fun hr => ?_, fun i hi' => ?_⟩
      · have := ready_least hback hF.1 hr lo (by omega); rw [hunl] at this; cases this
      · obtain ⟨h0, oi, hoi, hall⟩ := mem_ready.1 hi'
        have hil : i < l.length := by have := (Array.getElem?_eq_some_iff.1 hoi).1; simpa using this
        have hilo : i = lo := by
          rcases Nat.lt_trichotomy i lo with hlt' | he | hgt
          · exfalso
            have hsz : i < listed.size := by rw [hF.1]; exact hil
            have := hF.2 i hil
            simp [hsz] at h0 this
            rw [h0] at this
            simp at this; omega
          · exact he
          · have := wall_of (hw lo (Nat.le_refl _) hlt) listed hF.1 hc i (by omega) hi' lo (by omega)
            rw [hunl] at this; cases this
        subst hilo
        have hoi' : l[i]? = some oi := by simpa using hoi
        rw [hol] at hoi'; cases hoi'
        have hclosed : Closed l (listed.setIfInBounds i true) := by
          intro j oj hj hx e' he' hb'
          by_cases hji : i = j
          · subst hji
            rw [hol] at hj; cases hj
            exact getD_set_true (hall e' he' hb')
          · rw [getD_set_ne false hji] at hx
            exact getD_set_true (hc j oj hj hx e' he' hb')
        have hcnt' : cnt l (listed.setIfInBounds i true) = fuel := by
          have := cnt_set hF.1 hil hunl; omega
        have hF' := hF.set hil
        have next := fun σ' a' w' h' hs' => ser_sound hback hhi hcont os (i + 1) σ' fuel (listed.setIfInBounds i true) a' w' hos' (by omega) (fun i' h1 h2 => hw i' (by omega) h2) hF' hclosed hcnt' h' hs'
        obtain ⟨M, ν, h1, h2, h3, h4, h5, h6⟩ := id hs
        unfold wpOp
        have hol' : l.toArray[i]? = some o := by simpa using hol
        rw [hol']
        simp only []
        rcases guard_some h4 h with ⟨hw', hx⟩ | ⟨hw', hd, hx⟩
        · rw [if_pos hw']
          left
          cases hx with
          | pure t hop hd k =>
            refine Oper.wp_mono_Q (Oper.wp_mono ?_ (hop κ M ν a w σ.B (fun _ h => h) (h4.on o) h5))
            rintro a' w' ⟨v, M', rfl, hle, hr, hsat⟩
            exact next _ _ w' k (put_St h1 h2 h3 (h4.mono hle.1) hle (dstOk_spec hd) hr hsat h6)
          | eff t B' hop hd k =>
            refine Oper.wp_mono_Q (Oper.wp_mono ?_ (hop κ M ν a w (h4.on o) h5))
            rintro a' w' ⟨v, M', rfl, hle, hr, hsat⟩
            exact next _ _ w' k (put_St h1 h2 h3 (h4.mono hle.1) hle (dstOk_spec hd) hr hsat h6)
          | gen j t B' hop hj hf hd k =>
            refine Oper.wp_mono_Q (Oper.wp_mono ?_ (hop κ M ν a w (h4.on o) h5))
            rintro a' w' ⟨v, M', ν', rfl, hle, hν, hr, hsat⟩
            exact next _ _ w' k (put_St h1 h2 h3 ((h4.fresh hf hν).mono hle.1) hle (dstOk_spec hd) hr hsat (fun i hi => by rw [hν i (by omega)]; exact h6 i hi))
        · rw [hw']
          simp only [Bool.false_eq_true, if_false]
          have := put_St (t := undefT) (v := undef) (dst := o.dst) h1 h2 h3 h4 (Mem.ext.refl κ M) (dstOk_spec hd) (by simp [undefT, T.rep, Cell.rep, C.rep]) h5 h6
          exact next _ _ w hx this

theorem seg_sound {κ : Kap} {M0 : Mem} {l : List Oper} {Q' : Exit → Act → World → Prop} {K : AS → Prop} (hback : Back l) (hpairs : Pairs l) (hQ : ∀ a w σ, St κ M0 n σ a w → K σ → Q' .normal a w) :
    ∀ (segs : List (Nat × SegK)) (lo : Nat) (σ : AS) (fuel : Nat) (listed : Array Bool) (a : Act) (w : World), segOk l segs lo = true → FirstOnly l listed lo → Closed l listed → cnt l listed = fuel →
      segSem P n l segs lo σ K → St κ M0 n σ a w → wpAny P .any l.toArray Q' fuel listed a w
  | [], lo, σ, fuel, listed, a, w, hok, hF, hc, hcnt, h, hs => by
    simp only [segOk, beq_iff_eq] at hok
    subst hok
    have hall : ∀ i, i < l.length → listed.getD i false = true := fun i hi => by rw [hF.2 i hi]; simpa using hi
    have hr := ready_none hF.1 hall
    cases fuel with
    | zero => exact ⟨hr, hQ a w σ hs h⟩
    | succ fuel => exact ⟨fun _ => hQ a w σ hs h, fun i hi => by rw [hr] at hi; cases hi⟩
  | (m, .ser) :: s, lo, σ, fuel, listed, a, w, hok, hF, hc, hcnt, h, hs => by
    simp only [segOk, Bool.and_eq_true] at hok
    obtain ⟨h1, h2, h3⟩ := hok
    have hle : lo + m ≤ l.length := by simpa using h2
    refine ser_sound (hi := lo + m) hback hle (fun fuel listed a w σ' hF hc hcnt h hs => seg_sound hback hpairs hQ s (lo + m) σ' fuel listed a w h3 hF hc hcnt h hs) ((l.drop lo).take m) lo σ fuel listed a w (by rw [show lo + m - lo = m by omega]) (by omega) (fun i hi1 hi2 => ?_) hF hc hcnt h hs
    have := List.all_eq_true.1 h1 (i - lo) (by simp; omega)
    rwa [show lo + (i - lo) + 1 = i + 1 by omega] at this
  | (m, .pur) :: s, lo, σ, fuel, listed, a, w, hok, hF, hc, hcnt, h, hs => by
    simp only [segOk, Bool.and_eq_true] at hok
    obtain ⟨h1, h2, h3⟩ := hok
    have hle : lo + m ≤ l.length := by simpa using h2
    simp only [segSem] at h
    obtain ⟨t, hsp, hK⟩ := par_trace_pure l σ.B _ ((l.drop lo).take m) σ.env h
    have hlen : ((l.drop lo).take m).length = m := by simp; omega
    rw [hlen] at hK
    refine part_sound (t := fun j => t (j - lo)) (b := fun _ => σ.B) (e := fun _ => false) (lo := lo) (hi_ := lo + m) (env0 := σ.env) (fixB := σ.B) (by omega) hle hback hpairs (fun _ _ i j _ _ _ hei => by cases hei) (wall_of h1) ?_ (fun _ _ _ x hx => hx) ?_ fuel listed a w hcnt (mid2_start (by omega) hle hF hc rfl hs)
    · intro i o hi1 hi2 ho
      obtain ⟨q, rfl⟩ : ∃ q, i = lo + q := ⟨i - lo, by omega⟩
      rw [envS_local (m := m) q (by omega)]
      have ho' : ((l.drop lo).take m)[q]? = some o := by rw [List.getElem?_take, if_pos (by omega), List.getElem?_drop]; exact ho
      simpa [show lo + q - lo = q by omega] using hsp q o ho'
    · intro fuel' listed' a' w' hF' hc' hcnt' hs'
      rw [envS_local (m := m) m (Nat.le_refl _)] at hs'
      exact seg_sound hback hpairs hQ s (lo + m) _ fuel' listed' a' w' h3 hF' hc' hcnt' hK hs'
  | (m, .eff) :: s, lo, σ, fuel, listed, a, w, hok, hF, hc, hcnt, h, hs => by
    simp only [segOk, Bool.and_eq_true] at hok
    obtain ⟨h1, h1e, h2, h3⟩ := hok
    have hle : lo + m ≤ l.length := by simpa using h2
    simp only [segSem] at h
    obtain ⟨fixB, hfix, h⟩ := h
    obtain ⟨t, b, e, hb0, hsp, hf, hK⟩ := par_trace l fixB _ ((l.drop lo).take m) σ.env σ.B hfix h
    have hlen : ((l.drop lo).take m).length = m := by simp; omega
    rw [hlen] at hK hf
    have hsp' : ∀ i o, lo ≤ i → i < lo + m → l[i]? = some o → OSpec P n l fixB o (envS l (fun j => t (j - lo)) lo σ.env i) (b (i - lo)) (t (i - lo)) (b (i + 1 - lo)) (e (i - lo)) := by
      intro i o hi1 hi2 ho
      obtain ⟨q, rfl⟩ : ∃ q, i = lo + q := ⟨i - lo, by omega⟩
      rw [envS_local (m := m) q (by omega)]
      have ho' : ((l.drop lo).take m)[q]? = some o := by rw [List.getElem?_take, if_pos (by omega), List.getElem?_drop]; exact ho
      rw [show lo + q - lo = q by omega, show lo + q + 1 - lo = q + 1 by omega]
      exact hsp q o ho'
    refine part_sound (t := fun j => t (j - lo)) (b := fun j => b (j - lo)) (e := fun j => e (j - lo)) (lo := lo) (hi_ := lo + m) (env0 := σ.env) (fixB := fixB) (by omega) hle hback hpairs (eff_of h1e ?_) (wall_of h1) hsp' ?_ ?_ fuel listed a w hcnt (mid2_start (by omega) hle hF hc (by simp [hb0]) hs)
    · intro i hi1 hi2 he
      have hil : i < l.length := by omega
      refine ⟨l[i], List.getElem?_eq_getElem hil, ?_⟩
      rcases (hsp' i l[i] hi1 hi2 (List.getElem?_eq_getElem hil)).2 with ⟨_, ⟨h, _⟩ | ⟨_, h, _⟩⟩ | ⟨_, _, _, h⟩
      · rw [he] at h; cases h
      · exact h
      · rw [he] at h; cases h
    · intro i hi1 hi2 x hx
      exact hf (i - lo) (by omega) x hx
    · intro fuel' listed' a' w' hF' hc' hcnt' hs'
      rw [envS_local (m := m) m (Nat.le_refl _), show lo + m - lo = m by omega] at hs'
      exact seg_sound hback hpairs hQ s (lo + m) _ fuel' listed' a' w' h3 hF' hc' hcnt' hK hs'

theorem St.drew {κ : Kap} {M0 : Mem} {a : Act} {w : World} (hs : St κ M0 n σ a w) : St κ M0 n σ a { w with drawn := w.drawn + 1 } := by
  obtain ⟨M, ν, h1, h2, h3, h4, h5, h6⟩ := hs
  exact ⟨M, ν, h1, h2, h3, h4, ⟨h5.os, h5.tape, h5.output, Nat.le_trans h5.dr (Nat.le_succ _), h5.size, h5.unch, h5.fro, fun k r hm => by
      have := h5.res k r hm
      cases r <;> exact this, h5.away, h5.inj, h5.nodup⟩, h6⟩

/-- THE RULE -/
theorem AWP.region_parts {id : Nat} {l : List Oper} (segs : List (Nat × SegK)) (hm : P.follows .mixedOrders = true) (hlex : Region.lexB .any l.toArray = true) (hok : segOk l segs 0 = true)
    (h : ∀ K : AS → Prop, (∀ σ', Q .normal σ' → K σ') → segSem P n l segs 0 σ K) : AWP P n (.region id l.toArray true) σ Q := by
  intro κ M0 a w hs
  obtain ⟨hback, hpairs, _⟩ := lex_pairs hlex
  refine wp_region_any hm ?_
  have hsz : l.toArray.size = l.length := by simp
  rw [hsz]
  have hrep : ∀ j, (Array.replicate l.length false).getD j false = false := fun j => rep_getD _ j
  refine seg_sound hback hpairs (fun a w σ' s k => ⟨σ', s, k⟩) segs 0 σ l.length _ a _ hok ⟨by simp, fun i hi => by rw [hrep]; simp⟩ (fun j oj hj hc => by rw [hrep] at hc; cases hc) ?_ (h _ fun _ k => k) hs.drew
  unfold cnt
  have hfil : (List.range l.length).filter (fun i => !(Array.replicate l.length false).getD i false) = List.range l.length := by
    rw [List.filter_eq_self]
    intro x _
    simp only [hrep x, Bool.not_false]
  rw [hfil, List.length_range]

/-- what is to be shown of the parts -/
def segVC (P : Program) (l : List Oper) : List (Nat × SegK) → List Oper → Env → Bx → (Env → Bx → Prop) → Prop
  | [], _, env, B, K => K env B
  | (m, .ser) :: s, os, env, B, K => seqVC P l (os.take m) env B fun env B => segVC P l s (os.drop m) env B K
  | (m, .pur) :: s, os, env, B, K => parVC P l B (os.take m) env fun env => segVC P l s (os.drop m) env B K
  | (m, .eff) :: s, os, env, B, K => ∃ fixB, (∀ x ∈ fixB, x ∈ B) ∧ parEVC P l fixB (os.take m) env B fun env B => segVC P l s (os.drop m) env B K

theorem dstsOk_take {l : List Oper} (h : dstsOk n l = true) (lo m : Nat) : dstsOk n ((l.drop lo).take m) = true := by
  unfold dstsOk at *
  rw [List.all_eq_true] at *
  exact fun x hx => h x (List.mem_of_mem_drop (List.mem_of_mem_take hx))

theorem seqSem_mono {all : List Oper} {K K' : AS → Prop} (hk : ∀ σ, K σ → K' σ) : ∀ (os : List Oper) (σ : AS), seqSem P n all os σ K → seqSem P n all os σ K'
  | [], σ, h => hk σ h
  | o :: os, σ, h => by
    refine guardT_map h (fun h => ?_) (fun h => ⟨h.1, seqSem_mono hk os _ h.2⟩)
    cases h with
    | pure t hop hd k => exact .pure t hop hd (seqSem_mono hk os _ k)
    | eff t B' hop hd k => exact .eff t B' hop hd (seqSem_mono hk os _ k)
    | gen j t B' hop hj hf hd k => exact .gen j t B' hop hj hf hd (seqSem_mono hk os _ k)
theorem parPure_mono {all : List Oper} {B : Bx} {K K' : Env → Prop} (hk : ∀ e, K e → K' e) : ∀ (os : List Oper) (env : Env), parPure P n all B os env K → parPure P n all B os env K'
  | [], env, h => hk env h
  | o :: os, env, h => by
    refine guardT_map h (fun h => ?_) (fun h => ⟨h.1, parPure_mono hk os _ h.2⟩)
    obtain ⟨t, hop, hd, k⟩ := h
    exact ⟨t, hop, hd, parPure_mono hk os _ k⟩
theorem parSem_mono {all : List Oper} {fixB : Bx} {K K' : Env → Bx → Prop} (hk : ∀ e b, K e b → K' e b) : ∀ (os : List Oper) (env : Env) (B : Bx), parSem P n all fixB os env B K → parSem P n all fixB os env B K'
  | [], env, B, h => hk env B h
  | o :: os, env, B, h => by
    refine guardT_map h (fun h => ?_) (fun h => ⟨h.1, parSem_mono hk os _ _ h.2⟩)
    cases h with
    | pure t hop hd k => exact .pure t hop hd (parSem_mono hk os _ _ k)
    | eff t B' he hx hop hd k => exact .eff t B' he hx hop hd (parSem_mono hk os _ _ k)

theorem segVC_sound {l : List Oper} {K : AS → Prop} (hd : dstsOk n l = true) : ∀ (segs : List (Nat × SegK)) (lo : Nat) (env : Env) (B : Bx), segVC P l segs (l.drop lo) env B (fun e b => K ⟨e, b⟩) → segSem P n l segs lo ⟨env, B⟩ K
  | [], lo, env, B, h => h
  | (m, .ser) :: s, lo, env, B, h => by
    simp only [segVC, List.drop_drop] at h
    simp only [segSem]
    exact seqSem_mono (fun σ' k => segVC_sound hd s (lo + m) σ'.env σ'.B k) _ _ (seqVC_sound l (fun σ' => segVC P l s (l.drop (lo + m)) σ'.env σ'.B fun e b => K ⟨e, b⟩) _ env B (dstsOk_take hd lo m) h)
  | (m, .pur) :: s, lo, env, B, h => by
    simp only [segVC, List.drop_drop] at h
    simp only [segSem]
    exact parPure_mono (fun e k => segVC_sound hd s (lo + m) e B k) _ _ (parVC_sound l B (fun e => segVC P l s (l.drop (lo + m)) e B fun e b => K ⟨e, b⟩) _ env (dstsOk_take hd lo m) h)
  | (m, .eff) :: s, lo, env, B, h => by
    simp only [segVC, List.drop_drop] at h
    simp only [segSem]
    obtain ⟨fixB, hfix, h⟩ := h
    exact ⟨fixB, hfix, parSem_mono (fun e b k => segVC_sound hd s (lo + m) e b k) _ _ _ (parEVC_sound l fixB (fun e b => segVC P l s (l.drop (lo + m)) e b fun e b => K ⟨e, b⟩) _ env B hfix (dstsOk_take hd lo m) h)⟩

def segsOk (n : Nat) (l : List Oper) (segs : List (Nat × SegK)) : Bool := Region.lexB .any l.toArray && (dstsOk n l && segOk l segs 0)
/-- THE RULE, as the walk takes it -/
theorem AWP.segR {id : Nat} {l : List Oper} {env : Env} {B : Bx} (segs : List (Nat × SegK)) (hm : P.follows .mixedOrders = true) (hl : segsOk n l segs = true)
    (h : ∀ K : Env → Bx → Prop, (∀ e b, Q .normal ⟨e, b⟩ → K e b) → segVC P l segs l env B K) : AWP P n (.region id l.toArray true) ⟨env, B⟩ Q := by
  simp only [segsOk, Bool.and_eq_true] at hl
  exact AWP.region_parts segs hm hl.1 hl.2.2 fun K hK => segVC_sound (K := K) hl.2.1 segs 0 env B (by simpa using h _ fun e b q => hK _ q)

/-- first k operations in any order, the rest one after the other -/
theorem AWP.segP {id : Nat} {l : List Oper} {env : Env} {B : Bx} (k : Nat) (hm : P.follows .mixedOrders = true) (hl : segsOk n l [(k, .pur), (l.length - k, .ser)] = true)
    (h : ∀ K : Env → Bx → Prop, (∀ e b, Q .normal ⟨e, b⟩ → K e b) → parVC P l B (l.take k) env fun env => seqVC P l (l.drop k) env B K) : AWP P n (.region id l.toArray true) ⟨env, B⟩ Q := by
  refine AWP.segR _ hm hl fun K hK => ?_
  have := h K hK
  simp only [segVC]
  have e : (l.drop k).take (l.length - k) = l.drop k := List.take_of_length_le (by simp)
  rw [e]; exact this
/-- .. the first k with effects on the box j alone -/
theorem AWP.segE {id : Nat} {l : List Oper} {env : Env} {B : Bx} (k j : Nat) (hm : P.follows .mixedOrders = true) (hl : segsOk n l [(k, .eff), (l.length - k, .ser)] = true)
    (h : ∀ K : Env → Bx → Prop, (∀ e b, Q .normal ⟨e, b⟩ → K e b) → parEVC P l (Bx.drop j B) (l.take k) env B fun env B => seqVC P l (l.drop k) env B K) : AWP P n (.region id l.toArray true) ⟨env, B⟩ Q := by
  refine AWP.segR _ hm hl fun K hK => ?_
  have := h K hK
  simp only [segVC]
  have e : (l.drop k).take (l.length - k) = l.drop k := List.take_of_length_le (by simp)
  rw [e]; exact ⟨Bx.drop j B, fun x hx => Bx.drop_sub hx, this⟩
theorem segVC_nil {l os : List Oper} {env : Env} {B : Bx} {K : Env → Bx → Prop} (h : K env B) : segVC P l [] os env B K := h
theorem segVC_ser {l os : List Oper} {m : Nat} {s : List (Nat × SegK)} {env : Env} {B : Bx} {K : Env → Bx → Prop} (os1 os2 : List Oper) (h1 : os.take m = os1) (h2 : os.drop m = os2)
    (h : ∀ K' : Env → Bx → Prop, (∀ e b, segVC P l s os2 e b K → K' e b) → seqVC P l os1 env B K') : segVC P l ((m, .ser) :: s) os env B K := by
  subst h1 h2; exact h _ fun _ _ k => k
theorem segVC_pur {l os : List Oper} {m : Nat} {s : List (Nat × SegK)} {env : Env} {B : Bx} {K : Env → Bx → Prop} (os1 os2 : List Oper) (h1 : os.take m = os1) (h2 : os.drop m = os2)
    (h : ∀ K' : Env → Prop, (∀ e, segVC P l s os2 e B K → K' e) → parVC P l B os1 env K') : segVC P l ((m, .pur) :: s) os env B K := by
  subst h1 h2; exact h _ fun _ k => k
theorem segVC_eff {l os : List Oper} {m : Nat} {s : List (Nat × SegK)} {env : Env} {B : Bx} {K : Env → Bx → Prop} (os1 os2 : List Oper) (fixB : Bx) (h1 : os.take m = os1) (h2 : os.drop m = os2) (hfix : ∀ x ∈ fixB, x ∈ B)
    (h : ∀ K' : Env → Bx → Prop, (∀ e b, segVC P l s os2 e b K → K' e b) → parEVC P l fixB os1 env B K') : segVC P l ((m, .eff) :: s) os env B K := by
  subst h1 h2; exact ⟨fixB, hfix, h _ fun _ _ k => k⟩
/-- .. where only the box k is turned -/
theorem segVC_eff1 {l os : List Oper} {m : Nat} {s : List (Nat × SegK)} {env : Env} {B : Bx} {K : Env → Bx → Prop} (k : Nat) (os1 os2 : List Oper) (h1 : os.take m = os1) (h2 : os.drop m = os2)
    (h : ∀ K' : Env → Bx → Prop, (∀ e b, segVC P l s os2 e b K → K' e b) → parEVC P l (Bx.drop k B) os1 env B K') : segVC P l ((m, .eff) :: s) os env B K :=
  segVC_eff os1 os2 (Bx.drop k B) h1 h2 (fun x hx => Bx.drop_sub hx) h
end Go.Sx
