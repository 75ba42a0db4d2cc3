/- A part of the proof: lemmas about the walk of the program and about plain integers and lists. No conditions beyond those that each lemma states. -/
import Derived.Test.YthpndlinlhapgaaDq4
import Derived.Test.YthpndlinlhapgaaDq3
import Derived.RowKit3
set_option linter.unusedVariables false
set_option linter.unusedSimpArgs false
namespace Go.Sx
variable {P : Program} {n : Nat} {σ : AS} {Q : Exit → AS → Prop}
/-- done, and no earlier than lo -/
def xl (lo : Nat) (listed : Array Bool) (i : Nat) : Bool := decide (lo ≤ i) && listed.getD i false
def envS (l : List Oper) (t : Nat → T) (lo : Nat) (env : Env) (i : Nat) : Env := envA l t (fun j => decide (lo ≤ j)) env i
/-- whoever comes at hi or later waits for all that come before hi -/
def Wall (l : List Oper) (hi : Nat) : Prop := ∀ listed : Array Bool, listed.size = l.length → Closed l listed → ∀ i, hi ≤ i → i ∈ Region.ready .any l.toArray listed → ∀ k, k < hi → listed.getD k false = true
structure Mid2 (κ : Kap) (M0 : Mem) (n : Nat) (l : List Oper) (t : Nat → T) (b : Nat → Bx) (e : Nat → Bool) (env0 : Env) (lo hi : Nat) (listed : Array Bool) (a : Act) (w : World) : Prop where
  size : listed.size = l.length
  closed : Closed l listed
  before : ∀ i, i < lo → listed.getD i false = true
  behind : ∀ i, hi ≤ i → listed.getD i false = false
  st : ∃ M ν m, M0.ext κ M ∧ a.tmps.size = n ∧ a.defers = [] ∧ EnvOk M ν a.tmps (envA l t (xl lo listed) env0 l.length) ∧ lo ≤ m ∧ m ≤ hi ∧
    (∀ i, lo ≤ i → i < hi → e i = true → (listed.getD i false = true ↔ i < m)) ∧ Sat κ M ν (b m) w ∧ ∀ k, pin ≤ k → ν k = κ.nu k
def cnt (l : List Oper) (listed : Array Bool) : Nat := ((List.range l.length).filter fun i => !listed.getD i false).length
def FirstOnly (l : List Oper) (listed : Array Bool) (hi : Nat) : Prop := listed.size = l.length ∧ ∀ i, i < l.length → listed.getD i false = decide (i < hi)
theorem cnt_set {l : List Oper} {listed : Array Bool} {i : Nat} (hsz : listed.size = l.length) (hil : i < l.length) (hxi : listed.getD i false = false) : cnt l listed = cnt l (listed.setIfInBounds i true) + 1 := by
  have hisz : i < listed.size := by omega
  have hsplit : ∀ r : List Nat, r.Nodup → i ∈ r → (r.filter fun j => !listed.getD j false).length = (r.filter fun j => !(listed.setIfInBounds i true).getD j false).length + 1 := by
    intro r
    induction r with
    | nil => intro _ h; cases h
    | cons y r ihr =>
      intro hnd hmem
      simp only [List.nodup_cons] at hnd
      have hself : (listed.setIfInBounds i true).getD i false = true := by simp [hisz]
      rcases List.mem_cons.1 hmem with rfl | hmem
      · have : (r.filter fun j => !listed.getD j false) = (r.filter fun j => !(listed.setIfInBounds i true).getD j false) := by
          apply List.filter_congr
          intro j hj
          have hne : i ≠ j := fun h => hnd.1 (h ▸ hj)
          rw [getD_set_ne false hne]
        rw [List.filter_cons, List.filter_cons, hxi, hself, this]
        simp
      · have hne : i ≠ y := fun h => hnd.1 (h ▸ hmem)
        have ih' := ihr hnd.2 hmem
        rw [List.filter_cons, List.filter_cons, getD_set_ne false hne]
        cases listed.getD y false <;> simp only [Bool.not_true, Bool.not_false, if_true, if_false, Bool.false_eq_true, List.length_cons] <;> omega
  exact hsplit (List.range l.length) List.nodup_range (by simpa using hil)
theorem ready_least {l : List Oper} (hback : Back l) {listed : Array Bool} (hsz : listed.size = l.length) (hr : Region.ready .any l.toArray listed = []) : ∀ i, i < l.length → listed.getD i false = true := by
  intro i
  induction i using Nat.strongRecOn with
  | _ i ih =>
    intro hi
    cases hc : listed.getD i false with
    | true => rfl
    | false =>
      exfalso
      have : i ∈ Region.ready .any l.toArray listed := by
        rw [mem_ready]
        refine ⟨?_, l[i], by simp [hi], fun e' he' hb' => ?_⟩
        · have : i < listed.size := by omega
          simp [this] at hc ⊢
          exact hc
        · have := hback i l[i] (by simp [hi]) e' he' hb'
          exact ih e'.on this (by omega)
      rw [hr] at this
      cases this
theorem cnt_zero {l : List Oper} {listed : Array Bool} (h : cnt l listed = 0) : ∀ i, i < l.length → listed.getD i false = true := by
  intro i hi
  cases hc : listed.getD i false with
  | true => rfl
  | false =>
    exfalso
    have : i ∈ (List.range l.length).filter fun i => !listed.getD i false := by
      rw [List.mem_filter]; exact ⟨by simpa using hi, by simp only [hc]; rfl⟩
    unfold cnt at h
    rw [List.length_eq_zero_iff.1 h] at this
    cases this
theorem ready_none {l : List Oper} {listed : Array Bool} (hsz : listed.size = l.length) (hall : ∀ i, i < l.length → listed.getD i false = true) : Region.ready .any l.toArray listed = [] := by
  cases hr : Region.ready .any l.toArray listed with
  | nil => rfl
  | cons x xs' =>
    exfalso
    have hx : x ∈ Region.ready .any l.toArray listed := by rw [hr]; simp
    obtain ⟨h0, o, ho, _⟩ := mem_ready.1 hx
    have hlt : x < l.length := by have := (Array.getElem?_eq_some_iff.1 ho).1; simpa using this
    have := hall x hlt
    have hsz' : x < listed.size := by rw [hsz]; exact hlt
    simp [hsz'] at h0 this
    rw [h0] at this; cases this
/-- effects come in the order of the text, inside the part -/
def EffOrdS (l : List Oper) (e : Nat → Bool) (lo hi : Nat) : Prop := ∀ listed : Array Bool, Closed l listed → ∀ i j, lo ≤ i → i < j → j < hi → e i = true → e j = true → listed.getD j false = true → listed.getD i false = true
theorem part_sound {κ : Kap} {M0 : Mem} {l : List Oper} {fixB : Bx} {t : Nat → T} {b : Nat → Bx} {e : Nat → Bool} {env0 : Env} {Q' : Exit → Act → World → Prop} {lo hi_ : Nat} (hlo : lo ≤ hi_) (hhi : hi_ ≤ l.length)
    (hback : Back l) (hpairs : Pairs l) (hord : EffOrdS l e lo hi_) (hwall : Wall l hi_)
    (hs : ∀ i o, lo ≤ i → i < hi_ → l[i]? = some o → OSpec P n l fixB o (envS l t lo env0 i) (b i) (t i) (b (i + 1)) (e i)) (hf : ∀ i, lo ≤ i → i ≤ hi_ → ∀ x ∈ fixB, x ∈ b i)
    (hcont : ∀ fuel listed a w, FirstOnly l listed hi_ → Closed l listed → cnt l listed = fuel → St κ M0 n ⟨envS l t lo env0 hi_, b hi_⟩ a w → wpAny P .any l.toArray Q' fuel listed a w) :
    ∀ (fuel : Nat) (listed : Array Bool) (a : Act) (w : World), cnt l listed = fuel → Mid2 κ M0 n l t b e env0 lo hi_ listed a w →
      wpAny P .any l.toArray Q' fuel listed a w := by
  have hbc : ∀ i, lo ≤ i → i < hi_ → e i = false → b (i + 1) = b i := by
    intro i h0 hi' he
    rcases (hs i (l[i]'(by omega)) h0 hi' (List.getElem?_eq_getElem (by omega))).2 with ⟨_, ⟨_, _, h⟩ | ⟨h, _⟩⟩ | ⟨_, _, h, _⟩
    · exact h
    · rw [he] at h; cases h
    · exact h
  have const : ∀ (m i : Nat), lo ≤ m → m ≤ i → i ≤ hi_ → (∀ j, m ≤ j → j < i → e j = false) → b i = b m := by
    intro m i hm
    induction i with
    | zero => intro h _ _; have : m = 0 := by omega
              subst this; rfl
    | succ i ih =>
      intro h hl hn
      by_cases hmi : m = i + 1
      · subst hmi; rfl
      · rw [hbc i (by omega) (by omega) (hn i (by omega) (by omega))]
        exact ih (by omega) (by omega) (fun j h1 h2 => hn j h1 (by omega))
  have done : ∀ (fuel : Nat) (listed : Array Bool) (a : Act) (w : World), cnt l listed = fuel → Mid2 κ M0 n l t b e env0 lo hi_ listed a w → (∀ i, i < hi_ → listed.getD i false = true) → wpAny P .any l.toArray Q' fuel listed a w := by
    intro fuel listed a w hfuel hm hall
    obtain ⟨M, ν, m, h1, h2, h3, h4, h5a, h5, h6, h7, h8⟩ := hm.st
    refine hcont fuel listed a w ⟨hm.size, fun i hi' => ?_⟩ hm.closed hfuel ⟨M, ν, h1, h2, h3, ?_, ?_⟩
    · by_cases h : i < hi_
      · rw [hall i h]; simp [h]
      · rw [hm.behind i (by omega)]; simp [h]
    · intro d u hu
      refine h4 d u ?_
      unfold envS at hu
      rw [envA_skip l t (xl lo listed) env0 d hi_ l.length hhi (fun j o hj hjl ho hod => by unfold xl; rw [hm.behind j hj]; simp),
        envA_same l t (xl lo listed) (fun j => decide (lo ≤ j)) env0 d hi_ (fun j o hj _ _ => by unfold xl; rw [hall j hj]; simp)]
      exact hu
    · have : b hi_ = b m := const m hi_ h5a h5 (Nat.le_refl _) (fun j hj1 hj2 => by
        cases hj : e j with
        | false => rfl
        | true => have := (h6 j (by omega) hj2 hj).1 (hall j hj2); omega)
      simp only [this]
      exact ⟨h7, h8⟩
  intro fuel
  induction fuel with
  | zero =>
    intro listed a w hfuel hm
    exact done 0 listed a w hfuel hm (fun i hi' => cnt_zero hfuel i (by omega))
  | succ fuel ih =>
    intro listed a w hfuel hm
    by_cases hdone : ∀ i, i < hi_ → listed.getD i false = true
    · exact done (fuel + 1) listed a w hfuel hm hdone
    refine ⟨fun hr => absurd (fun i hi' => ready_least hback hm.size hr i (by omega)) hdone, fun i hi => ?_⟩
    obtain ⟨h0, oi, hoi, hall⟩ := mem_ready.1 hi
    have hil : i < l.length := by have := (Array.getElem?_eq_some_iff.1 hoi).1; simpa using this
    have hihi : i < hi_ := by
      rcases Nat.lt_or_ge i hi_ with h | h
      · exact h
      · exact absurd (hwall listed hm.size hm.closed i h hi) hdone
    have hoi' : l[i]? = some oi := by simpa using hoi
    have hisz : i < listed.size := by rw [hm.size]; exact hil
    have hxi : listed.getD i false = false := by simp [hisz] at h0 ⊢; exact h0
    have hloi : lo ≤ i := by
      rcases Nat.lt_or_ge i lo with h | h
      · have := hm.before i h; rw [hxi] at this; cases this
      · exact h
    obtain ⟨M, ν, m, h1, h2, h3, h4, h5a, h5, h6, h7, h8⟩ := hm.st
    obtain ⟨hd, hspec⟩ := hs i oi hloi hihi hoi'
    -- the operands stand as in the order of the text
    have look : ∀ d, d ∈ oi.looksAt l.toArray → (envA l t (xl lo listed) env0 l.length).lookup d = (envS l t lo env0 i).lookup d := by
      intro d hdm
      unfold envS
      rw [envA_skip l t (xl lo listed) env0 d i l.length (by omega) ?_, envA_same l t (xl lo listed) (fun j => decide (lo ≤ j)) env0 d i ?_]
      · intro j o hj ho hod
        rcases hpairs j i o oi hj ho hoi' with ⟨e', he', hb', hon⟩ | hap
        · have hj2 := hall e' he' hb'
          rw [hon] at hj2
          unfold xl; rw [hj2]; simp
        · exact absurd hdm ((Oper.apart_spec hap).1 d hod)
      · intro j o hj hjl ho hod
        by_cases hji : i = j
        · subst hji; unfold xl; rw [hxi]; simp
        · cases hxj : listed.getD j false with
          | false => unfold xl; rw [hxj]; simp
          | true =>
            rcases hpairs i j oi o (by omega) hoi' ho with ⟨e', he', hb', hon⟩ | hap
            · have := hm.closed j o ho hxj e' he' hb'
              rw [hon, hxi] at this; cases this
            · exact absurd hdm ((Oper.apart_spec hap).2.2 d hod)
    have hclosed : Closed l (listed.setIfInBounds i true) := by
      intro j oj hj hx e' he' hb'
      by_cases hji : i = j
      · subst hji
        rw [hoi'] at hj; cases hj
        exact getD_set_true (hall e' he' hb')
      · rw [getD_set_ne false hji] at hx
        exact getD_set_true (hm.closed j oj hj hx e' he' hb')
    have hcount : cnt l (listed.setIfInBounds i true) = fuel := by
      have := cnt_set hm.size hil hxi; omega
    have hbefore : ∀ j, j < lo → (listed.setIfInBounds i true).getD j false = true := fun j hj => by rw [getD_set_ne false (by omega)]; exact hm.before j hj
    have hbehind : ∀ j, hi_ ≤ j → (listed.setIfInBounds i true).getD j false = false := fun j hj => by rw [getD_set_ne false (by omega)]; exact hm.behind j hj
    -- after the operation
    have after : ∀ (M' : Mem) (v : Value) (w' : World) (m' : Nat), M.ext κ M' → (t i).rep M' ν v → lo ≤ m' → m' ≤ hi_ →
        (∀ j, lo ≤ j → j < hi_ → e j = true → ((listed.setIfInBounds i true).getD j false = true ↔ j < m')) → Sat κ M' ν (b m') w' →
        Mid2 κ M0 n l t b e env0 lo hi_ (listed.setIfInBounds i true) (a.put oi.dst v) w' := by
      intro M' v w' m' hle hr hml hm' hem hsat
      refine ⟨by simpa using hm.size, hclosed, hbefore, hbehind, M', ν, m', h1.trans hle, by rw [Act.put_size]; exact h2, by rw [Act.put_defers']; exact h3, ?_, hml, hm', hem, hsat, h8⟩
      have hput := EnvOk.put (df := a.defers) (h4.mono hle.1) (dst := oi.dst) (v := v) (t := t i) (fun d he => by rw [h2]; exact dstOk_spec hd d he) hr
      intro k u hu
      refine hput k u ?_
      rw [putE_lookup]
      by_cases hk : oi.dst = some k
      · rw [if_pos hk]
        -- nobody behind i that writes k is done
        have e1 := envA_skip l t (xl lo (listed.setIfInBounds i true)) env0 k (i + 1) l.length (by omega) (fun j o hj hjl ho hod => by
          cases hxj : (listed.setIfInBounds i true).getD j false with
          | false => unfold xl; rw [hxj]; simp
          | true =>
            have hne : i ≠ j := by omega
            have hxj' : listed.getD j false = true := by rw [← getD_set_ne false hne]; exact hxj
            rcases hpairs i j oi o (by omega) hoi' ho with ⟨e', he', hb', hon⟩ | hap
            · have := hm.closed j o ho hxj' e' he' hb'
              rw [hon, hxi] at this; cases this
            · exact absurd hod ((Oper.apart_spec hap).2.1 k hk))
        rw [e1] at hu
        have hself : xl lo (listed.setIfInBounds i true) i = true := by simp [xl, hisz, hloi]
        rw [envA, hself] at hu
        simp only [cond_true, putE_lookup, hoi', Option.bind_some, hk, if_true] at hu
        exact hu
      · rw [if_neg hk]
        have e2 := envA_same l t (xl lo (listed.setIfInBounds i true)) (xl lo listed) env0 k l.length (fun j o hj ho hod => by
          have hne : i ≠ j := fun h => by subst h; rw [hoi'] at ho; cases ho; exact hk hod
          unfold xl; rw [getD_set_ne false hne])
        rw [← e2]; exact hu
    have hon : EnvOn M ν a (envS l t lo env0 i) oi := by
      intro d u hdo hu
      refine h4 d u ?_
      rw [look d (looksAt_op hdo)]; exact hu
    have hgd : ∀ g want d u, oi.guard = some (g, want) → (l[g]?).bind (·.dst) = some d → (envS l t lo env0 i).lookup d = some u → u.rep M ν (a.tmps.getD d undef) := by
      intro g want d u hg hgd hu
      refine h4 d u ?_
      rw [look d (looksAt_guard hg hgd)]; exact hu
    have samem : e i = false → ∀ j, lo ≤ j → j < hi_ → e j = true → ((listed.setIfInBounds i true).getD j false = true ↔ j < m) := by
      intro hei j hjl hj hej
      have hne : i ≠ j := fun h => by subst h; rw [hei] at hej; cases hej
      rw [getD_set_ne false hne]; exact h6 j hjl hj hej
    unfold wpOp
    rw [hoi]
    simp only []
    rcases hspec with ⟨hg, ⟨hei, hop, hbb⟩ | ⟨hei, hme, hop⟩⟩ | ⟨hg, ht, hbb, hei⟩
    · rw [if_pos (wanted_of hg hgd)]
      left
      refine Oper.wp_mono_Q (Oper.wp_mono ?_ (hop κ M ν a w (b m) (hf m h5a h5) hon h7))
      rintro a' w' ⟨v, M', rfl, hle, hr, hsat⟩
      exact ih _ _ _ hcount (after M' v w' m hle hr h5a h5 (samem hei) hsat)
    · rw [if_pos (wanted_of hg hgd)]
      left
      -- m and i: no effect between them
      have hmi : m ≤ i := by
        rcases Nat.lt_or_ge i m with h | h
        · have := (h6 i hloi hihi hei).2 h; rw [hxi] at this; cases this
        · exact h
      have prev : ∀ j, lo ≤ j → j < i → e j = true → listed.getD j false = true := by
        intro j hjl hj hej
        have hself : (listed.setIfInBounds i true).getD i false = true := by simp [hisz]
        have := hord _ hclosed j i hjl hj hihi hej hei hself
        rwa [getD_set_ne false (by omega)] at this
      have hbm : b i = b m := const m i h5a hmi (by omega) (fun j hj1 hj2 => by
        cases hj : e j with
        | false => rfl
        | true => have := (h6 j (by omega) (by omega) hj).1 (prev j (by omega) hj2 hj); omega)
      refine Oper.wp_mono_Q (Oper.wp_mono ?_ (hop κ M ν a w hon (by rw [hbm]; exact h7)))
      rintro a' w' ⟨v, M', rfl, hle, hr, hsat⟩
      refine ih _ _ _ hcount (after M' v w' (i + 1) hle hr (by omega) hihi (fun j hjl hj hej => ?_) hsat)
      by_cases hji : i = j
      · subst hji; simp [hisz]
      · rw [getD_set_ne false hji]
        constructor
        · intro hx
          rcases Nat.lt_or_ge i j with h | h
          · have := hord _ hm.closed i j hloi h hj hei hej hx
            rw [hxi] at this; cases this
          · omega
        · intro hx
          exact prev j hjl (by omega) hej
    · rw [unwanted_of hg hgd]
      simp only [Bool.false_eq_true, if_false]
      refine ih _ _ _ hcount (after M undef w m (Mem.ext.refl κ M) (by rw [ht]; simp [undefT, T.rep, Cell.rep, C.rep]) h5a h5 (samem hei) h7)
def maskOf (ms : List Nat) (o : Oper) : Nat := o.after.toList.foldl (fun acc e => bif Region.binds .any e then acc ||| (2 ^ e.on ||| ms.getD e.on 0) else acc) 0
def masks : List Oper → List Nat → List Nat
  | [], ms => ms
  | o :: os, ms => masks os (ms ++ [maskOf ms o])
def maskAll (l : List Oper) : List Nat := masks l []
/-- those from hi on wait for all before hi -/
def wallB (l : List Oper) (hi : Nat) : Bool := ((maskAll l).drop hi).all fun m => (List.range hi).all fun k => m.testBit k
theorem maskFold_spec {ms : List Nat} {k : Nat} : ∀ (es : List Edge) (acc : Nat), (es.foldl (fun acc e => bif Region.binds .any e then acc ||| (2 ^ e.on ||| ms.getD e.on 0) else acc) acc).testBit k = true →
    acc.testBit k = true ∨ ∃ e ∈ es, Region.binds .any e = true ∧ (e.on = k ∨ (ms.getD e.on 0).testBit k = true)
  | [], acc, h => .inl h
  | e :: es, acc, h => by
    simp only [List.foldl_cons] at h
    rcases maskFold_spec es _ h with h | ⟨e', h1, h2⟩
    · cases hb : Region.binds .any e with
      | true =>
        rw [hb] at h
        simp only [cond_true, Nat.testBit_or, Bool.or_eq_true, Nat.testBit_two_pow, decide_eq_true_eq] at h
        rcases h with h | h | h
        · exact .inl h
        · exact .inr ⟨e, by simp, hb, .inl h⟩
        · exact .inr ⟨e, by simp, hb, .inr h⟩
      | false => rw [hb] at h; exact .inl h
    · exact .inr ⟨e', List.mem_cons_of_mem _ h1, h2⟩
theorem masks_length : ∀ (l : List Oper) (ms : List Nat), (masks l ms).length = ms.length + l.length
  | [], ms => rfl
  | o :: os, ms => by rw [masks, masks_length os]; simp; omega
/-- whoever is done or ready has those done that its mask names -/
def MaskOk (l : List Oper) (ms : List Nat) : Prop := ∀ (i m : Nat), ms[i]? = some m → ∀ listed : Array Bool, Closed l listed → (∀ o : Oper, l[i]? = some o → ∀ e ∈ o.after, Region.binds .any e = true → listed.getD e.on false = true) → ∀ k, m.testBit k = true → listed.getD k false = true
theorem masks_ok (l : List Oper) : ∀ (os : List Oper) (ms : List Nat), l.drop ms.length = os → MaskOk l ms → MaskOk l (masks os ms)
  | [], ms, _, h => h
  | o :: os, ms, hd, h => by
    rw [masks]
    refine masks_ok l os _ ?_ ?_
    · rw [List.length_append, List.length_singleton, ← List.drop_drop, hd]; rfl
    · intro i m hm listed hc hr k hk
      by_cases hi : i < ms.length
      · rw [List.getElem?_append_left hi] at hm
        exact h i m hm listed hc hr k hk
      · rw [List.getElem?_append_right (by omega)] at hm
        have hi2 : i = ms.length := by
          rcases Nat.lt_or_ge (i - ms.length) 1 with h1 | h1
          · omega
          · rw [List.getElem?_eq_none (by simpa using h1)] at hm; cases hm
        subst hi2
        simp only [Nat.sub_self, List.getElem?_cons_zero, Option.some.injEq] at hm
        subst hm
        have ho : l[ms.length]? = some o := by
          have : (l.drop ms.length)[0]? = some o := by rw [hd]; rfl
          simpa using this
        rcases maskFold_spec _ _ hk with h0 | ⟨e, he, hb, h1⟩
        · simp at h0
        · have hle := hr o ho e (by simpa using he) hb
          rcases h1 with h1 | h1
          · rw [← h1]; exact hle
          · cases hmi : ms[e.on]? with
            | none => rw [List.getD_eq_getElem?_getD, hmi] at h1; simp at h1
            | some m' =>
              rw [List.getD_eq_getElem?_getD, hmi] at h1
              refine h e.on m' hmi listed hc (fun o' ho' e' he' hb' => hc e.on o' ho' hle e' he' hb') k h1
theorem maskAll_ok (l : List Oper) : MaskOk l (maskAll l) := masks_ok l l [] rfl (fun i m h => by simp at h)
theorem wall_of {l : List Oper} {hi : Nat} (h : wallB l hi = true) : Wall l hi := by
  intro listed hsz hc i hi' hr k hk
  obtain ⟨h0, oi, hoi, hall⟩ := mem_ready.1 hr
  have hil : i < l.length := by have := (Array.getElem?_eq_some_iff.1 hoi).1; simpa using this
  have hoi' : l[i]? = some oi := by simpa using hoi
  have hlen : (maskAll l).length = l.length := by unfold maskAll; rw [masks_length]; simp
  have hm : (maskAll l)[i]? = some ((maskAll l)[i]'(by omega)) := List.getElem?_eq_getElem (by omega)
  refine maskAll_ok l i _ hm listed hc (fun o ho e he hb => by rw [hoi'] at ho; cases ho; exact hall e he hb) k ?_
  have hmem : (maskAll l)[i]'(by omega) ∈ (maskAll l).drop hi := by
    rw [List.mem_iff_getElem?]
    exact ⟨i - hi, by rw [List.getElem?_drop, show hi + (i - hi) = i by omega]; exact hm⟩
  have := List.all_eq_true.1 h _ hmem
  exact List.all_eq_true.1 this k (by simpa using hk)
/-- of two that may turn boxes the later waits for the earlier -/
def effB (l : List Oper) (lo hi : Nat) : Bool :=
  (List.range hi).all fun j => Nat.blt j lo || (match l[j]?, (maskAll l)[j]? with
    | some o, some m => !mayEff o || (List.range j).all fun i => Nat.blt i lo || (match l[i]? with
      | some o' => !mayEff o' || m.testBit i
      | none => true)
    | _, _ => false)
theorem eff_of {l : List Oper} {e : Nat → Bool} {lo hi : Nat} (h : effB l lo hi = true) (hm : ∀ i, lo ≤ i → i < hi → e i = true → ∃ o, l[i]? = some o ∧ mayEff o = true) : EffOrdS l e lo hi := by
  intro listed hc i j hlo hij hj hei hej hx
  obtain ⟨oi, hoi, hmi⟩ := hm i hlo (by omega) hei
  obtain ⟨oj, hoj, hmj⟩ := hm j (by omega) hj hej
  have h1 := List.all_eq_true.1 h j (by simpa using hj)
  have hnj : Nat.blt j lo = false := by cases hb : Nat.blt j lo with
    | false => rfl
    | true => have : j < lo := by simpa using hb
              omega
  have hni : Nat.blt i lo = false := by cases hb : Nat.blt i lo with
    | false => rfl
    | true => have : i < lo := by simpa using hb
              omega
  rw [hnj, Bool.false_or, hoj] at h1
  split at h1
  · rename_i o m eo em
    simp only [Option.some.injEq] at eo
    subst eo
    rw [hmj, Bool.not_true, Bool.false_or] at h1
    have h2 := List.all_eq_true.1 h1 i (by simpa using hij)
    rw [hni, Bool.false_or, hoi] at h2
    simp only [hmi, Bool.not_true, Bool.false_or] at h2
    exact maskAll_ok l j m em listed hc (fun o ho e he hb => hc j o ho hx e he hb) i h2
  · cases h1
inductive SegK where
  | ser | pur | eff
def segSem (P : Program) (n : Nat) (l : List Oper) : List (Nat × SegK) → Nat → AS → (AS → Prop) → Prop
  | [], _, σ, K => K σ
  | (m, .ser) :: s, lo, σ, K => seqSem P n l ((l.drop lo).take m) σ fun σ' => segSem P n l s (lo + m) σ' K
  | (m, .pur) :: s, lo, σ, K => parPure P n l σ.B ((l.drop lo).take m) σ.env fun env => segSem P n l s (lo + m) ⟨env, σ.B⟩ K
  | (m, .eff) :: s, lo, σ, K => ∃ fixB, (∀ x ∈ fixB, x ∈ σ.B) ∧ parSem P n l fixB ((l.drop lo).take m) σ.env σ.B fun env B => segSem P n l s (lo + m) ⟨env, B⟩ K
def segOk (l : List Oper) : List (Nat × SegK) → Nat → Bool
  | [], lo => lo == l.length
  | (m, .ser) :: s, lo => (List.range m).all (fun i => wallB l (lo + i + 1)) && (Nat.ble (lo + m) l.length && segOk l s (lo + m))
  | (m, .pur) :: s, lo => wallB l (lo + m) && (Nat.ble (lo + m) l.length && segOk l s (lo + m))
  | (m, .eff) :: s, lo => wallB l (lo + m) && (effB l lo (lo + m) && (Nat.ble (lo + m) l.length && segOk l s (lo + m)))
theorem mid2_start {κ : Kap} {M0 : Mem} {l : List Oper} {t : Nat → T} {b : Nat → Bx} {e : Nat → Bool} {lo hi : Nat} {a : Act} {w : World} {listed : Array Bool} (hlo : lo ≤ hi) (hhi : hi ≤ l.length) (hF : FirstOnly l listed lo) (hc : Closed l listed) (hb0 : b lo = σ.B) (hs : St κ M0 n σ a w) :
    Mid2 κ M0 n l t b e σ.env lo hi listed a w := by
  obtain ⟨M, ν, h1, h2, h3, h4, h5, h6⟩ := hs
  have hout : ∀ i, l.length ≤ i → listed.getD i false = false := fun i hi => by
    have : listed.size ≤ i := by rw [hF.1]; exact hi
    simp [Array.getElem?_eq_none this]
  have hx : ∀ j, xl lo listed j = false := fun j => by
    unfold xl
    by_cases hj : lo ≤ j
    · by_cases hjl : j < l.length
      · rw [hF.2 j hjl]; simp
      · rw [hout j (by omega)]; simp
    · simp [hj]
  have henv : ∀ m, envA l t (xl lo listed) σ.env m = σ.env := by
    intro m
    induction m with
    | zero => rfl
    | succ m ih => rw [envA, hx]; simpa using ih
  refine ⟨hF.1, hc, fun i hi' => by rw [hF.2 i (by omega)]; simpa using hi', fun i hi' => ?_, M, ν, lo, h1, h2, h3, ?_, Nat.le_refl _, hlo, fun i hlo' hi' he => ?_, ?_, h6⟩
  · by_cases hjl : i < l.length
    · rw [hF.2 i hjl]; simp; omega
    · exact hout i (by omega)
  · rw [henv]; exact h4
  · rw [hF.2 i (by omega)]; simp
  · rw [hb0]; exact h5
theorem envS_local {l : List Oper} {t : Nat → T} {lo m : Nat} {env : Env} : ∀ i, i ≤ m → envS l (fun j => t (j - lo)) lo env (lo + i) = envA ((l.drop lo).take m) t (fun _ => true) env i
  | 0, _ => by
    have : ∀ k, k ≤ lo → envS l (fun j => t (j - lo)) lo env k = env := by
      intro k hk
      induction k with
      | zero => rfl
      | succ k ih =>
        unfold envS at *
        rw [envA, show decide (lo ≤ k) = false by simp; omega]
        simpa using ih (by omega)
    simpa [envA] using this lo (Nat.le_refl _)
  | i + 1, hi => by
    have ih := envS_local (l := l) (t := t) (lo := lo) (m := m) (env := env) i (by omega)
    unfold envS at *
    rw [show lo + (i + 1) = (lo + i) + 1 by omega, envA, ih, show decide (lo ≤ lo + i) = true by simp, envA]
    simp only [cond_true]
    have e1 : ((l.drop lo).take m)[i]? = l[lo + i]? := by rw [List.getElem?_take, if_pos (by omega), List.getElem?_drop]
    rw [e1, show lo + i - lo = i by omega]
theorem FirstOnly.set {l : List Oper} {listed : Array Bool} {j : Nat} (h : FirstOnly l listed j) (hj : j < l.length) : FirstOnly l (listed.setIfInBounds j true) (j + 1) := by
  refine ⟨by simpa using h.1, fun i hi => ?_⟩
  by_cases hij : j = i
  · subst hij
    have : j < listed.size := by rw [h.1]; exact hj
    simp [this]
  · rw [getD_set_ne false hij, h.2 i hi]
    congr 1
    simp only [eq_iff_iff]
    omega
theorem ser_sound {κ : Kap} {M0 : Mem} {l : List Oper} {Q' : Exit → Act → World → Prop} {K : AS → Prop} {hi : Nat} (hback : Back l) (hhi : hi ≤ l.length)
    (hcont : ∀ fuel listed a w σ, FirstOnly l listed hi → Closed l listed → cnt l listed = fuel → K σ → St κ M0 n σ a w → wpAny P .any l.toArray Q' fuel listed a w) :
    ∀ (os : List Oper) (lo : Nat) (σ : AS) (fuel : Nat) (listed : Array Bool) (a : Act) (w : World), (l.drop lo).take (hi - lo) = os → lo ≤ hi → (∀ i, lo ≤ i → i < hi → wallB l (i + 1) = true) →
      FirstOnly l listed lo → Closed l listed → cnt l listed = fuel → seqSem P n l os σ K → St κ M0 n σ a w → wpAny P .any l.toArray Q' fuel listed a w
  | [], lo, σ, fuel, listed, a, w, hos, hlo, _, hF, hc, hcnt, h, hs => by
    have : lo = hi := by
      have := congrArg List.length hos
      simp only [List.length_take, List.length_drop, List.length_nil] at this
      omega
    subst this
    exact hcont fuel listed a w σ hF hc hcnt h hs
  | o :: os, lo, σ, fuel, listed, a, w, hos, hlo, hw, hF, hc, hcnt, h, hs => by
    have hlt : lo < hi := by
      have := congrArg List.length hos
      simp only [List.length_take, List.length_drop, List.length_cons] at this
      omega
    have hol : l[lo]? = some o := by
      have : ((l.drop lo).take (hi - lo))[0]? = some o := by rw [hos]; rfl
      rw [List.getElem?_take, if_pos (by omega), List.getElem?_drop] at this
      simpa using this
    have hos' : (l.drop (lo + 1)).take (hi - (lo + 1)) = os := by
      have h1 : l.drop lo = o :: l.drop (lo + 1) := by
        rw [List.drop_eq_getElem_cons (by omega)]
        congr 1
        have := List.getElem?_eq_getElem (l := l) (i := lo) (by omega)
        rw [hol] at this
        exact (Option.some.inj this).symm
      rw [h1, show hi - lo = (hi - (lo + 1)) + 1 by omega, List.take_succ_cons] at hos
      exact (List.cons.inj hos).2
    have hunl : listed.getD lo false = false := by rw [hF.2 lo (by omega)]; simp
    cases fuel with
    | zero => have := cnt_zero hcnt lo (by omega); rw [hunl] at this; cases this
    | succ fuel =>
      refine ⟨fun hr => ?_, fun i hi' => ?_⟩
      · have := ready_least hback hF.1 hr lo (by omega); rw [hunl] at this; cases this
      · obtain ⟨h0, oi, hoi, hall⟩ := mem_ready.1 hi'
        have hil : i < l.length := by have := (Array.getElem?_eq_some_iff.1 hoi).1; simpa using this
        have hilo : i = lo := by
          rcases Nat.lt_trichotomy i lo with hlt' | he | hgt
          · exfalso
            have hsz : i < listed.size := by rw [hF.1]; exact hil
            have := hF.2 i hil
            simp [hsz] at h0 this
            rw [h0] at this
            simp at this; omega
          · exact he
          · have := wall_of (hw lo (Nat.le_refl _) hlt) listed hF.1 hc i (by omega) hi' lo (by omega)
            rw [hunl] at this; cases this
        subst hilo
        have hoi' : l[i]? = some oi := by simpa using hoi
        rw [hol] at hoi'; cases hoi'
        have hclosed : Closed l (listed.setIfInBounds i true) := by
          intro j oj hj hx e' he' hb'
          by_cases hji : i = j
          · subst hji
            rw [hol] at hj; cases hj
            exact getD_set_true (hall e' he' hb')
          · rw [getD_set_ne false hji] at hx
            exact getD_set_true (hc j oj hj hx e' he' hb')
        have hcnt' : cnt l (listed.setIfInBounds i true) = fuel := by
          have := cnt_set hF.1 hil hunl; omega
        have hF' := hF.set hil
        have next := fun σ' a' w' h' hs' => ser_sound hback hhi hcont os (i + 1) σ' fuel (listed.setIfInBounds i true) a' w' hos' (by omega) (fun i' h1 h2 => hw i' (by omega) h2) hF' hclosed hcnt' h' hs'
        obtain ⟨M, ν, h1, h2, h3, h4, h5, h6⟩ := id hs
        unfold wpOp
        have hol' : l.toArray[i]? = some o := by simpa using hol
        rw [hol']
        simp only []
        rcases guard_some h4 h with ⟨hw', hx⟩ | ⟨hw', hd, hx⟩
        · rw [if_pos hw']
          left
          cases hx with
          | pure t hop hd k =>
            refine Oper.wp_mono_Q (Oper.wp_mono ?_ (hop κ M ν a w σ.B (fun _ h => h) (h4.on o) h5))
            rintro a' w' ⟨v, M', rfl, hle, hr, hsat⟩
            exact next _ _ w' k (put_St h1 h2 h3 (h4.mono hle.1) hle (dstOk_spec hd) hr hsat h6)
          | eff t B' hop hd k =>
            refine Oper.wp_mono_Q (Oper.wp_mono ?_ (hop κ M ν a w (h4.on o) h5))
            rintro a' w' ⟨v, M', rfl, hle, hr, hsat⟩
            exact next _ _ w' k (put_St h1 h2 h3 (h4.mono hle.1) hle (dstOk_spec hd) hr hsat h6)
          | gen j t B' hop hj hf hd k =>
            refine Oper.wp_mono_Q (Oper.wp_mono ?_ (hop κ M ν a w (h4.on o) h5))
            rintro a' w' ⟨v, M', ν', rfl, hle, hν, hr, hsat⟩
            exact next _ _ w' k (put_St h1 h2 h3 ((h4.fresh hf hν).mono hle.1) hle (dstOk_spec hd) hr hsat (fun i hi => by rw [hν i (by omega)]; exact h6 i hi))
          | genx js t B' hop hj hf hd k =>
            refine Oper.wp_mono_Q (Oper.wp_mono ?_ (hop κ M ν a w (h4.on o) h5))
            rintro a' w' ⟨v, M', ν', rfl, hle, hν, hr, hsat⟩
            exact next _ _ w' k (put_St h1 h2 h3 ((h4.freshL hf hν).mono hle.1) hle (dstOk_spec hd) hr hsat (fun i hi => by rw [hν i (fun hm => by have := hj i hm; omega)]; exact h6 i hi))
        · rw [hw']
          simp only [Bool.false_eq_true, if_false]
          have := put_St (t := undefT) (v := undef) (dst := o.dst) h1 h2 h3 h4 (Mem.ext.refl κ M) (dstOk_spec hd) (by simp [undefT, T.rep, Cell.rep, C.rep]) h5 h6
          exact next _ _ w hx this
theorem seg_sound {κ : Kap} {M0 : Mem} {l : List Oper} {Q' : Exit → Act → World → Prop} {K : AS → Prop} (hback : Back l) (hpairs : Pairs l) (hQ : ∀ a w σ, St κ M0 n σ a w → K σ → Q' .normal a w) :
    ∀ (segs : List (Nat × SegK)) (lo : Nat) (σ : AS) (fuel : Nat) (listed : Array Bool) (a : Act) (w : World), segOk l segs lo = true → FirstOnly l listed lo → Closed l listed → cnt l listed = fuel →
      segSem P n l segs lo σ K → St κ M0 n σ a w → wpAny P .any l.toArray Q' fuel listed a w
  | [], lo, σ, fuel, listed, a, w, hok, hF, hc, hcnt, h, hs => by
    simp only [segOk, beq_iff_eq] at hok
    subst hok
    have hall : ∀ i, i < l.length → listed.getD i false = true := fun i hi => by rw [hF.2 i hi]; simpa using hi
    have hr := ready_none hF.1 hall
    cases fuel with
    | zero => exact ⟨hr, hQ a w σ hs h⟩
    | succ fuel => exact ⟨fun _ => hQ a w σ hs h, fun i hi => by rw [hr] at hi; cases hi⟩
  | (m, .ser) :: s, lo, σ, fuel, listed, a, w, hok, hF, hc, hcnt, h, hs => by
    simp only [segOk, Bool.and_eq_true] at hok
    obtain ⟨h1, h2, h3⟩ := hok
    have hle : lo + m ≤ l.length := by simpa using h2
    refine ser_sound (hi := lo + m) hback hle (fun fuel listed a w σ' hF hc hcnt h hs => seg_sound hback hpairs hQ s (lo + m) σ' fuel listed a w h3 hF hc hcnt h hs) ((l.drop lo).take m) lo σ fuel listed a w (by rw [show lo + m - lo = m by omega]) (by omega) (fun i hi1 hi2 => ?_) hF hc hcnt h hs
    have := List.all_eq_true.1 h1 (i - lo) (by simp; omega)
    rwa [show lo + (i - lo) + 1 = i + 1 by omega] at this
  | (m, .pur) :: s, lo, σ, fuel, listed, a, w, hok, hF, hc, hcnt, h, hs => by
    simp only [segOk, Bool.and_eq_true] at hok
    obtain ⟨h1, h2, h3⟩ := hok
    have hle : lo + m ≤ l.length := by simpa using h2
    simp only [segSem] at h
    obtain ⟨t, hsp, hK⟩ := par_trace_pure l σ.B _ ((l.drop lo).take m) σ.env h
    have hlen : ((l.drop lo).take m).length = m := by simp; omega
    rw [hlen] at hK
    refine part_sound (t := fun j => t (j - lo)) (b := fun _ => σ.B) (e := fun _ => false) (lo := lo) (hi_ := lo + m) (env0 := σ.env) (fixB := σ.B) (by omega) hle hback hpairs (fun _ _ i j _ _ _ hei => by cases hei) (wall_of h1) ?_ (fun _ _ _ x hx => hx) ?_ fuel listed a w hcnt (mid2_start (by omega) hle hF hc rfl hs)
    · intro i o hi1 hi2 ho
      obtain ⟨q, rfl⟩ : ∃ q, i = lo + q := ⟨i - lo, by omega⟩
      rw [envS_local (m := m) q (by omega)]
      have ho' : ((l.drop lo).take m)[q]? = some o := by rw [List.getElem?_take, if_pos (by omega), List.getElem?_drop]; exact ho
      simpa [show lo + q - lo = q by omega] using hsp q o ho'
    · intro fuel' listed' a' w' hF' hc' hcnt' hs'
      rw [envS_local (m := m) m (Nat.le_refl _)] at hs'
      exact seg_sound hback hpairs hQ s (lo + m) _ fuel' listed' a' w' h3 hF' hc' hcnt' hK hs'
  | (m, .eff) :: s, lo, σ, fuel, listed, a, w, hok, hF, hc, hcnt, h, hs => by
    simp only [segOk, Bool.and_eq_true] at hok
    obtain ⟨h1, h1e, h2, h3⟩ := hok
    have hle : lo + m ≤ l.length := by simpa using h2
    simp only [segSem] at h
    obtain ⟨fixB, hfix, h⟩ := h
    obtain ⟨t, b, e, hb0, hsp, hf, hK⟩ := par_trace l fixB _ ((l.drop lo).take m) σ.env σ.B hfix h
    have hlen : ((l.drop lo).take m).length = m := by simp; omega
    rw [hlen] at hK hf
    have hsp' : ∀ i o, lo ≤ i → i < lo + m → l[i]? = some o → OSpec P n l fixB o (envS l (fun j => t (j - lo)) lo σ.env i) (b (i - lo)) (t (i - lo)) (b (i + 1 - lo)) (e (i - lo)) := by
      intro i o hi1 hi2 ho
      obtain ⟨q, rfl⟩ : ∃ q, i = lo + q := ⟨i - lo, by omega⟩
      rw [envS_local (m := m) q (by omega)]
      have ho' : ((l.drop lo).take m)[q]? = some o := by rw [List.getElem?_take, if_pos (by omega), List.getElem?_drop]; exact ho
      rw [show lo + q - lo = q by omega, show lo + q + 1 - lo = q + 1 by omega]
      exact hsp q o ho'
    refine part_sound (t := fun j => t (j - lo)) (b := fun j => b (j - lo)) (e := fun j => e (j - lo)) (lo := lo) (hi_ := lo + m) (env0 := σ.env) (fixB := fixB) (by omega) hle hback hpairs (eff_of h1e ?_) (wall_of h1) hsp' ?_ ?_ fuel listed a w hcnt (mid2_start (by omega) hle hF hc (by simp [hb0]) hs)
    · intro i hi1 hi2 he
      have hil : i < l.length := by omega
      refine ⟨l[i], List.getElem?_eq_getElem hil, ?_⟩
      rcases (hsp' i l[i] hi1 hi2 (List.getElem?_eq_getElem hil)).2 with ⟨_, ⟨h, _⟩ | ⟨_, h, _⟩⟩ | ⟨_, _, _, h⟩
      · rw [he] at h; cases h
      · exact h
      · rw [he] at h; cases h
    · intro i hi1 hi2 x hx
      exact hf (i - lo) (by omega) x hx
    · intro fuel' listed' a' w' hF' hc' hcnt' hs'
      rw [envS_local (m := m) m (Nat.le_refl _), show lo + m - lo = m by omega] at hs'
      exact seg_sound hback hpairs hQ s (lo + m) _ fuel' listed' a' w' h3 hF' hc' hcnt' hK hs'
theorem St.drew {κ : Kap} {M0 : Mem} {a : Act} {w : World} (hs : St κ M0 n σ a w) : St κ M0 n σ a { w with drawn := w.drawn + 1 } := by
  obtain ⟨M, ν, h1, h2, h3, h4, h5, h6⟩ := hs
  exact ⟨M, ν, h1, h2, h3, h4, ⟨h5.os, h5.tape, h5.output, Nat.zero_le _, h5.size, h5.unch, h5.fro, fun k r hm => by
      have := h5.res k r hm
      cases r <;> exact this, h5.away, h5.inj, h5.nodup⟩, h6⟩
/-- THE RULE -/
theorem AWP.region_parts {id : Nat} {l : List Oper} (segs : List (Nat × SegK)) (hm : P.follows .mixedOrders = true) (hlex : Region.lexB .any l.toArray = true) (hok : segOk l segs 0 = true)
    (h : ∀ K : AS → Prop, (∀ σ', Q .normal σ' → K σ') → segSem P n l segs 0 σ K) : AWP P n (.region id l.toArray true) σ Q := by
  intro κ M0 a w hs
  obtain ⟨hback, hpairs, _⟩ := lex_pairs hlex
  refine wp_region_any hm ?_
  have hsz : l.toArray.size = l.length := by simp
  rw [hsz]
  have hrep : ∀ j, (Array.replicate l.length false).getD j false = false := fun j => rep_getD _ j
  refine seg_sound hback hpairs (fun a w σ' s k => ⟨σ', s, k⟩) segs 0 σ l.length _ a _ hok ⟨by simp, fun i hi => by rw [hrep]; simp⟩ (fun j oj hj hc => by rw [hrep] at hc; cases hc) ?_ (h _ fun _ k => k) hs.drew
  unfold cnt
  have hfil : (List.range l.length).filter (fun i => !(Array.replicate l.length false).getD i false) = List.range l.length := by
    rw [List.filter_eq_self]
    intro x _
    simp only [hrep x, Bool.not_false]
  rw [hfil, List.length_range]
/-- what is to be shown of the parts -/
def segVC (P : Program) (l : List Oper) : List (Nat × SegK) → List Oper → Env → Bx → (Env → Bx → Prop) → Prop
  | [], _, env, B, K => K env B
  | (m, .ser) :: s, os, env, B, K => seqVC P l (os.take m) env B fun env B => segVC P l s (os.drop m) env B K
  | (m, .pur) :: s, os, env, B, K => parVC P l B (os.take m) env fun env => segVC P l s (os.drop m) env B K
  | (m, .eff) :: s, os, env, B, K => ∃ fixB, (∀ x ∈ fixB, x ∈ B) ∧ parEVC P l fixB (os.take m) env B fun env B => segVC P l s (os.drop m) env B K
theorem dstsOk_take {l : List Oper} (h : dstsOk n l = true) (lo m : Nat) : dstsOk n ((l.drop lo).take m) = true := by
  unfold dstsOk at *
  rw [List.all_eq_true] at *
  exact fun x hx => h x (List.mem_of_mem_drop (List.mem_of_mem_take hx))
theorem seqSem_mono {all : List Oper} {K K' : AS → Prop} (hk : ∀ σ, K σ → K' σ) : ∀ (os : List Oper) (σ : AS), seqSem P n all os σ K → seqSem P n all os σ K'
  | [], σ, h => hk σ h
  | o :: os, σ, h => by
    refine guardT_map h (fun h => ?_) (fun h => ⟨h.1, seqSem_mono hk os _ h.2⟩)
    cases h with
    | pure t hop hd k => exact .pure t hop hd (seqSem_mono hk os _ k)
    | eff t B' hop hd k => exact .eff t B' hop hd (seqSem_mono hk os _ k)
    | gen j t B' hop hj hf hd k => exact .gen j t B' hop hj hf hd (seqSem_mono hk os _ k)
    | genx js t B' hop hj hf hd k => exact .genx js t B' hop hj hf hd (seqSem_mono hk os _ k)
theorem parPure_mono {all : List Oper} {B : Bx} {K K' : Env → Prop} (hk : ∀ e, K e → K' e) : ∀ (os : List Oper) (env : Env), parPure P n all B os env K → parPure P n all B os env K'
  | [], env, h => hk env h
  | o :: os, env, h => by
    refine guardT_map h (fun h => ?_) (fun h => ⟨h.1, parPure_mono hk os _ h.2⟩)
    obtain ⟨t, hop, hd, k⟩ := h
    exact ⟨t, hop, hd, parPure_mono hk os _ k⟩
theorem parSem_mono {all : List Oper} {fixB : Bx} {K K' : Env → Bx → Prop} (hk : ∀ e b, K e b → K' e b) : ∀ (os : List Oper) (env : Env) (B : Bx), parSem P n all fixB os env B K → parSem P n all fixB os env B K'
  | [], env, B, h => hk env B h
  | o :: os, env, B, h => by
    refine guardT_map h (fun h => ?_) (fun h => ⟨h.1, parSem_mono hk os _ _ h.2⟩)
    cases h with
    | pure t hop hd k => exact .pure t hop hd (parSem_mono hk os _ _ k)
    | eff t B' he hx hop hd k => exact .eff t B' he hx hop hd (parSem_mono hk os _ _ k)
theorem segVC_sound {l : List Oper} {K : AS → Prop} (hd : dstsOk n l = true) : ∀ (segs : List (Nat × SegK)) (lo : Nat) (env : Env) (B : Bx), segVC P l segs (l.drop lo) env B (fun e b => K ⟨e, b⟩) → segSem P n l segs lo ⟨env, B⟩ K
  | [], lo, env, B, h => h
  | (m, .ser) :: s, lo, env, B, h => by
    simp only [segVC, List.drop_drop] at h
    simp only [segSem]
    exact seqSem_mono (fun σ' k => segVC_sound hd s (lo + m) σ'.env σ'.B k) _ _ (seqVC_sound l (fun σ' => segVC P l s (l.drop (lo + m)) σ'.env σ'.B fun e b => K ⟨e, b⟩) _ env B (dstsOk_take hd lo m) h)
  | (m, .pur) :: s, lo, env, B, h => by
    simp only [segVC, List.drop_drop] at h
    simp only [segSem]
    exact parPure_mono (fun e k => segVC_sound hd s (lo + m) e B k) _ _ (parVC_sound l B (fun e => segVC P l s (l.drop (lo + m)) e B fun e b => K ⟨e, b⟩) _ env (dstsOk_take hd lo m) h)
  | (m, .eff) :: s, lo, env, B, h => by
    simp only [segVC, List.drop_drop] at h
    simp only [segSem]
    obtain ⟨fixB, hfix, h⟩ := h
    exact ⟨fixB, hfix, parSem_mono (fun e b k => segVC_sound hd s (lo + m) e b k) _ _ _ (parEVC_sound l fixB (fun e b => segVC P l s (l.drop (lo + m)) e b fun e b => K ⟨e, b⟩) _ env B hfix (dstsOk_take hd lo m) h)⟩
def segsOk (n : Nat) (l : List Oper) (segs : List (Nat × SegK)) : Bool := Region.lexB .any l.toArray && (dstsOk n l && segOk l segs 0)
/-- THE RULE, as the walk takes it -/
theorem AWP.segR {id : Nat} {l : List Oper} {env : Env} {B : Bx} (segs : List (Nat × SegK)) (hm : P.follows .mixedOrders = true) (hl : segsOk n l segs = true)
    (h : ∀ K : Env → Bx → Prop, (∀ e b, Q .normal ⟨e, b⟩ → K e b) → segVC P l segs l env B K) : AWP P n (.region id l.toArray true) ⟨env, B⟩ Q := by
  simp only [segsOk, Bool.and_eq_true] at hl
  exact AWP.region_parts segs hm hl.1 hl.2.2 fun K hK => segVC_sound (K := K) hl.2.1 segs 0 env B (by simpa using h _ fun e b q => hK _ q)
/-- first k operations in any order, the rest one after the other -/
theorem AWP.segP {id : Nat} {l : List Oper} {env : Env} {B : Bx} (k : Nat) (hm : P.follows .mixedOrders = true) (hl : segsOk n l [(k, .pur), (l.length - k, .ser)] = true)
    (h : ∀ K : Env → Bx → Prop, (∀ e b, Q .normal ⟨e, b⟩ → K e b) → parVC P l B (l.take k) env fun env => seqVC P l (l.drop k) env B K) : AWP P n (.region id l.toArray true) ⟨env, B⟩ Q := by
  refine AWP.segR _ hm hl fun K hK => ?_
  have := h K hK
  simp only [segVC]
  have e : (l.drop k).take (l.length - k) = l.drop k := List.take_of_length_le (by simp)
  rw [e]; exact this
/-- .. the first k with effects on the box j alone -/
theorem AWP.segE {id : Nat} {l : List Oper} {env : Env} {B : Bx} (k j : Nat) (hm : P.follows .mixedOrders = true) (hl : segsOk n l [(k, .eff), (l.length - k, .ser)] = true)
    (h : ∀ K : Env → Bx → Prop, (∀ e b, Q .normal ⟨e, b⟩ → K e b) → parEVC P l (Bx.drop j B) (l.take k) env B fun env B => seqVC P l (l.drop k) env B K) : AWP P n (.region id l.toArray true) ⟨env, B⟩ Q := by
  refine AWP.segR _ hm hl fun K hK => ?_
  have := h K hK
  simp only [segVC]
  have e : (l.drop k).take (l.length - k) = l.drop k := List.take_of_length_le (by simp)
  rw [e]; exact ⟨Bx.drop j B, fun x hx => Bx.drop_sub hx, this⟩
/-- the later operation waits for the earlier one -/
def depB (l : List Oper) (k g : Nat) : Bool := ((maskAll l)[k]?.getD 0).testBit g
theorem dep_of {l : List Oper} {k g : Nat} {o : Oper} (h : depB l k g = true) (ho : l[k]? = some o) {listed : Array Bool} (hc : Closed l listed) (hr : ∀ e ∈ o.after, Region.binds .any e = true → listed.getD e.on false = true) : listed.getD g false = true := by
  unfold depB at h
  cases hm : (maskAll l)[k]? with
  | none => rw [hm] at h; simp at h
  | some m =>
    rw [hm] at h
    exact maskAll_ok l k m hm listed hc (fun o' ho' e he hb => by rw [ho] at ho'; cases ho'; exact hr e he hb) g h
/-- what the walk found of one operation; j: the name that it makes -/
def OSpecG (P : Program) (n : Nat) (all : List Oper) (fixB : Bx) (o : Oper) (env : Env) (b : Bx) (t : T) (b' : Bx) (e : Bool) (j : Option Nat) : Prop :=
  dstOk n o = true ∧
  ((guardT all env o True False ∧ ((e = false ∧ j = none ∧ OpP P o env fixB t ∧ b' = b) ∨ (e = true ∧ j = none ∧ OpE P o env b t b') ∨ (∃ k, e = true ∧ j = some k ∧ OpG P o env b k t b' ∧ k < pin ∧ Env.fresh k env = true))) ∨
   (guardT all env o False True ∧ t = undefT ∧ b' = b ∧ e = false ∧ j = none))
def EffOrdG (l : List Oper) (e : Nat → Bool) : Prop := ∀ i k, i < k → k < l.length → e i = true → e k = true → depB l k i = true
theorem fresh_envA {l : List Oper} {t : Nat → T} {env0 : Env} {j : Nat} : ∀ m, Env.fresh j (envA l t (fun _ => true) env0 m) = true → Env.fresh j env0 = true ∧ ∀ i, i < m → (∃ d, (l[i]?).bind (·.dst) = some d) → (t i).fresh j = true
  | 0, h => ⟨h, fun i hi => by omega⟩
  | m + 1, h => by
    rw [envA] at h
    simp only [cond_true] at h
    cases hd : (l[m]?).bind (·.dst) with
    | none =>
      rw [hd] at h
      obtain ⟨h1, h2⟩ := fresh_envA m h
      refine ⟨h1, fun i hi hx => ?_⟩
      by_cases him : i = m
      · subst him; obtain ⟨d, hx⟩ := hx; rw [hd] at hx; cases hx
      · exact h2 i (by omega) hx
    | some d =>
      rw [hd] at h
      simp only [putE, Env.fresh, Bool.and_eq_true] at h
      obtain ⟨h1, h2⟩ := fresh_envA m h.2
      refine ⟨h1, fun i hi hx => ?_⟩
      by_cases him : i = m
      · subst him; exact h.1
      · exact h2 i (by omega) hx
theorem envA_fresh' {l : List Oper} {t : Nat → T} {env0 : Env} {j : Nat} {X : Nat → Bool} (h0 : Env.fresh j env0 = true) : ∀ m, (∀ i, i < m → X i = true → (∃ d, (l[i]?).bind (·.dst) = some d) → (t i).fresh j = true) → Env.fresh j (envA l t X env0 m) = true
  | 0, _ => h0
  | m + 1, h => by
    have ih := envA_fresh' (l := l) (t := t) (X := X) h0 m (fun i hi hx => h i (by omega) hx)
    rw [envA]
    cases hx : X m with
    | false => exact ih
    | true =>
      simp only [cond_true]
      cases hd : (l[m]?).bind (·.dst) with
      | none => exact ih
      | some d => simp only [putE, Env.fresh, Bool.and_eq_true]; exact ⟨h m (by omega) hx ⟨d, hd⟩, ih⟩
theorem gen_sound {κ : Kap} {M0 : Mem} {l : List Oper} {fixB : Bx} {t : Nat → T} {b : Nat → Bx} {e : Nat → Bool} {jn : Nat → Option Nat} {env0 : Env} {Q' : Exit → Act → World → Prop}
    (hback : Back l) (hpairs : Pairs l) (hord : EffOrdG l e)
    (hs : ∀ i o, l[i]? = some o → OSpecG P n l fixB o (envA l t (fun _ => true) env0 i) (b i) (t i) (b (i + 1)) (e i) (jn i)) (hf : ∀ i, i ≤ l.length → ∀ x ∈ fixB, x ∈ b i)
    (hfr : ∀ g k j, jn g = some j → g < k → k < l.length → (t k).fresh j = true ∨ depB l k g = true)
    (hQ : ∀ a w, St κ M0 n ⟨envA l t (fun _ => true) env0 l.length, b l.length⟩ a w → Q' .normal a w) :
    ∀ (fuel : Nat) (listed : Array Bool) (a : Act) (w : World), cnt l listed = fuel → Mid κ M0 n l t b e env0 listed a w →
      wpAny P .any l.toArray Q' fuel listed a w := by
  have hbc : ∀ i, i < l.length → e i = false → b (i + 1) = b i := by
    intro i hi he
    rcases (hs i l[i] (by simp [hi])).2 with ⟨_, ⟨_, _, _, h⟩ | ⟨h, _⟩ | ⟨_, h, _⟩⟩ | ⟨_, _, h, _⟩
    · exact h
    · rw [he] at h; cases h
    · rw [he] at h; cases h
    · exact h
  have done : ∀ (listed : Array Bool) (a : Act) (w : World), Mid κ M0 n l t b e env0 listed a w → (∀ i, i < l.length → listed.getD i false = true) → Q' .normal a w := by
    intro listed a w hm hall
    obtain ⟨M, ν, m, h1, h2, h3, h4, h5, h6, h7, h8⟩ := hm.st
    refine hQ a w ⟨M, ν, h1, h2, h3, ?_, ?_⟩
    · intro d u hu
      refine h4 d u ?_
      rw [envA_same l t (xs listed) (fun _ => true) env0 d l.length (fun j o hj _ _ => hall j hj)]
      exact hu
    · have : b l.length = b m := const_b hbc m l.length h5 (Nat.le_refl _) (fun j hj1 hj2 => by
        cases hj : e j with
        | false => rfl
        | true => have := (h6 j hj2 hj).1 (hall j hj2); omega)
      simp only [this]
      exact ⟨h7, h8⟩
  have hord' : ∀ listed : Array Bool, Closed l listed → ∀ i j, i < j → j < l.length → e i = true → e j = true → listed.getD j false = true → listed.getD i false = true := by
    intro listed hc i j hij hj hei hej hx
    exact dep_of (hord i j hij hj hei hej) (List.getElem?_eq_getElem hj) hc (fun e' he' hb' => hc j l[j] (List.getElem?_eq_getElem hj) hx e' he' hb')
  intro fuel
  induction fuel with
  | zero =>
    intro listed a w hfuel hm
    have hall := cnt_zero hfuel
    exact ⟨ready_none hm.size hall, done listed a w hm hall⟩
  | succ fuel ih =>
    intro listed a w hfuel hm
    refine ⟨fun hr => done listed a w hm (ready_least hback hm.size hr), fun i hi => ?_⟩
    obtain ⟨h0, oi, hoi, hall⟩ := mem_ready.1 hi
    have hil : i < l.length := by have := (Array.getElem?_eq_some_iff.1 hoi).1; simpa using this
    have hoi' : l[i]? = some oi := by simpa using hoi
    have hisz : i < listed.size := by rw [hm.size]; exact hil
    have hxi : listed.getD i false = false := by simp [hisz] at h0 ⊢; exact h0
    obtain ⟨M, ν, m, h1, h2, h3, h4, h5, h6, h7, h8⟩ := hm.st
    obtain ⟨hd, hspec⟩ := hs i oi hoi'
    have look : ∀ d, d ∈ oi.looksAt l.toArray → (envA l t (xs listed) env0 l.length).lookup d = (envA l t (fun _ => true) env0 i).lookup d := by
      intro d hdm
      rw [envA_skip l t (xs listed) env0 d i l.length (by omega) ?_, envA_same l t (xs listed) (fun _ => true) env0 d i ?_]
      · intro j o hj ho hod
        rcases hpairs j i o oi hj ho hoi' with ⟨e', he', hb', hon⟩ | hap
        · exact hon ▸ hall e' he' hb'
        · exact absurd hdm ((Oper.apart_spec hap).1 d hod)
      · intro j o hj hjl ho hod
        by_cases hji : i = j
        · subst hji; exact hxi
        · cases hxj : xs listed j with
          | false => rfl
          | true =>
            rcases hpairs i j oi o (by omega) hoi' ho with ⟨e', he', hb', hon⟩ | hap
            · have := hm.closed j o ho hxj e' he' hb'
              rw [hon, hxi] at this; cases this
            · exact absurd hdm ((Oper.apart_spec hap).2.2 d hod)
    have hclosed : Closed l (listed.setIfInBounds i true) := by
      intro j oj hj hx e' he' hb'
      by_cases hji : i = j
      · subst hji
        rw [hoi'] at hj; cases hj
        exact getD_set_true (hall e' he' hb')
      · rw [getD_set_ne false hji] at hx
        exact getD_set_true (hm.closed j oj hj hx e' he' hb')
    have hcount : cnt l (listed.setIfInBounds i true) = fuel := by
      have := cnt_set hm.size hil hxi; omega
    have after : ∀ (M' : Mem) (ν' : Nu) (v : Value) (w' : World) (m' : Nat), M.ext κ M' → EnvOk M ν' a.tmps (envA l t (xs listed) env0 l.length) → (t i).rep M' ν' v → m' ≤ l.length →
        (∀ j, j < l.length → e j = true → ((listed.setIfInBounds i true).getD j false = true ↔ j < m')) → Sat κ M' ν' (b m') w' → (∀ k, pin ≤ k → ν' k = κ.nu k) →
        Mid κ M0 n l t b e env0 (listed.setIfInBounds i true) (a.put oi.dst v) w' := by
      intro M' ν' v w' m' hle h4 hr hm' hem hsat hpin
      refine ⟨by simpa using hm.size, hclosed, M', ν', m', h1.trans hle, by rw [Act.put_size]; exact h2, by rw [Act.put_defers']; exact h3, ?_, hm', hem, hsat, hpin⟩
      have hput := EnvOk.put (df := a.defers) (h4.mono hle.1) (dst := oi.dst) (v := v) (t := t i) (fun d he => by rw [h2]; exact dstOk_spec hd d he) hr
      intro k u hu
      refine hput k u ?_
      rw [putE_lookup]
      by_cases hk : oi.dst = some k
      · rw [if_pos hk]
        have e1 := envA_skip l t (xs (listed.setIfInBounds i true)) env0 k (i + 1) l.length (by omega) (fun j o hj hjl ho hod => by
          cases hxj : xs (listed.setIfInBounds i true) j with
          | false => rfl
          | true =>
            have hne : i ≠ j := by omega
            have hxj' : listed.getD j false = true := by rw [← getD_set_ne false hne]; exact hxj
            rcases hpairs i j oi o (by omega) hoi' ho with ⟨e', he', hb', hon⟩ | hap
            · have := hm.closed j o ho hxj' e' he' hb'
              rw [hon, hxi] at this; cases this
            · exact absurd hod ((Oper.apart_spec hap).2.1 k hk))
        rw [e1] at hu
        have hself : xs (listed.setIfInBounds i true) i = true := by simp [xs, hisz]
        rw [envA, hself] at hu
        simp only [cond_true, putE_lookup, hoi', Option.bind_some, hk, if_true] at hu
        exact hu
      · rw [if_neg hk]
        have e2 := envA_same l t (xs (listed.setIfInBounds i true)) (xs listed) env0 k l.length (fun j o hj ho hod => by
          have hne : i ≠ j := fun h => by subst h; rw [hoi'] at ho; cases ho; exact hk hod
          exact getD_set_ne false hne)
        rw [← e2]; exact hu
    have hon : EnvOn M ν a (envA l t (fun _ => true) env0 i) oi := by
      intro d u hdo hu
      refine h4 d u ?_
      rw [look d (looksAt_op hdo)]; exact hu
    have hgd : ∀ g want d u, oi.guard = some (g, want) → (l[g]?).bind (·.dst) = some d → (envA l t (fun _ => true) env0 i).lookup d = some u → u.rep M ν (a.tmps.getD d undef) := by
      intro g want d u hg hgd hu
      refine h4 d u ?_
      rw [look d (looksAt_guard hg hgd)]; exact hu
    have samem : e i = false → ∀ j, j < l.length → e j = true → ((listed.setIfInBounds i true).getD j false = true ↔ j < m) := by
      intro hei j hj hej
      have hne : i ≠ j := fun h => by subst h; rw [hei] at hej; cases hej
      rw [getD_set_ne false hne]; exact h6 j hj hej
    -- what an operation that turns boxes finds and leaves
    have effm : e i = true → b i = b m ∧ ∀ j, j < l.length → e j = true → ((listed.setIfInBounds i true).getD j false = true ↔ j < i + 1) := by
      intro hei
      have hmi : m ≤ i := by
        rcases Nat.lt_or_ge i m with h | h
        · have := (h6 i hil hei).2 h; rw [hxi] at this; cases this
        · exact h
      have prev : ∀ j, j < i → e j = true → listed.getD j false = true := by
        intro j hj hej
        have hself : (listed.setIfInBounds i true).getD i false = true := by simp [hisz]
        have := hord' _ hclosed j i hj hil hej hei hself
        rwa [getD_set_ne false (by omega)] at this
      refine ⟨const_b hbc m i hmi (by omega) (fun j hj1 hj2 => by
        cases hj : e j with
        | false => rfl
        | true => have := (h6 j (by omega) hj).1 (prev j hj2 hj); omega), fun j hj hej => ?_⟩
      by_cases hji : i = j
      · subst hji; simp [hisz]
      · rw [getD_set_ne false hji]
        constructor
        · intro hx
          rcases Nat.lt_or_ge i j with h | h
          · have := hord' _ hm.closed i j h hj hei hej hx
            rw [hxi] at this; cases this
          · omega
        · intro hx
          exact prev j (by omega) hej
    unfold wpOp
    rw [hoi]
    simp only []
    rcases hspec with ⟨hg, ⟨hei, hjn, hop, hbb⟩ | ⟨hei, hjn, hop⟩ | ⟨k, hei, hjn, hop, hkp, hfk⟩⟩ | ⟨hg, ht, hbb, hei, hjn⟩
    · rw [if_pos (wanted_of hg hgd)]
      left
      refine Oper.wp_mono_Q (Oper.wp_mono ?_ (hop κ M ν a w (b m) (hf m h5) hon h7))
      rintro a' w' ⟨v, M', rfl, hle, hr, hsat⟩
      exact ih _ _ _ hcount (after M' ν v w' m hle h4 hr h5 (samem hei) hsat h8)
    · rw [if_pos (wanted_of hg hgd)]
      left
      obtain ⟨hbm, hem⟩ := effm hei
      refine Oper.wp_mono_Q (Oper.wp_mono ?_ (hop κ M ν a w hon (by rw [hbm]; exact h7)))
      rintro a' w' ⟨v, M', rfl, hle, hr, hsat⟩
      exact ih _ _ _ hcount (after M' ν v w' (i + 1) hle h4 hr hil hem hsat h8)
    · rw [if_pos (wanted_of hg hgd)]
      left
      obtain ⟨hbm, hem⟩ := effm hei
      refine Oper.wp_mono_Q (Oper.wp_mono ?_ (hop κ M ν a w hon (by rw [hbm]; exact h7)))
      rintro a' w' ⟨v, M', ν', rfl, hle, hν, hr, hsat⟩
      obtain ⟨hf0, hft⟩ := fresh_envA i hfk
      have hfresh : Env.fresh k (envA l t (xs listed) env0 l.length) = true := by
        refine envA_fresh' hf0 l.length (fun q hq hx hdq => ?_)
        rcases Nat.lt_trichotomy q i with h | h | h
        · exact hft q h hdq
        · subst h; unfold xs at hx; rw [hxi] at hx; cases hx
        · rcases hfr i q k hjn h hq with h' | h'
          · exact h'
          · exfalso
            have := dep_of h' (List.getElem?_eq_getElem hq) hm.closed (fun e' he' hb' => hm.closed q l[q] (List.getElem?_eq_getElem hq) hx e' he' hb')
            rw [hxi] at this; cases this
      exact ih _ _ _ hcount (after M' ν' v w' (i + 1) hle (h4.fresh hfresh hν) hr hil hem hsat (fun q hq => by rw [hν q (by omega)]; exact h8 q hq))
    · rw [unwanted_of hg hgd]
      simp only [Bool.false_eq_true, if_false]
      refine ih _ _ _ hcount (after M ν undef w m (Mem.ext.refl κ M) h4 (by rw [ht]; simp [undefT, T.rep, Cell.rep, C.rep]) h5 (samem hei) h7 h8)
def bxSub (B : Bx) : Bx → Prop
  | [] => True
  | p :: B' => B.lookup p.1 = some p.2 ∧ bxSub B B'
theorem bxSub_spec {B : Bx} : ∀ {B' : Bx}, bxSub B B' → ∀ x ∈ B', x ∈ B
  | p :: B', h, x, hm => by
    rcases List.mem_cons.1 hm with rfl | hm
    · exact lookup_box h.1
    · exact bxSub_spec h.2 x hm
def memN (i : Nat) : List Nat → Bool
  | [] => false
  | k :: ks => (i == k) || memN i ks
/-- the names made so far, each with the operation that made it: whoever does not wait for it does not meet it -/
def FreshOr (all : List Oper) (k : Nat) (t : T) : List (Nat × Nat) → Prop
  | [] => True
  | (g, j) :: gs => (t.fresh j = true ∨ depB all k g = true) ∧ FreshOr all k t gs
/-- does the operation make a name? -/
def makes (o : Oper) : Bool :=
  match o.op with
  | .alloc _ => true
  | .box _ _ => true
  | .buildSlice _ _ _ => true
  | .call { callee := .builtin .append, args := _, argTypes := _ } => true
  | .makeMap _ none => true
  | .makeSlice _ _ _ => true
  | _ => false
def gsNext (i : Nat) (o : Oper) (gs : List (Nat × Nat)) : List (Nat × Nat) := bif makes o then (i, dstN o) :: gs else gs
def genVC (P : Program) (all : List Oper) (es : List Nat) (fixB : Bx) : Nat → List (Nat × Nat) → List Oper → Env → Bx → (Env → Bx → Prop) → Prop
  | _, _, [], env, B, K => K env B
  | i, gs, o :: os, env, B, K => guardT all env o
      (bif memN i es then effVC P o env B fun t B' => bxSub B' fixB ∧ FreshOr all i t gs ∧ genVC P all es fixB (i + 1) (gsNext i o gs) os (putE env o.dst t) B' K
       else pureVC P o env fixB fun t => FreshOr all i t gs ∧ genVC P all es fixB (i + 1) gs os (putE env o.dst t) B K)
      (genVC P all es fixB (i + 1) gs os (putE env o.dst undefT) B K)
theorem FreshOr_spec {all : List Oper} {k : Nat} {t : T} : ∀ {gs : List (Nat × Nat)}, FreshOr all k t gs → ∀ p ∈ gs, t.fresh p.2 = true ∨ depB all k p.1 = true
  | q :: gs, h, p, hm => by
    rcases List.mem_cons.1 hm with rfl | hm
    · exact h.1
    · exact FreshOr_spec h.2 p hm
theorem FreshOr_un {all : List Oper} {k : Nat} : ∀ gs : List (Nat × Nat), FreshOr all k undefT gs
  | [] => trivial
  | (g, j) :: gs => ⟨.inl rfl, FreshOr_un gs⟩
/-- effVC tells which kind it was -/
theorem effVC_makes {o : Oper} {env : Env} {B : Bx} {K : T → Bx → Prop} (h : effVC P o env B K) :
    (∃ t, OpP P o env B t ∧ K t B) ∨ (∃ t B', OpE P o env B t B' ∧ K t B') ∨ (makes o = true ∧ ∃ t B', OpG P o env B (dstN o) t B' ∧ Env.fresh (dstN o) env = true ∧ K t B') := by
  unfold effVC at h
  split at h
  · rename_i e ho; exact .inr (.inr ⟨by simp only [makes, ho], vAlloc_sound ho h⟩)
  · rename_i e x ho; exact .inr (.inr ⟨by simp only [makes, ho], vBox_sound ho h⟩)
  · rename_i t x y ho
    obtain ⟨B', h1, h2⟩ := vStore_sound ho h
    exact .inr (.inl ⟨_, B', h1, h2⟩)
  · rename_i s x t1 t2 ho; exact .inr (.inr ⟨by simp only [makes, ho], vAppend_sound ho h⟩)
  · rename_i f args ts ho
    split at h
    · rename_i g caps us hf hu
      cases hp : T.anyPtr (us ++ caps) with
      | true =>
        rw [hp] at h
        obtain ⟨u, B', h1, _, h2⟩ := vCall1_sound (args := args.toList) (by rw [ho]) hf hu h
        exact .inr (.inl ⟨u, B', h1, h2⟩)
      | false =>
        rw [hp] at h
        simp only [cond_false] at h
        unfold vCallE at h
        split at h
        · exact .inl (vCall_sound (ty := 0) (args := args.toList) (by rw [ho]) (K := fun t => K t B) (by unfold vCall; rw [hf, hu]; exact h))
        · rcases h with h | h
          · exact .inr (.inl (vCallZ_sound (args := args.toList) (by rw [ho]) hf hu h))
          · obtain ⟨u, B', h1, _, h2⟩ := vCall1_sound (args := args.toList) (by rw [ho]) hf hu h
            exact .inr (.inl ⟨u, B', h1, h2⟩)
    · exact h.elim
  · rename_i t len parts ho
    rcases h with h | h
    · exact .inl (vBuildSlice_sound (parts := parts.toList) (by rw [ho]) h)
    · exact .inr (.inr ⟨by simp only [makes, ho], vBuildOwn_sound (parts := parts.toList) (by rw [ho]) h⟩)
  · rename_i t ho; exact .inr (.inr ⟨by simp only [makes, ho], vMakeMap_sound ho h⟩)
  · rename_i t x y ho; exact .inr (.inr ⟨by simp only [makes, ho], vMakeSl_sound ho h⟩)
  · rename_i t x ix y ho
    obtain ⟨B', h1, h2⟩ := vMapPut_sound (.inl ho) h
    exact .inr (.inl ⟨_, B', h1, h2⟩)
  · rename_i t x ix y ho
    obtain ⟨B', h1, h2⟩ := vMapPut_sound (.inr ho) h
    exact .inr (.inl ⟨_, B', h1, h2⟩)
  · exact .inl (pureVC_sound h)
theorem gen_trace (all : List Oper) (es : List Nat) (fixB : Bx) (K : Env → Bx → Prop) : ∀ (l : List Oper) (i0 : Nat) (gs : List (Nat × Nat)) (env : Env) (B : Bx), dstsOk n l = true → (∀ x ∈ fixB, x ∈ B) → genVC P all es fixB i0 gs l env B K →
    ∃ (t : Nat → T) (b : Nat → Bx) (e : Nat → Bool) (jn : Nat → Option Nat), b 0 = B ∧ (∀ i o, l[i]? = some o → OSpecG P n all fixB o (envA l t (fun _ => true) env i) (b i) (t i) (b (i + 1)) (e i) (jn i)) ∧
      (∀ i, i ≤ l.length → ∀ x ∈ fixB, x ∈ b i) ∧ (∀ i, e i = true → memN (i0 + i) es = true) ∧ (∀ i, i < l.length → FreshOr all (i0 + i) (t i) gs) ∧
      (∀ g k j, jn g = some j → g < k → k < l.length → (t k).fresh j = true ∨ depB all (i0 + k) (i0 + g) = true) ∧ K (envA l t (fun _ => true) env l.length) (b l.length)
  | [], i0, gs, env, B, _, hB, h => ⟨fun _ => undefT, fun _ => B, fun _ => false, fun _ => none, rfl, fun i o ho => by simp at ho, fun i _ => hB, fun i h => (by cases h), fun i hi => by simp at hi, fun _ _ _ h => (by cases h), h⟩
  | o :: os, i0, gs, env, B, hd, hB, h => by
    simp only [dstsOk, List.all_cons, Bool.and_eq_true] at hd
    obtain ⟨⟨hd1, hd2⟩, hd3⟩ := hd
    have step : ∃ (t0 : T) (B' : Bx) (e0 : Bool) (j0 : Option Nat) (gs' : List (Nat × Nat)), OSpecG P n all fixB o env B t0 B' e0 j0 ∧ (∀ x ∈ fixB, x ∈ B') ∧ (e0 = true → memN i0 es = true) ∧ FreshOr all i0 t0 gs ∧
        (∀ p ∈ gs, p ∈ gs') ∧ (∀ j, j0 = some j → (i0, j) ∈ gs') ∧ genVC P all es fixB (i0 + 1) gs' os (putE env o.dst t0) B' K := by
      rcases guardT_true h with ⟨hg, hx⟩ | ⟨hg, hx⟩
      · cases hm : memN i0 es with
        | true =>
          rw [hm] at hx
          simp only [cond_true] at hx
          have sub : ∀ p ∈ gs, p ∈ gsNext i0 o gs := fun p hp => by unfold gsNext; cases makes o <;> simp [hp]
          rcases effVC_makes hx with ⟨t, hop, h1, h2, h3⟩ | ⟨t, B', hop, h1, h2, h3⟩ | ⟨hmk, t, B', hop, hfr, h1, h2, h3⟩
          · refine ⟨t, B, true, none, _, ⟨hd1, .inl ⟨hg, .inr (.inl ⟨rfl, rfl, hop.e⟩)⟩⟩, hB, fun _ => rfl, h2, sub, fun j hj => (by cases hj), h3⟩
          · exact ⟨t, B', true, none, _, ⟨hd1, .inl ⟨hg, .inr (.inl ⟨rfl, rfl, hop⟩)⟩⟩, bxSub_spec h1, fun _ => rfl, h2, sub, fun j hj => (by cases hj), h3⟩
          · refine ⟨t, B', true, some (dstN o), _, ⟨hd1, .inl ⟨hg, .inr (.inr ⟨dstN o, rfl, rfl, hop, Nat.le_of_ble_eq_true hd2, hfr⟩)⟩⟩, bxSub_spec h1, fun _ => rfl, h2, sub, fun j hj => ?_, h3⟩
            cases hj
            unfold gsNext; rw [hmk]; simp
        | false =>
          rw [hm] at hx
          simp only [cond_false] at hx
          obtain ⟨t, hop, h2, h3⟩ := pureVC_sound hx
          exact ⟨t, B, false, none, gs, ⟨hd1, .inl ⟨hg, .inl ⟨rfl, rfl, hop, rfl⟩⟩⟩, hB, fun h => (by cases h), h2, fun _ h => h, fun j hj => (by cases hj), h3⟩
      · exact ⟨undefT, B, false, none, gs, ⟨hd1, .inr ⟨hg, rfl, rfl, rfl, rfl⟩⟩, hB, fun h => (by cases h), FreshOr_un gs, fun _ h => h, fun j hj => (by cases hj), hx⟩
    obtain ⟨t0, B', e0, j0, gs', hspec, hfix, he0, hfr0, hsub, hj0, hk⟩ := step
    obtain ⟨t, b, e, jn, hb0, hs, hf, he, hfr, hjj, hK⟩ := gen_trace all es fixB K os (i0 + 1) gs' _ B' hd3 hfix hk
    refine ⟨fun i => match i with | 0 => t0 | i + 1 => t i, fun i => match i with | 0 => B | i + 1 => b i, fun i => match i with | 0 => e0 | i + 1 => e i, fun i => match i with | 0 => j0 | i + 1 => jn i, rfl, ?_, ?_, ?_, ?_, ?_, ?_⟩
    · intro i o' ho
      cases i with
      | zero => simp at ho; subst ho; rw [← hb0] at hspec; exact hspec
      | succ i =>
        rw [envA_cons]
        exact hs i o' (by simpa using ho)
    · intro i hi
      cases i with
      | zero => exact hB
      | succ i => exact hf i (by simpa using hi)
    · intro i hi
      cases i with
      | zero => exact he0 hi
      | succ i => have := he i hi; rwa [show i0 + 1 + i = i0 + (i + 1) by omega] at this
    · intro i hi
      cases i with
      | zero => exact hfr0
      | succ i =>
        have := hfr i (by simpa using hi)
        rw [show i0 + 1 + i = i0 + (i + 1) by omega] at this
        exact FreshOr_sub hsub this
    · intro g k j hg hgk hk'
      cases k with
      | zero => omega
      | succ k =>
        cases g with
        | zero =>
          have := FreshOr_spec (hfr k (by simpa using hk')) (i0, j) (hj0 j hg)
          rwa [show i0 + 1 + k = i0 + (k + 1) by omega] at this
        | succ g =>
          have := hjj g k j hg (by omega) (by simpa using hk')
          rwa [show i0 + 1 + k = i0 + (k + 1) by omega, show i0 + 1 + g = i0 + (g + 1) by omega] at this
    · rw [List.length_cons, envA_cons]; exact hK
where
  FreshOr_sub {all : List Oper} {k : Nat} {t : T} {gs gs' : List (Nat × Nat)} (h : ∀ p ∈ gs, p ∈ gs') (hf : FreshOr all k t gs') : FreshOr all k t gs := by
    induction gs with
    | nil => trivial
    | cons p gs ih =>
      obtain ⟨g, j⟩ := p
      exact ⟨FreshOr_spec hf (g, j) (h _ (by simp)), ih (fun p hp => h p (List.mem_cons_of_mem _ hp))⟩
/-- of two of these the later waits for the earlier -/
def esOk (l : List Oper) : List Nat → Bool
  | [] => true
  | i :: es => es.all (fun k => (Nat.blt i k && depB l k i) || (Nat.blt k i && depB l i k) || i == k) && esOk l es
theorem memN_spec {i : Nat} : ∀ {es : List Nat}, memN i es = true → i ∈ es
  | k :: es, h => by
    simp only [memN, Bool.or_eq_true, beq_iff_eq] at h
    rcases h with h | h
    · subst h; simp
    · exact List.mem_cons_of_mem _ (memN_spec h)
theorem esOk_spec {l : List Oper} : ∀ {es : List Nat}, esOk l es = true → ∀ i ∈ es, ∀ k ∈ es, i < k → depB l k i = true
  | q :: es, h, i, hi, k, hk, hik => by
    simp only [esOk, Bool.and_eq_true, List.all_eq_true, Bool.or_eq_true, beq_iff_eq] at h
    rcases List.mem_cons.1 hi with e1 | hi' <;> rcases List.mem_cons.1 hk with e2 | hk'
    · omega
    · subst e1; rcases h.1 k hk' with (⟨_, h⟩ | ⟨h, _⟩) | h
      · exact h
      · have : k < i := by simpa using h
        omega
      · omega
    · subst e2; rcases h.1 i hi' with (⟨h, _⟩ | ⟨_, h⟩) | h
      · have : k < i := by simpa using h
        omega
      · exact h
      · omega
    · exact esOk_spec h.2 i hi' k hk' hik
def genOk (n : Nat) (l : List Oper) (es : List Nat) : Bool := Region.lexB .any l.toArray && (dstsOk n l && esOk l es)
/-- the boxes of these names are left out -/
def Bx.outs (B : Bx) : List Nat → Bx
  | [] => B
  | k :: ks => Bx.outs (Bx.drop k B) ks
theorem Bx.outs_sub : ∀ {ks : List Nat} {B : Bx} {x : Nat × Res}, x ∈ Bx.outs B ks → x ∈ B
  | [], _, _, h => h
  | k :: ks, B, x, h => Bx.drop_sub (Bx.outs_sub (ks := ks) h)
/-- THE RULE: es: the operations that turn or make boxes; ks: the names of the boxes that they turn -/
theorem AWP.genR {id : Nat} {l : List Oper} {env : Env} {B : Bx} (es ks : List Nat) (hm : P.follows .mixedOrders = true) (hl : genOk n l es = true)
    (h : ∀ K : Env → Bx → Prop, (∀ e b, Q .normal ⟨e, b⟩ → K e b) → genVC P l es (Bx.outs B ks) 0 [] l env B K) : AWP P n (.region id l.toArray true) ⟨env, B⟩ Q := by
  simp only [genOk, Bool.and_eq_true] at hl
  intro κ M0 a w hs
  obtain ⟨hback, hpairs, _⟩ := lex_pairs hl.1
  obtain ⟨t, b, e, jn, hb0, hsp, hf, he, _, hjj, hK⟩ := gen_trace l es (Bx.outs B ks) _ l 0 [] env B hl.2.1 (fun x hx => Bx.outs_sub hx) (h (fun e b => Q .normal ⟨e, b⟩) (fun _ _ k => k))
  have hord : EffOrdG l e := fun i k hik hk hei hek => esOk_spec hl.2.2 i (memN_spec (by simpa using he i hei)) k (memN_spec (by simpa using he k hek)) hik
  refine wp_region_any hm ?_
  have hsz : l.toArray.size = l.length := by simp
  rw [hsz]
  have hrep : ∀ j, (Array.replicate l.length false).getD j false = false := fun j => rep_getD _ j
  refine gen_sound hback hpairs hord hsp hf (fun g k j hg hgk hk => by have := hjj g k j hg hgk hk; simpa using this) (fun a w s => ⟨_, s, hK⟩) l.length _ a _ ?_ (mid_start (σ := ⟨env, B⟩) hb0 hs)
  unfold cnt
  have hfil : (List.range l.length).filter (fun i => !(Array.replicate l.length false).getD i false) = List.range l.length := by
    rw [List.filter_eq_self]
    intro x _
    simp only [hrep x, Bool.not_false]
  rw [hfil, List.length_range]
theorem genVC_nil {all : List Oper} {es : List Nat} {fixB : Bx} {i : Nat} {gs : List (Nat × Nat)} {env : Env} {B : Bx} {K : Env → Bx → Prop} (h : K env B) : genVC P all es fixB i gs [] env B K := h
def genOpVC (P : Program) (all : List Oper) (es : List Nat) (fixB : Bx) (i : Nat) (gs : List (Nat × Nat)) (o : Oper) (env : Env) (B : Bx) (K' : List (Nat × Nat) → Env → Bx → Prop) : Prop :=
  bif memN i es then effVC P o env B fun t B' => bxSub B' fixB ∧ FreshOr all i t gs ∧ K' (gsNext i o gs) (putE env o.dst t) B'
  else pureVC P o env fixB fun t => FreshOr all i t gs ∧ K' gs (putE env o.dst t) B
theorem genVC_stepN {all os : List Oper} {es : List Nat} {fixB : Bx} {i : Nat} {gs : List (Nat × Nat)} {o : Oper} {env : Env} {B : Bx} {K : Env → Bx → Prop} (hg : o.guard = none)
    (h : ∀ K' : List (Nat × Nat) → Env → Bx → Prop, (∀ gs e b, genVC P all es fixB (i + 1) gs os e b K → K' gs e b) → genOpVC P all es fixB i gs o env B K') : genVC P all es fixB i gs (o :: os) env B K :=
  guardT_none hg (h (fun gs e b => genVC P all es fixB (i + 1) gs os e b K) fun _ _ _ q => q)
theorem genVC_stepG {all os : List Oper} {es : List Nat} {fixB : Bx} {i : Nat} {gs : List (Nat × Nat)} {o : Oper} {env : Env} {B : Bx} {K : Env → Bx → Prop} {j d : Nat} {want : Bool} (hg : o.guard = some (j, want)) (hd : (all[j]?).bind (·.dst) = some d)
    (h : ∀ K' : List (Nat × Nat) → Env → Bx → Prop, (∀ gs e b, genVC P all es fixB (i + 1) gs os e b K → K' gs e b) → guardE (env.lookup d) want (genOpVC P all es fixB i gs o env B K') (K' gs (putE env o.dst undefT) B)) : genVC P all es fixB i gs (o :: os) env B K :=
  guardT_some hg hd (h (fun gs e b => genVC P all es fixB (i + 1) gs os e b K) fun _ _ _ q => q)
end Go.Sx
namespace Go.Sx
attribute [go_sem] true_or or_true false_or or_false genOpVC memN FreshOr gsNext makes bxSub Bx.outs
attribute [go_sem] parOpVC guardE effVC effVCN vCallN pureVC vMove vPick vInt vStr vBin vUn vLoad vFieldAddr vIndexAddr vIndex vField vExtract vSlice vNil vMakeFunc refsOf vConv vBuild vParts vBuildSlice vRows vRowsH vLen vMinMax vCall vAlloc vBox vStore vAppend vLookup vMapPut vMakeMap vMakeSl vErr valT rowOfT
attribute [go_sem] ev evs constT softO C.soft Cell.soft T.soft T.softs calleeT cutC mkAgg pureCs toCells lenIs bnd srcRows undefT putE Bx.put Bx.drop retTs retT envOf effCall notIn ptrName Bx.drop
attribute [go_sem] vBinE vCallE vCallZ vCallZ0 vFr ownIn ownCell T.frOk T.frOks Cell.frOk Cell.frOks T.fr T.frs Cell.fr Cell.frs lowN T.anyPtr T.hasPtr capsPtr Env.fresh Bx.fresh T.fresh T.freshs Cell.fresh Cell.freshs dstN Then InBlock RetQ ev0
attribute [go_sem] List.lookup_cons List.lookup_nil List.headD_cons List.tail_cons cond_true cond_false Option.bind_some Option.map_some Option.map_none List.map_cons List.map_nil
attribute [go_sem] List.toList_toArray Option.getD_some Option.getD_none beq_true beq_false Bool.and_true Bool.true_and Bool.not_true Bool.not_false Bool.or_false Bool.false_or Bool.or_true Bool.true_or Bool.and_false Bool.false_and
attribute [go_sem] List.getElem?_cons_zero List.getElem?_cons_succ List.cons_append List.nil_append List.append_nil Bool.not_not
attribute [go_sem] if_true if_false true_and and_true true_imp_iff false_imp_iff eq_self Int.toNat_zero Int.toNat_one Int.toNat_natCast Option.some.injEq exists_eq_left exists_eq_left' List.length_cons List.length_nil Int.cast_ofNat_Int Int.natCast_zero Int.natCast_one decide_true decide_false Nat.zero_add Nat.add_zero
@[go_sem] theorem takeT_agg (n : Nat) (cs : List Cell) (K : T → Prop) : takeT true n cs K = (match cutC n cs with
    | some (x, _) => K (mkAgg x)
    | none => False) := rfl
@[go_sem] theorem takeT_one (n : Nat) (c : Cell) (cs : List Cell) (K : T → Prop) : takeT false n (c :: cs) K = K (.one c) := rfl
@[go_sem] theorem takeP_agg (n : Nat) (cs : List C) (K : T → Prop) : takeP true n cs K = (match cutC n cs with
    | some (x, _) => K (.st x)
    | none => False) := rfl
@[go_sem] theorem takeP_one (n : Nat) (c : C) (cs : List C) (K : T → Prop) : takeP false n (c :: cs) K = K (.one (.dat c)) := rfl
theorem guard_c (b : Bool) (X Y : Prop) : (bif b then X else Y) ↔ ((b = true → X) ∧ (b = false → Y)) := by cases b <;> simp
attribute [go_sem low] guard_c
structure KeyD where
  kind : Int
  text : List UInt8
  deriving DecidableEq
def encKey (k : KeyD) : List C := [.int .i64 k.kind, .str k.text]
structure FieldD where
  key : KeyD
  node : Int
  opt : Bool
  deriving DecidableEq
def encField (f : FieldD) : List C := [.int .i64 f.key.kind, .str f.key.text, .int .i64 f.node, .bool f.opt]
def encInt (n : Int) : List C := [.int .i64 n]
def encStr (l : List UInt8) : List C := [.str l]
structure NodeD where
  kind : Int
  lo : Int
  hi : Int
  text : List UInt8
  kids : List Int
  fields : List FieldD
  r0 : Int
  r1 : Int
  deriving DecidableEq
def encNode (n : NodeD) : List C := [.int .i64 n.kind, .int .i64 n.lo, .int .i64 n.hi, .str n.text, .sl 1 (n.kids.map encInt), .sl 4 (n.fields.map encField), .int .i64 n.r0, .int .i64 n.r1]
structure Dat where
  kind : Int
  num : Int
  text : List UInt8
  kids : List Dat
  keys : List KeyD
  mod : List UInt8
  version : Int
  routine : Int
  wrapped : Bool
  nodes : List NodeD
  root : Int
  inner : List UInt8
  outer : List UInt8
mutual
def encDat : Dat → List C
  | ⟨kind, num, text, kids, keys, mod, version, routine, wrapped, nodes, root, inner, outer⟩ =>
    [.int .i64 kind, .int .i64 num, .str text, .sl 13 (encDats kids), .sl 2 (keys.map encKey), .str mod, .int .i64 version, .int .i64 routine, .bool wrapped, .sl 8 (nodes.map encNode), .int .i64 root, .str inner, .str outer]
def encDats : List Dat → List (List C)
  | [] => []
  | d :: ds => encDat d :: encDats ds
end
theorem encDats_eq : ∀ l : List Dat, encDats l = l.map encDat
  | [] => by simp only [encDats, List.map_nil]
  | d :: l => by simp only [encDats, List.map_cons, encDats_eq l]
theorem encDat_eq (d : Dat) : encDat d = [.int .i64 d.kind, .int .i64 d.num, .str d.text, .sl 13 (d.kids.map encDat), .sl 2 (d.keys.map encKey), .str d.mod, .int .i64 d.version, .int .i64 d.routine, .bool d.wrapped, .sl 8 (d.nodes.map encNode), .int .i64 d.root, .str d.inner, .str d.outer] := by
  cases d
  simp only [encDat, encDats_eq]
structure Val where
  kind : Int
  num : Int
  text : List UInt8
  kids : List Val
  keys : List KeyD
  ents : List (List Val × Bool × Val)
  labels : List (List UInt8)
mutual
def encVal : Val → List C
  | ⟨kind, num, text, kids, keys, ents, labels⟩ => [.int .i64 kind, .int .i64 num, .str text, .sl 7 (encVals kids), .sl 2 (keys.map encKey), .sl 9 (encEnts ents), .sl 1 (labels.map encStr)]
def encVals : List Val → List (List C)
  | [] => []
  | d :: ds => encVal d :: encVals ds
def encEnt : List Val × Bool × Val → List C
  | (args, fails, result) => .sl 7 (encVals args) :: .bool fails :: encVal result
def encEnts : List (List Val × Bool × Val) → List (List C)
  | [] => []
  | e :: es => encEnt e :: encEnts es
end
theorem encVals_eq : ∀ l : List Val, encVals l = l.map encVal
  | [] => by simp only [encVals, List.map_nil]
  | d :: l => by simp only [encVals, List.map_cons, encVals_eq l]
theorem encEnts_eq : ∀ l : List (List Val × Bool × Val), encEnts l = l.map encEnt
  | [] => by simp only [encEnts, List.map_nil]
  | d :: l => by simp only [encEnts, List.map_cons, encEnts_eq l]
theorem encVal_eq (v : Val) : encVal v = [.int .i64 v.kind, .int .i64 v.num, .str v.text, .sl 7 (v.kids.map encVal), .sl 2 (v.keys.map encKey), .sl 9 (v.ents.map encEnt), .sl 1 (v.labels.map encStr)] := by
  cases v
  simp only [encVal, encVals_eq, encEnts_eq]
theorem encEnt_eq (e : List Val × Bool × Val) : encEnt e = [.sl 7 (e.1.map encVal), .bool e.2.1, .int .i64 e.2.2.kind, .int .i64 e.2.2.num, .str e.2.2.text, .sl 7 (e.2.2.kids.map encVal), .sl 2 (e.2.2.keys.map encKey), .sl 9 (e.2.2.ents.map encEnt), .sl 1 (e.2.2.labels.map encStr)] := by
  obtain ⟨a, f, r⟩ := e
  simp only [encEnt, encVals_eq, encVal_eq]
/-- the datum of a kind, all else zero -/
def zeroDat : Dat := ⟨0, 0, [], [], [], [], 0, 0, false, [], 0, [], []⟩
def atomDat (s : List UInt8) : Dat := { zeroDat with kind := 3, text := s }
def intDat (n : Int) : Dat := { zeroDat with kind := 1, num := n }
theorem pureCs_map : ∀ r : List C, pureCs (r.map .dat) = some r
  | [] => rfl
  | c :: r => by simp only [List.map_cons, pureCs, pureCs_map r]
theorem mkAgg_map (r : List C) : mkAgg (r.map .dat) = .st r := by simp only [mkAgg, pureCs_map]
theorem soft_map (r : List C) : (r.map Cell.dat).map Cell.soft = (r.map C.soft).map Cell.dat := by induction r <;> simp_all [Cell.soft]
attribute [go_sem] pureCs_map mkAgg_map soft_map
@[go_sem] theorem freshs_enc (n : Nat) : ∀ r : List C, Cell.freshs n (r.map .dat) = true
  | [] => rfl
  | c :: r => by simp only [List.map_cons, Cell.freshs, freshs_enc n r, Cell.fresh, Bool.and_true]
theorem encKey_lit (x : KeyD) : encKey x = [.int .i64 x.kind, .str x.text] := rfl
@[go_sem] theorem encKey_cut (x : KeyD) : cutC 2 (encKey x) = some (encKey x, []) := by rfl
@[go_sem low] theorem encKey_cutk (x : KeyD) (k : Nat) : cutC k (encKey x) = cutC k [.int .i64 x.kind, .str x.text] := by rw [encKey_lit]
@[go_sem] theorem encKey_cutm (x : KeyD) : cutC 2 ((encKey x).map Cell.dat) = some ((encKey x).map Cell.dat, []) := by rfl
@[go_sem low] theorem encKey_cutmk (x : KeyD) (k : Nat) : cutC k ((encKey x).map Cell.dat) = cutC k (([.int .i64 x.kind, .str x.text] : List C).map Cell.dat) := by rw [encKey_lit]
@[go_sem] theorem encKey_soft (x : KeyD) : (encKey x).map C.soft = encKey x := by rfl
@[go_sem] theorem encKey_len (x : KeyD) : lenIs 2 (encKey x) = true := by rfl
@[go_sem high] theorem encKey_takeP (x : KeyD) (n : Nat) (K : T → Prop) : takeP false n (encKey x) K = K (.one (.dat (.int .i64 x.kind))) := by rw [encKey_lit]; rfl
@[go_sem high] theorem encKey_takeT (x : KeyD) (n : Nat) (K : T → Prop) : takeT false n ((encKey x).map Cell.dat) K = K (.one (.dat (.int .i64 x.kind))) := by rw [encKey_lit]; rfl
@[go_sem] theorem encKey_lenm (x : KeyD) : lenIs 2 ((encKey x).map Cell.dat) = true := by rfl
theorem encField_lit (x : FieldD) : encField x = [.int .i64 x.key.kind, .str x.key.text, .int .i64 x.node, .bool x.opt] := rfl
@[go_sem] theorem encField_cut (x : FieldD) : cutC 4 (encField x) = some (encField x, []) := by rfl
@[go_sem low] theorem encField_cutk (x : FieldD) (k : Nat) : cutC k (encField x) = cutC k [.int .i64 x.key.kind, .str x.key.text, .int .i64 x.node, .bool x.opt] := by rw [encField_lit]
@[go_sem] theorem encField_cutm (x : FieldD) : cutC 4 ((encField x).map Cell.dat) = some ((encField x).map Cell.dat, []) := by rfl
@[go_sem low] theorem encField_cutmk (x : FieldD) (k : Nat) : cutC k ((encField x).map Cell.dat) = cutC k (([.int .i64 x.key.kind, .str x.key.text, .int .i64 x.node, .bool x.opt] : List C).map Cell.dat) := by rw [encField_lit]
@[go_sem] theorem encField_soft (x : FieldD) : (encField x).map C.soft = encField x := by rfl
@[go_sem] theorem encField_len (x : FieldD) : lenIs 4 (encField x) = true := by rfl
@[go_sem high] theorem encField_takeP (x : FieldD) (n : Nat) (K : T → Prop) : takeP false n (encField x) K = K (.one (.dat (.int .i64 x.key.kind))) := by rw [encField_lit]; rfl
@[go_sem high] theorem encField_takeT (x : FieldD) (n : Nat) (K : T → Prop) : takeT false n ((encField x).map Cell.dat) K = K (.one (.dat (.int .i64 x.key.kind))) := by rw [encField_lit]; rfl
@[go_sem] theorem encField_lenm (x : FieldD) : lenIs 4 ((encField x).map Cell.dat) = true := by rfl
theorem encInt_lit (x : Int) : encInt x = [.int .i64 x] := rfl
@[go_sem] theorem encInt_cut (x : Int) : cutC 1 (encInt x) = some (encInt x, []) := by rfl
@[go_sem low] theorem encInt_cutk (x : Int) (k : Nat) : cutC k (encInt x) = cutC k [.int .i64 x] := by rw [encInt_lit]
@[go_sem] theorem encInt_cutm (x : Int) : cutC 1 ((encInt x).map Cell.dat) = some ((encInt x).map Cell.dat, []) := by rfl
@[go_sem low] theorem encInt_cutmk (x : Int) (k : Nat) : cutC k ((encInt x).map Cell.dat) = cutC k (([.int .i64 x] : List C).map Cell.dat) := by rw [encInt_lit]
@[go_sem] theorem encInt_soft (x : Int) : (encInt x).map C.soft = encInt x := by rfl
@[go_sem] theorem encInt_len (x : Int) : lenIs 1 (encInt x) = true := by rfl
@[go_sem high] theorem encInt_takeP (x : Int) (n : Nat) (K : T → Prop) : takeP false n (encInt x) K = K (.one (.dat (.int .i64 x))) := by rw [encInt_lit]; rfl
@[go_sem high] theorem encInt_takeT (x : Int) (n : Nat) (K : T → Prop) : takeT false n ((encInt x).map Cell.dat) K = K (.one (.dat (.int .i64 x))) := by rw [encInt_lit]; rfl
@[go_sem] theorem encInt_lenm (x : Int) : lenIs 1 ((encInt x).map Cell.dat) = true := by rfl
theorem encStr_lit (x : List UInt8) : encStr x = [.str x] := rfl
@[go_sem] theorem encStr_cut (x : List UInt8) : cutC 1 (encStr x) = some (encStr x, []) := by rfl
@[go_sem low] theorem encStr_cutk (x : List UInt8) (k : Nat) : cutC k (encStr x) = cutC k [.str x] := by rw [encStr_lit]
@[go_sem] theorem encStr_cutm (x : List UInt8) : cutC 1 ((encStr x).map Cell.dat) = some ((encStr x).map Cell.dat, []) := by rfl
@[go_sem low] theorem encStr_cutmk (x : List UInt8) (k : Nat) : cutC k ((encStr x).map Cell.dat) = cutC k (([.str x] : List C).map Cell.dat) := by rw [encStr_lit]
@[go_sem] theorem encStr_soft (x : List UInt8) : (encStr x).map C.soft = encStr x := by rfl
@[go_sem] theorem encStr_len (x : List UInt8) : lenIs 1 (encStr x) = true := by rfl
@[go_sem high] theorem encStr_takeP (x : List UInt8) (n : Nat) (K : T → Prop) : takeP false n (encStr x) K = K (.one (.dat (.str x))) := by rw [encStr_lit]; rfl
@[go_sem high] theorem encStr_takeT (x : List UInt8) (n : Nat) (K : T → Prop) : takeT false n ((encStr x).map Cell.dat) K = K (.one (.dat (.str x))) := by rw [encStr_lit]; rfl
@[go_sem] theorem encStr_lenm (x : List UInt8) : lenIs 1 ((encStr x).map Cell.dat) = true := by rfl
theorem encNode_lit (x : NodeD) : encNode x = [.int .i64 x.kind, .int .i64 x.lo, .int .i64 x.hi, .str x.text, .sl 1 (x.kids.map encInt), .sl 4 (x.fields.map encField), .int .i64 x.r0, .int .i64 x.r1] := rfl
@[go_sem] theorem encNode_cut (x : NodeD) : cutC 8 (encNode x) = some (encNode x, []) := by rfl
@[go_sem low] theorem encNode_cutk (x : NodeD) (k : Nat) : cutC k (encNode x) = cutC k [.int .i64 x.kind, .int .i64 x.lo, .int .i64 x.hi, .str x.text, .sl 1 (x.kids.map encInt), .sl 4 (x.fields.map encField), .int .i64 x.r0, .int .i64 x.r1] := by rw [encNode_lit]
@[go_sem] theorem encNode_cutm (x : NodeD) : cutC 8 ((encNode x).map Cell.dat) = some ((encNode x).map Cell.dat, []) := by rfl
@[go_sem low] theorem encNode_cutmk (x : NodeD) (k : Nat) : cutC k ((encNode x).map Cell.dat) = cutC k (([.int .i64 x.kind, .int .i64 x.lo, .int .i64 x.hi, .str x.text, .sl 1 (x.kids.map encInt), .sl 4 (x.fields.map encField), .int .i64 x.r0, .int .i64 x.r1] : List C).map Cell.dat) := by rw [encNode_lit]
@[go_sem] theorem encNode_soft (x : NodeD) : (encNode x).map C.soft = encNode x := by rfl
@[go_sem] theorem encNode_len (x : NodeD) : lenIs 8 (encNode x) = true := by rfl
@[go_sem high] theorem encNode_takeP (x : NodeD) (n : Nat) (K : T → Prop) : takeP false n (encNode x) K = K (.one (.dat (.int .i64 x.kind))) := by rw [encNode_lit]; rfl
@[go_sem high] theorem encNode_takeT (x : NodeD) (n : Nat) (K : T → Prop) : takeT false n ((encNode x).map Cell.dat) K = K (.one (.dat (.int .i64 x.kind))) := by rw [encNode_lit]; rfl
@[go_sem] theorem encNode_lenm (x : NodeD) : lenIs 8 ((encNode x).map Cell.dat) = true := by rfl
theorem encDat_lit (x : Dat) : encDat x = [.int .i64 x.kind, .int .i64 x.num, .str x.text, .sl 13 (x.kids.map encDat), .sl 2 (x.keys.map encKey), .str x.mod, .int .i64 x.version, .int .i64 x.routine, .bool x.wrapped, .sl 8 (x.nodes.map encNode), .int .i64 x.root, .str x.inner, .str x.outer] := encDat_eq x
@[go_sem] theorem encDat_cut (x : Dat) : cutC 13 (encDat x) = some (encDat x, []) := by rw [encDat_eq]; rfl
@[go_sem low] theorem encDat_cutk (x : Dat) (k : Nat) : cutC k (encDat x) = cutC k [.int .i64 x.kind, .int .i64 x.num, .str x.text, .sl 13 (x.kids.map encDat), .sl 2 (x.keys.map encKey), .str x.mod, .int .i64 x.version, .int .i64 x.routine, .bool x.wrapped, .sl 8 (x.nodes.map encNode), .int .i64 x.root, .str x.inner, .str x.outer] := by rw [encDat_lit]
@[go_sem] theorem encDat_cutm (x : Dat) : cutC 13 ((encDat x).map Cell.dat) = some ((encDat x).map Cell.dat, []) := by rw [encDat_eq]; rfl
@[go_sem low] theorem encDat_cutmk (x : Dat) (k : Nat) : cutC k ((encDat x).map Cell.dat) = cutC k (([.int .i64 x.kind, .int .i64 x.num, .str x.text, .sl 13 (x.kids.map encDat), .sl 2 (x.keys.map encKey), .str x.mod, .int .i64 x.version, .int .i64 x.routine, .bool x.wrapped, .sl 8 (x.nodes.map encNode), .int .i64 x.root, .str x.inner, .str x.outer] : List C).map Cell.dat) := by rw [encDat_lit]
@[go_sem] theorem encDat_soft (x : Dat) : (encDat x).map C.soft = encDat x := by rw [encDat_eq]; rfl
@[go_sem] theorem encDat_len (x : Dat) : lenIs 13 (encDat x) = true := by rw [encDat_eq]; rfl
@[go_sem high] theorem encDat_takeP (x : Dat) (n : Nat) (K : T → Prop) : takeP false n (encDat x) K = K (.one (.dat (.int .i64 x.kind))) := by rw [encDat_lit]; rfl
@[go_sem high] theorem encDat_takeT (x : Dat) (n : Nat) (K : T → Prop) : takeT false n ((encDat x).map Cell.dat) K = K (.one (.dat (.int .i64 x.kind))) := by rw [encDat_lit]; rfl
@[go_sem] theorem encDat_lenm (x : Dat) : lenIs 13 ((encDat x).map Cell.dat) = true := by rw [encDat_eq]; rfl
theorem encVal_lit (x : Val) : encVal x = [.int .i64 x.kind, .int .i64 x.num, .str x.text, .sl 7 (x.kids.map encVal), .sl 2 (x.keys.map encKey), .sl 9 (x.ents.map encEnt), .sl 1 (x.labels.map encStr)] := encVal_eq x
@[go_sem] theorem encVal_cut (x : Val) : cutC 7 (encVal x) = some (encVal x, []) := by rw [encVal_eq]; rfl
@[go_sem low] theorem encVal_cutk (x : Val) (k : Nat) : cutC k (encVal x) = cutC k [.int .i64 x.kind, .int .i64 x.num, .str x.text, .sl 7 (x.kids.map encVal), .sl 2 (x.keys.map encKey), .sl 9 (x.ents.map encEnt), .sl 1 (x.labels.map encStr)] := by rw [encVal_lit]
@[go_sem] theorem encVal_cutm (x : Val) : cutC 7 ((encVal x).map Cell.dat) = some ((encVal x).map Cell.dat, []) := by rw [encVal_eq]; rfl
@[go_sem low] theorem encVal_cutmk (x : Val) (k : Nat) : cutC k ((encVal x).map Cell.dat) = cutC k (([.int .i64 x.kind, .int .i64 x.num, .str x.text, .sl 7 (x.kids.map encVal), .sl 2 (x.keys.map encKey), .sl 9 (x.ents.map encEnt), .sl 1 (x.labels.map encStr)] : List C).map Cell.dat) := by rw [encVal_lit]
@[go_sem] theorem encVal_soft (x : Val) : (encVal x).map C.soft = encVal x := by rw [encVal_eq]; rfl
@[go_sem] theorem encVal_len (x : Val) : lenIs 7 (encVal x) = true := by rw [encVal_eq]; rfl
@[go_sem high] theorem encVal_takeP (x : Val) (n : Nat) (K : T → Prop) : takeP false n (encVal x) K = K (.one (.dat (.int .i64 x.kind))) := by rw [encVal_lit]; rfl
@[go_sem high] theorem encVal_takeT (x : Val) (n : Nat) (K : T → Prop) : takeT false n ((encVal x).map Cell.dat) K = K (.one (.dat (.int .i64 x.kind))) := by rw [encVal_lit]; rfl
@[go_sem] theorem encVal_lenm (x : Val) : lenIs 7 ((encVal x).map Cell.dat) = true := by rw [encVal_eq]; rfl
theorem encEnt_lit (x : List Val × Bool × Val) : encEnt x = [.sl 7 (x.1.map encVal), .bool x.2.1, .int .i64 x.2.2.kind, .int .i64 x.2.2.num, .str x.2.2.text, .sl 7 (x.2.2.kids.map encVal), .sl 2 (x.2.2.keys.map encKey), .sl 9 (x.2.2.ents.map encEnt), .sl 1 (x.2.2.labels.map encStr)] := encEnt_eq x
@[go_sem] theorem encEnt_cut (x : List Val × Bool × Val) : cutC 9 (encEnt x) = some (encEnt x, []) := by rw [encEnt_eq]; rfl
@[go_sem low] theorem encEnt_cutk (x : List Val × Bool × Val) (k : Nat) : cutC k (encEnt x) = cutC k [.sl 7 (x.1.map encVal), .bool x.2.1, .int .i64 x.2.2.kind, .int .i64 x.2.2.num, .str x.2.2.text, .sl 7 (x.2.2.kids.map encVal), .sl 2 (x.2.2.keys.map encKey), .sl 9 (x.2.2.ents.map encEnt), .sl 1 (x.2.2.labels.map encStr)] := by rw [encEnt_lit]
@[go_sem] theorem encEnt_cutm (x : List Val × Bool × Val) : cutC 9 ((encEnt x).map Cell.dat) = some ((encEnt x).map Cell.dat, []) := by rw [encEnt_eq]; rfl
@[go_sem low] theorem encEnt_cutmk (x : List Val × Bool × Val) (k : Nat) : cutC k ((encEnt x).map Cell.dat) = cutC k (([.sl 7 (x.1.map encVal), .bool x.2.1, .int .i64 x.2.2.kind, .int .i64 x.2.2.num, .str x.2.2.text, .sl 7 (x.2.2.kids.map encVal), .sl 2 (x.2.2.keys.map encKey), .sl 9 (x.2.2.ents.map encEnt), .sl 1 (x.2.2.labels.map encStr)] : List C).map Cell.dat) := by rw [encEnt_lit]
@[go_sem] theorem encEnt_soft (x : List Val × Bool × Val) : (encEnt x).map C.soft = encEnt x := by rw [encEnt_eq]; rfl
@[go_sem] theorem encEnt_len (x : List Val × Bool × Val) : lenIs 9 (encEnt x) = true := by rw [encEnt_eq]; rfl
@[go_sem high] theorem encEnt_takeP (x : List Val × Bool × Val) (n : Nat) (K : T → Prop) : takeP false n (encEnt x) K = K (.one (.dat (.sl 7 (x.1.map encVal)))) := by rw [encEnt_lit]; rfl
@[go_sem high] theorem encEnt_takeT (x : List Val × Bool × Val) (n : Nat) (K : T → Prop) : takeT false n ((encEnt x).map Cell.dat) K = K (.one (.dat (.sl 7 (x.1.map encVal)))) := by rw [encEnt_lit]; rfl
@[go_sem] theorem encEnt_lenm (x : List Val × Bool × Val) : lenIs 9 ((encEnt x).map Cell.dat) = true := by rw [encEnt_eq]; rfl
end Go.Sx
set_option linter.unusedVariables false
namespace Go.Sx
/-- the laws of truth values, as one -/
theorem zb : (∀ b : Bool, (b && true) = b) ∧ (∀ b : Bool, (b && false) = false) ∧ (∀ b : Bool, (true && b) = b) ∧ (∀ b : Bool, (false && b) = false) ∧ (∀ b : Bool, (b || true) = true) ∧ (∀ b : Bool, (b || false) = b) ∧
    (∀ b : Bool, (true || b) = true) ∧ (∀ b : Bool, (false || b) = b) ∧ (!true) = false ∧ (!false) = true := by
  refine ⟨?_, ?_, ?_, ?_, ?_, ?_, ?_, ?_, rfl, rfl⟩ <;> intro b <;> cases b <;> rfl
variable {P : Program} {n : Nat} {Q : Exit → AS → Prop}
/-- every entry of the second environment stands in the first -/
def envSub (env : Env) : Env → Prop
  | [] => True
  | p :: τ => env.lookup p.1 = some p.2 ∧ envSub env τ
theorem envSub_spec {env : Env} : ∀ {τ : Env}, envSub env τ → ∀ p ∈ τ, env.lookup p.1 = some p.2
  | q :: τ, h, p, hm => by
    rcases List.mem_cons.1 hm with rfl | hm
    · exact h.1
    · exact envSub_spec h.2 p hm
theorem St.forget {κ : Kap} {M0 : Mem} {a : Act} {w : World} {env τ : Env} {B : Bx} (h : St κ M0 n ⟨env, B⟩ a w) (hs : envSub env τ) : St κ M0 n ⟨τ, B⟩ a w := by
  obtain ⟨M, ν, h1, h2, h3, h4, h5, h6⟩ := h
  exact ⟨M, ν, h1, h2, h3, fun d t e => h4 d t (envSub_spec hs (d, t) (lookup_mem e)), h5, h6⟩
theorem AWP.forget {c : Code} {env : Env} {B : Bx} (τ : Env) (hs : envSub env τ) (h : AWP P n c ⟨τ, B⟩ Q) : AWP P n c ⟨env, B⟩ Q :=
  fun κ M0 a w s => h κ M0 a w (s.forget hs)
/-- a loop whose boxes stay: the relation speaks of a number that every round lowers, and of an environment -/
theorem AWP.loopE {c : Code} {env : Env} {B : Bx} (I : Nat → Env → Bx → Prop) (k₀ : Nat) (τ : Env) (hs : envSub env τ) (h₀ : I k₀ τ B)
    (round : ∀ (k : Nat) (e : Env) (b : Bx), I k e b → AWP P n c ⟨e, b⟩ (Then (fun σ' => ∃ k' τ', k' < k ∧ envSub σ'.env τ' ∧ I k' τ' σ'.B) Q)) : AWP P n (.loop c) ⟨env, B⟩ Q := by
  refine AWP.forget τ hs ?_
  refine AWP.loop (fun k σ => I k σ.env σ.B) k₀ h₀ ?_
  intro k σ hI
  intro κ M0 a w s
  refine wp_mono (round k σ.env σ.B hI κ M0 a w s) ?_
  rintro e a' w' ⟨σ', s', q⟩
  cases e with
  | normal => obtain ⟨k', τ', h1, h2, h3⟩ := q; exact ⟨⟨τ', σ'.B⟩, s'.forget h2, k', h1, h3⟩
  | exit id => exact ⟨σ', s', q⟩
  | goto l => exact ⟨σ', s', q⟩
  | ret => exact ⟨σ', s', q⟩
  | panic ch => exact ⟨σ', s', q⟩
  | outgrown => exact ⟨σ', s', q⟩
theorem w64 {n : Int} (h : -9223372036854775808 ≤ n ∧ n ≤ 9223372036854775807) : IntKind.i64.wrap n = n := IntWalk.i64_in n h
/-- the state says that a slice is no longer than an int can tell -/
theorem AWP.len {c : Code} {env : Env} {B : Bx} (d : Nat) {sz : Nat} {rows : List (List C)} (hd : env.lookup d = some (.one (.dat (.sl sz rows)))) (h : rows.length ≤ 9223372036854775807 → AWP P n c ⟨env, B⟩ Q) : AWP P n c ⟨env, B⟩ Q := by
  intro κ M0 a w s
  refine h ?_ κ M0 a w s
  obtain ⟨M, ν, _, _, _, h4, _⟩ := s
  have := h4 d _ hd
  simp only [T.rep, Cell.rep, C.rep] at this
  obtain ⟨_, cap, _, _, h1, h2, _⟩ := this
  unfold maxLen at h2
  omega
attribute [go_sem] envSub
/-- of the environment only these are kept -/
def keepL (env : Env) : List Nat → Env
  | [] => []
  | d :: ds => match env.lookup d with
    | some t => (d, t) :: keepL env ds
    | none => keepL env ds
theorem keepL_lookup (env : Env) (d : Nat) (t : T) : ∀ ds, (keepL env ds).lookup d = some t → env.lookup d = some t
  | [], h => by simp [keepL] at h
  | e :: ds, h => by
    unfold keepL at h
    split at h
    · rename_i u hu
      rw [List.lookup_cons] at h
      split at h
      · rename_i hb
        have : d = e := by simpa using hb
        subst this
        cases h; exact hu
      · exact keepL_lookup env d t ds h
    · exact keepL_lookup env d t ds h
theorem AWP.keep {c : Code} {env : Env} {B : Bx} (ds : List Nat) (h : AWP P n c ⟨keepL env ds, B⟩ Q) : AWP P n c ⟨env, B⟩ Q := by
  intro κ M0 a w s
  refine h κ M0 a w ?_
  obtain ⟨M, ν, h1, h2, h3, h4, h5, h6⟩ := s
  exact ⟨M, ν, h1, h2, h3, fun d t e => h4 d t (keepL_lookup env d t ds e), h5, h6⟩
attribute [go_sem] keepL
end Go.Sx
set_option linter.unusedVariables false
namespace Go.Sx
open Go.RowKit
variable {P : Program}
theorem keptBut_same {w w' : World} (may : MemPlace → Prop) (h1 : w'.os = w.os) (h2 : w'.output = w.output) (h : ∀ i, i < w.heap.size → w'.heap[i]? = w.heap[i]?) : w.keptBut w' may := by
  refine ⟨h1, h2, fun i hi => ?_⟩
  rw [h i hi]
  cases w.heap[i]? with
  | none => rfl
  | some o => cases o <;> first | exact ⟨rfl, rfl, rfl, fun _ _ => rfl⟩ | exact .inr ⟨rfl, rfl⟩ | rfl
/-- all that a world has, frozen -/
def Mem.whole (w : World) (hg : GlobOk (fun b => w.heap[b]?)) : Mem := ⟨fun b => w.heap[b]?, hg⟩
theorem Sat.whole (w : World) (ν : Nu) (hg : GlobOk (fun b => w.heap[b]?)) : Sat ⟨w, boxBlocks [] ν, ν⟩ (Mem.whole w hg) ν [] w :=
  ⟨rfl, rfl, rfl, Nat.zero_le _, Nat.le_refl _, fun _ _ _ => rfl, fun _ _ e => e, fun _ _ h => (by cases h), fun _ _ _ h => (by cases h), fun _ _ _ _ _ h => (by cases h), by simp⟩
end Go.Sx
