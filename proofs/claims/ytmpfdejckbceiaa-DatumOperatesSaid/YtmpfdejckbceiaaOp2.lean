/- A part of the proof: lemmas about the walk of the program and about plain integers and lists. No conditions beyond those that each lemma states. -/
import Derived.Test.YtmpfdejckbceiaaOp1
/-! A region that draws its order: one walk in the order of the text serves every order. -/
set_option linter.unusedVariables false
set_option linter.unusedSimpArgs false
namespace Go.Sx
variable {P : Program} {n : Nat} {σ : AS} {Q : Exit → AS → Prop}

/-- operations that may turn a box -/
def mayEff (o : Oper) : Bool :=
  match o.op with
  | .call { callee := .value _, args := _, argTypes := _ } => true
  | .store .. => true
  | _ => false

inductive ParO (P : Program) (n : Nat) (o : Oper) (fixB : Bx) (env : Env) (B : Bx) (K : T → Bx → Prop) : Prop
  | pure (t : T) (h : OpP P o env fixB t) (hd : dstOk n o = true) (k : K t B)
  | eff (t : T) (B' : Bx) (he : mayEff o = true) (hx : ∀ x ∈ fixB, x ∈ B') (h : OpE P o env B t B') (hd : dstOk n o = true) (k : K t B')

def parSem (P : Program) (n : Nat) (all : List Oper) (fixB : Bx) : List Oper → Env → Bx → (Env → Bx → Prop) → Prop
  | [], env, B, K => K env B
  | o :: os, env, B, K => guardT all env o (ParO P n o fixB env B fun t B' => parSem P n all fixB os (putE env o.dst t) B' K)
      (dstOk n o = true ∧ parSem P n all fixB os (putE env o.dst undefT) B K)

/-- what the walk found of one operation -/
def OSpec (P : Program) (n : Nat) (all : List Oper) (fixB : Bx) (o : Oper) (env : Env) (b : Bx) (t : T) (b' : Bx) (e : Bool) : Prop :=
  dstOk n o = true ∧
  ((guardT all env o True False ∧ ((e = false ∧ OpP P o env fixB t ∧ b' = b) ∨ (e = true ∧ mayEff o = true ∧ OpE P o env b t b'))) ∨
   (guardT all env o False True ∧ t = undefT ∧ b' = b ∧ e = false))

def envA (l : List Oper) (t : Nat → T) (X : Nat → Bool) (env : Env) : Nat → Env
  | 0 => env
  | i + 1 => bif X i then putE (envA l t X env i) ((l[i]?).bind (·.dst)) (t i) else envA l t X env i

theorem envA_cons (o : Oper) (l : List Oper) (t : Nat → T) (env : Env) : ∀ i,
    envA (o :: l) t (fun _ => true) env (i + 1) = envA l (fun j => t (j + 1)) (fun _ => true) (putE env o.dst (t 0)) i
  | 0 => rfl
  | i + 1 => by
    have ih := envA_cons o l t env i
    rw [envA, ih]
    simp [envA]

theorem guardT_true {all : List Oper} {env : Env} {o : Oper} {X Y : Prop} (h : guardT all env o X Y) : (guardT all env o True False ∧ X) ∨ (guardT all env o False True ∧ Y) := by
  unfold guardT at *
  cases hg : o.guard with
  | none => rw [hg] at h; exact .inl ⟨trivial, h⟩
  | some p =>
    obtain ⟨j, want⟩ := p
    rw [hg] at h
    simp only [] at h ⊢
    split at h
    · rename_i b hb
      cases hbw : (b == want) <;> rw [hbw] at h
      · exact .inr ⟨trivial, h⟩
      · exact .inl ⟨trivial, h⟩
    · exact .inr ⟨trivial, h⟩
    · exact h.elim

theorem rep_getD (m j : Nat) : (Array.replicate m false).getD j false = false := by
  simp only [Array.getD_eq_getD_getElem?, Array.getElem?_replicate]
  split <;> rfl

theorem par_trace (all : List Oper) (fixB : Bx) (K : Env → Bx → Prop) : ∀ (l : List Oper) (env : Env) (B : Bx), (∀ x ∈ fixB, x ∈ B) → parSem P n all fixB l env B K →
    ∃ (t : Nat → T) (b : Nat → Bx) (e : Nat → Bool), b 0 = B ∧ (∀ i o, l[i]? = some o → OSpec P n all fixB o (envA l t (fun _ => true) env i) (b i) (t i) (b (i + 1)) (e i)) ∧
      (∀ i, i ≤ l.length → ∀ x ∈ fixB, x ∈ b i) ∧ K (envA l t (fun _ => true) env l.length) (b l.length)
  | [], env, B, hB, h => ⟨fun _ => undefT, fun _ => B, fun _ => false, rfl, fun i o ho => by simp at ho, fun i _ => hB, h⟩
  | o :: os, env, B, hB, h => by
    have step : ∃ (t0 : T) (B' : Bx) (e0 : Bool), OSpec P n all fixB o env B t0 B' e0 ∧ (∀ x ∈ fixB, x ∈ B') ∧ parSem P n all fixB os (putE env o.dst t0) B' K := by
      rcases guardT_true h with ⟨hg, hx⟩ | ⟨hg, hd, hx⟩
      · cases hx with
        | pure t hop hd k => exact ⟨t, B, false, ⟨hd, .inl ⟨hg, .inl ⟨rfl, hop, rfl⟩⟩⟩, hB, k⟩
        | eff t B' he hfix hop hd k => exact ⟨t, B', true, ⟨hd, .inl ⟨hg, .inr ⟨rfl, he, hop⟩⟩⟩, hfix, k⟩
      · exact ⟨undefT, B, false, ⟨hd, .inr ⟨hg, rfl, rfl, rfl⟩⟩, hB, hx⟩
    obtain ⟨t0, B', e0, hspec, hfix, hk⟩ := step
    obtain ⟨t, b, e, hb0, hs, hf, hK⟩ := par_trace all fixB K os _ B' hfix hk
    refine ⟨fun i => match i with | 0 => t0 | i + 1 => t i, fun i => match i with | 0 => B | i + 1 => b i, fun i => match i with | 0 => e0 | i + 1 => e i, rfl, ?_, ?_, ?_⟩
    · intro i o' ho
      cases i with
      | zero => simp at ho; subst ho; rw [← hb0] at hspec; exact hspec
      | succ i =>
        rw [envA_cons]
        exact hs i o' (by simpa using ho)
    · intro i hi
      cases i with
      | zero => exact hB
      | succ i => exact hf i (by simpa using hi)
    · rw [List.length_cons, envA_cons]; exact hK

/-! the operations done so far -/
def xs (listed : Array Bool) (i : Nat) : Bool := listed.getD i false

theorem putE_lookup (env : Env) (dst : Option Tmp) (t : T) (k : Nat) : (putE env dst t).lookup k = if dst = some k then some t else env.lookup k := by
  cases dst with
  | none => simp [putE]
  | some d =>
    simp only [putE, List.lookup_cons]
    by_cases h : k = d
    · subst h; simp
    · have : (k == d) = false := by simpa using h
      rw [this]
      simp [Ne.symm h]

theorem envA_skip (l : List Oper) (t : Nat → T) (X : Nat → Bool) (env : Env) (d i : Nat) : ∀ m, i ≤ m → (∀ j o, i ≤ j → j < m → l[j]? = some o → o.dst = some d → X j = false) →
    (envA l t X env m).lookup d = (envA l t X env i).lookup d
  | 0, h, _ => by have : i = 0 := by omega
                  subst this; rfl
  | m + 1, h, hw => by
    by_cases hi : i = m + 1
    · subst hi; rfl
    · have ih := envA_skip l t X env d i m (by omega) (fun j o h1 h2 => hw j o h1 (by omega))
      rw [envA]
      cases hx : X m with
      | false => simpa using ih
      | true =>
        simp only [cond_true, putE_lookup]
        rw [if_neg, ih]
        intro e
        obtain ⟨o, ho, hd⟩ := Option.bind_eq_some_iff.1 e
        have := hw m o (by omega) (by omega) ho hd
        rw [hx] at this; cases this

theorem envA_same (l : List Oper) (t : Nat → T) (X Y : Nat → Bool) (env : Env) (d : Nat) : ∀ m, (∀ j o, j < m → l[j]? = some o → o.dst = some d → X j = Y j) →
    (envA l t X env m).lookup d = (envA l t Y env m).lookup d
  | 0, _ => rfl
  | m + 1, hw => by
    have ih := envA_same l t X Y env d m (fun j o h => hw j o (by omega))
    rw [envA, envA]
    by_cases e : (l[m]?).bind (·.dst) = some d
    · obtain ⟨o, ho, hd⟩ := Option.bind_eq_some_iff.1 e
      rw [← hw m o (by omega) ho hd]
      cases hx : X m
      · simpa using ih
      · simp [putE_lookup, e]
    · cases hx : X m <;> cases hy : Y m <;> simp [putE_lookup, e, ih]

/-- each pair of operations is apart, or the later one waits for the earlier one -/
def Pairs (l : List Oper) : Prop := ∀ i j oi oj, i < j → l[i]? = some oi → l[j]? = some oj →
  (∃ e ∈ oj.after, Region.binds .any e = true ∧ e.on = i) ∨ oi.apart l.toArray oj = true
/-- every edge leads back -/
def Back (l : List Oper) : Prop := ∀ j oj, l[j]? = some oj → ∀ e ∈ oj.after, Region.binds .any e = true → e.on < j

theorem lex_spec (ops : Array Oper) : ∀ (fuel k : Nat) (listed : Array Bool), listed.size = ops.size → fuel + k = ops.size → (∀ j, j < ops.size → (listed.getD j false = true ↔ j < k)) → Region.lexFrom .any ops fuel k listed = true →
    (∀ j oj, k ≤ j → ops[j]? = some oj → ∀ e ∈ oj.after, Region.binds .any e = true → e.on < j) ∧
    (∀ i j oi oj, k ≤ i → i < j → ops[i]? = some oi → ops[j]? = some oj → (∃ e ∈ oj.after, Region.binds .any e = true ∧ e.on = i) ∨ oi.apart ops oj = true)
  | 0, k, listed, _, hk, _, _ => by
    have : k = ops.size := by omega
    subst this
    refine ⟨fun j oj h1 h2 => ?_, fun i j oi oj h1 h2 h3 h4 => ?_⟩
    · have := (Array.getElem?_eq_some_iff.1 h2).1; omega
    · have := (Array.getElem?_eq_some_iff.1 h3).1; omega
  | fuel + 1, k, listed, hsz, hk, hl, h => by
    simp only [Region.lexFrom, Bool.and_eq_true] at h
    obtain ⟨⟨hr, hf⟩, hB'⟩ := h
    have hklt : k < ops.size := by omega
    have ih := lex_spec ops fuel (k + 1) (listed.setIfInBounds k true) (by simpa using hsz) (by omega) (fun j hj => by
      by_cases hjk : k = j
      · subst hjk; simp [hsz, hklt]
      · rw [getD_set_ne false hjk, hl j hj]; omega) hB'
    have hready := mem_ready.1 (List.contains_iff_mem.1 hr)
    refine ⟨fun j oj h1 h2 e he hb => ?_, fun i j oi oj h1 h2 h3 h4 => ?_⟩
    · by_cases hjk : j = k
      · subst hjk
        obtain ⟨_, o, ho, hall⟩ := hready
        rw [h2] at ho
        cases ho
        have ht := hall e he hb
        by_cases hlt : e.on < ops.size
        · exact (hl _ hlt).1 ht
        · exfalso; simp [Array.getElem?_eq_none (show listed.size ≤ e.on by omega)] at ht
      · exact ih.1 j oj (by omega) h2 e he hb
    · by_cases hik : i = k
      · subst hik
        by_cases hex : ∃ e ∈ oj.after, Region.binds .any e = true ∧ e.on = i
        · exact .inl hex
        · refine .inr (Region.free_spec h3 hf j oj h4 (by omega) ?_ (fun e he hb heq => hex ⟨e, he, hb, heq⟩))
          have hjs := (Array.getElem?_eq_some_iff.1 h4).1
          have h0 : ¬ listed.getD j false = true := fun hc => by have := (hl j hjs).1 hc; omega
          have hjl : j < listed.size := by omega
          simp [hjl] at h0 ⊢
          exact h0
      · exact ih.2 i j oi oj (by omega) h2 h3 h4

theorem lex_pairs {l : List Oper} (h : Region.lexB .any l.toArray = true) : Back l ∧ Pairs l ∧ Region.noSelect l.toArray = true := by
  simp only [Region.lexB, Bool.and_eq_true] at h
  have := lex_spec l.toArray l.toArray.size 0 (Array.replicate l.toArray.size false) (by simp) (by simp) (fun j hj => by rw [rep_getD]; simp) h.2
  exact ⟨fun j oj hj => this.1 j oj (by omega) (by simpa using hj), fun i j oi oj hij hi hj => this.2 i j oi oj (by omega) hij (by simpa using hi) (by simpa using hj), h.1⟩

def Closed (l : List Oper) (listed : Array Bool) : Prop := ∀ j oj, l[j]? = some oj → listed.getD j false = true → ∀ e ∈ oj.after, Region.binds .any e = true → listed.getD e.on false = true

/-- what is known while the operations of 'listed' are done -/
structure Mid (κ : Kap) (M0 : Mem) (n : Nat) (l : List Oper) (t : Nat → T) (b : Nat → Bx) (e : Nat → Bool) (env0 : Env) (listed : Array Bool) (a : Act) (w : World) : Prop where
  size : listed.size = l.length
  closed : Closed l listed
  st : ∃ M ν m, M0.ext κ M ∧ a.tmps.size = n ∧ a.defers = [] ∧ EnvOk M ν a.tmps (envA l t (xs listed) env0 l.length) ∧ m ≤ l.length ∧
    (∀ i, i < l.length → e i = true → (listed.getD i false = true ↔ i < m)) ∧ Sat κ M ν (b m) w ∧ ∀ k, pin ≤ k → ν k = κ.nu k

theorem wanted_of {all : List Oper} {env : Env} {o : Oper} {M : Mem} {ν : Nu} {a : Act} (h : guardT all env o True False)
    (he : ∀ g want d t, o.guard = some (g, want) → (all[g]?).bind (·.dst) = some d → env.lookup d = some t → t.rep M ν (a.tmps.getD d undef)) : Region.wanted o (yielded all.toArray a.tmps) = true := by
  unfold guardT at h
  split at h
  · rename_i hg; simp [Region.wanted, hg]
  · rename_i j want hg
    split at h
    · rename_i b hb
      obtain ⟨d, hd, hl⟩ := Option.bind_eq_some_iff.1 hb
      have hr := he j want d _ hg hd hl
      simp only [T.rep, Cell.rep, C.rep] at hr
      have hy : yielded all.toArray a.tmps j = some b := by
        unfold yielded
        have : (all.toArray[j]?).bind (·.dst) = some d := by simpa using hd
        rw [this]
        by_cases hlt : d < a.tmps.size
        · have : a.tmps[d]? = some (.bool b) := by
            simp [hlt] at hr
            simp [hlt, hr]
          simp [this]
        · simp [Nat.le_of_not_lt hlt] at hr
          simp [undef] at hr
      cases hbw : (b == want) <;> rw [hbw] at h
      · exact h.elim
      · have : b = want := by simpa using hbw
        simp [Region.wanted, hg, hy, this]
    · exact h.elim
    · exact h.elim
theorem unwanted_of {all : List Oper} {env : Env} {o : Oper} {M : Mem} {ν : Nu} {a : Act} (h : guardT all env o False True)
    (he : ∀ g want d t, o.guard = some (g, want) → (all[g]?).bind (·.dst) = some d → env.lookup d = some t → t.rep M ν (a.tmps.getD d undef)) : Region.wanted o (yielded all.toArray a.tmps) = false := by
  unfold guardT at h
  split at h
  · exact h.elim
  · rename_i j want hg
    split at h
    · rename_i b hb
      obtain ⟨d, hd, hl⟩ := Option.bind_eq_some_iff.1 hb
      have hr := he j want d _ hg hd hl
      simp only [T.rep, Cell.rep, C.rep] at hr
      have hy : yielded all.toArray a.tmps j = some b := by
        unfold yielded
        have : (all.toArray[j]?).bind (·.dst) = some d := by simpa using hd
        rw [this]
        by_cases hlt : d < a.tmps.size
        · have : a.tmps[d]? = some (.bool b) := by
            simp [hlt] at hr
            simp [hlt, hr]
          simp [this]
        · simp [Nat.le_of_not_lt hlt] at hr
          simp [undef] at hr
      cases hbw : (b == want) <;> rw [hbw] at h
      · simp [Region.wanted, hg, hy]; simpa using hbw
      · exact h.elim
    · rename_i hb
      obtain ⟨d, hd, hl⟩ := Option.bind_eq_some_iff.1 hb
      have hr := he j want d _ hg hd hl
      simp only [T.rep] at hr
      simp [Region.wanted, hg, yielded_un hd hr]
    · exact h.elim

theorem const_b {b : Nat → Bx} {e : Nat → Bool} {l : List Oper} (hb : ∀ i, i < l.length → e i = false → b (i + 1) = b i) (m : Nat) : ∀ i, m ≤ i → i ≤ l.length → (∀ j, m ≤ j → j < i → e j = false) → b i = b m
  | 0, h, _, _ => by have : m = 0 := by omega
                     subst this; rfl
  | i + 1, h, hl, hn => by
    by_cases hm : m = i + 1
    · subst hm; rfl
    · rw [hb i (by omega) (hn i (by omega) (by omega))]
      exact const_b hb m i (by omega) (by omega) (fun j h1 h2 => hn j h1 (by omega))

theorem count_lt {p q : Nat → Bool} : ∀ {l : List Nat}, (∀ x ∈ l, q x = true → p x = true) → (∃ x ∈ l, p x = true ∧ q x = false) → (l.filter q).length < (l.filter p).length
  | [], _, h => by obtain ⟨x, hx, _⟩ := h; cases hx
  | y :: l, h1, h2 => by
    have hle : ∀ {l : List Nat}, (∀ x ∈ l, q x = true → p x = true) → (l.filter q).length ≤ (l.filter p).length := by
      intro l
      induction l with
      | nil => intro _; simp
      | cons z l ih =>
        intro h
        have ih := ih (fun x hx => h x (List.mem_cons_of_mem _ hx))
        simp only [List.filter_cons]
        cases hq : q z with
        | true => rw [h z (by simp) hq]; simpa using ih
        | false => cases hp : p z <;> simp <;> omega
    obtain ⟨x, hx, hp, hq⟩ := h2
    have hle' := hle (l := l) (fun x hx => h1 x (List.mem_cons_of_mem _ hx))
    simp only [List.filter_cons]
    rcases List.mem_cons.1 hx with rfl | hx'
    · rw [hp, hq]; simp; omega
    · have ih := count_lt (l := l) (fun x hx => h1 x (List.mem_cons_of_mem _ hx)) ⟨x, hx', hp, hq⟩
      cases hqy : q y with
      | true => rw [h1 y (by simp) hqy]; simpa using ih
      | false => cases hpy : p y <;> simp <;> omega

theorem looksAt_op {ops : Array Oper} {o : Oper} {d : Nat} (h : Operand.tmp d ∈ o.op.operands) : d ∈ o.looksAt ops :=
  List.mem_append_left _ (List.mem_filterMap.2 ⟨.tmp d, by simpa using h, rfl⟩)
theorem looksAt_guard {l : List Oper} {o : Oper} {g d : Nat} {want : Bool} (h : o.guard = some (g, want)) (hd : (l[g]?).bind (·.dst) = some d) : d ∈ o.looksAt l.toArray := by
  refine List.mem_append_right _ ?_
  have : ((l.toArray[g]?).bind (·.dst)) = some d := by simpa using hd
  rw [h]
  simp only [this]
  simp

/-- effects come in the order of the text -/
def EffOrd (l : List Oper) (e : Nat → Bool) : Prop := ∀ listed : Array Bool, Closed l listed → ∀ i j, i < j → j < l.length → e i = true → e j = true → listed.getD j false = true → listed.getD i false = true

theorem par_sound {κ : Kap} {M0 : Mem} {l : List Oper} {fixB : Bx} {t : Nat → T} {b : Nat → Bx} {e : Nat → Bool} {env0 : Env} {Q' : Exit → Act → World → Prop}
    (hback : Back l) (hpairs : Pairs l) (hord : EffOrd l e)
    (hs : ∀ i o, l[i]? = some o → OSpec P n l fixB o (envA l t (fun _ => true) env0 i) (b i) (t i) (b (i + 1)) (e i)) (hf : ∀ i, i ≤ l.length → ∀ x ∈ fixB, x ∈ b i)
    (hQ : ∀ a w, St κ M0 n ⟨envA l t (fun _ => true) env0 l.length, b l.length⟩ a w → Q' .normal a w) :
    ∀ (fuel : Nat) (listed : Array Bool) (a : Act) (w : World), ((List.range l.length).filter fun i => !listed.getD i false).length = fuel → Mid κ M0 n l t b e env0 listed a w →
      wpAny P .any l.toArray Q' fuel listed a w := by
  have hbc : ∀ i, i < l.length → e i = false → b (i + 1) = b i := by
    intro i hi he
    rcases (hs i l[i] (by simp [hi])).2 with ⟨_, ⟨_, _, h⟩ | ⟨h, _⟩⟩ | ⟨_, _, h, _⟩
    · exact h
    · rw [he] at h; cases h
    · exact h
  -- an operation that is not done, all before it done, is ready
  have least : ∀ (listed : Array Bool), listed.size = l.length → Region.ready .any l.toArray listed = [] → ∀ i, i < l.length → listed.getD i false = true := by
    intro listed hsz hr i
    induction i using Nat.strongRecOn with
    | _ i ih =>
      intro hi
      cases hc : listed.getD i false with
      | true => rfl
      | false =>
        exfalso
        have : i ∈ Region.ready .any l.toArray listed := by
          rw [mem_ready]
          refine ⟨?_, l[i], by simp [hi], fun e' he' hb' => ?_⟩
          · have : i < listed.size := by omega
            simp [this] at hc ⊢
            exact hc
          · have := hback i l[i] (by simp [hi]) e' he' hb'
            exact ih e'.on this (by omega)
        rw [hr] at this
        cases this
  have done : ∀ (listed : Array Bool) (a : Act) (w : World), Mid κ M0 n l t b e env0 listed a w → (∀ i, i < l.length → listed.getD i false = true) → Q' .normal a w := by
    intro listed a w hm hall
    obtain ⟨M, ν, m, h1, h2, h3, h4, h5, h6, h7, h8⟩ := hm.st
    refine hQ a w ⟨M, ν, h1, h2, h3, ?_, ?_⟩
    · intro d u hu
      refine h4 d u ?_
      rw [envA_same l t (xs listed) (fun _ => true) env0 d l.length (fun j o hj _ _ => hall j hj)]
      exact hu
    · have : b l.length = b m := const_b hbc m l.length h5 (Nat.le_refl _) (fun j hj1 hj2 => by
        cases hj : e j with
        | false => rfl
        | true => have := (h6 j hj2 hj).1 (hall j hj2); omega)
      simp only [this]
      exact ⟨h7, h8⟩
  intro fuel
  induction fuel with
  | zero =>
    intro listed a w hfuel hm
    have hall : ∀ i, i < l.length → listed.getD i false = true := by
      intro i hi
      cases hc : listed.getD i false with
      | true => rfl
      | false =>
        exfalso
        have : i ∈ (List.range l.length).filter fun i => !listed.getD i false := by
          rw [List.mem_filter]; exact ⟨by simpa using hi, by simp only [hc]; rfl⟩
        rw [List.length_eq_zero_iff.1 hfuel] at this
        cases this
    refine ⟨?_, done listed a w hm hall⟩
    cases hr : Region.ready .any l.toArray listed with
    | nil => rfl
    | cons x xs' =>
      exfalso
      have hx : x ∈ Region.ready .any l.toArray listed := by rw [hr]; simp
      obtain ⟨h0, o, ho, _⟩ := mem_ready.1 hx
      have hlt : x < l.length := by have := (Array.getElem?_eq_some_iff.1 ho).1; simpa using this
      have := hall x hlt
      have hsz : x < listed.size := by rw [hm.size]; exact hlt
      simp [hsz] at h0 this
      rw [h0] at this; cases this
  | succ fuel ih =>
    intro listed a w hfuel hm
    refine ⟨fun hr => done listed a w hm (least listed hm.size hr), fun i hi => ?_⟩
    obtain ⟨h0, oi, hoi, hall⟩ := mem_ready.1 hi
    have hil : i < l.length := by have := (Array.getElem?_eq_some_iff.1 hoi).1; simpa using this
    have hoi' : l[i]? = some oi := by simpa using hoi
    have hisz : i < listed.size := by rw [hm.size]; exact hil
    have hxi : listed.getD i false = false := by simp [hisz] at h0 ⊢; exact h0
    obtain ⟨M, ν, m, h1, h2, h3, h4, h5, h6, h7, h8⟩ := hm.st
    obtain ⟨hd, hspec⟩ := hs i oi hoi'
    -- the operands stand as in the order of the text
    have look : ∀ d, d ∈ oi.looksAt l.toArray → (envA l t (xs listed) env0 l.length).lookup d = (envA l t (fun _ => true) env0 i).lookup d := by
      intro d hdm
      rw [envA_skip l t (xs listed) env0 d i l.length (by omega) ?_, envA_same l t (xs listed) (fun _ => true) env0 d i ?_]
      · intro j o hj ho hod
        rcases hpairs j i o oi hj ho hoi' with ⟨e', he', hb', hon⟩ | hap
        · exact hon ▸ hall e' he' hb'
        · exact absurd hdm ((Oper.apart_spec hap).1 d hod)
      · intro j o hj hjl ho hod
        by_cases hji : i = j
        · subst hji; exact hxi
        · cases hxj : xs listed j with
          | false => rfl
          | true =>
            rcases hpairs i j oi o (by omega) hoi' ho with ⟨e', he', hb', hon⟩ | hap
            · have := hm.closed j o ho hxj e' he' hb'
              rw [hon, hxi] at this; cases this
            · exact absurd hdm ((Oper.apart_spec hap).2.2 d hod)
    have hclosed : Closed l (listed.setIfInBounds i true) := by
      intro j oj hj hx e' he' hb'
      by_cases hji : i = j
      · subst hji
        rw [hoi'] at hj; cases hj
        exact getD_set_true (hall e' he' hb')
      · rw [getD_set_ne false hji] at hx
        exact getD_set_true (hm.closed j oj hj hx e' he' hb')
    have hcount : ((List.range l.length).filter fun j => !(listed.setIfInBounds i true).getD j false).length = fuel := by
      have hsplit : ∀ r : List Nat, r.Nodup → i ∈ r → (r.filter fun j => !listed.getD j false).length = (r.filter fun j => !(listed.setIfInBounds i true).getD j false).length + 1 := by
        intro r
        induction r with
        | nil => intro _ h; cases h
        | cons y r ihr =>
          intro hnd hmem
          simp only [List.nodup_cons] at hnd
          have hself : (listed.setIfInBounds i true).getD i false = true := by simp [hisz]
          rcases List.mem_cons.1 hmem with rfl | hmem
          · have : (r.filter fun j => !listed.getD j false) = (r.filter fun j => !(listed.setIfInBounds i true).getD j false) := by
              apply List.filter_congr
              intro j hj
              have hne : i ≠ j := fun h => hnd.1 (h ▸ hj)
              rw [getD_set_ne false hne]
            rw [List.filter_cons, List.filter_cons, hxi, hself, this]
            simp
          · have hne : i ≠ y := fun h => hnd.1 (h ▸ hmem)
            have ih' := ihr hnd.2 hmem
            rw [List.filter_cons, List.filter_cons, getD_set_ne false hne]
            cases listed.getD y false <;> simp only [Bool.not_true, Bool.not_false, if_true, if_false, Bool.false_eq_true, List.length_cons] <;> omega
      have := hsplit (List.range l.length) List.nodup_range (by simpa using hil)
      omega
    -- after the operation
    have after : ∀ (M' : Mem) (v : Value) (w' : World) (m' : Nat), M.ext κ M' → (t i).rep M' ν v → m' ≤ l.length →
        (∀ j, j < l.length → e j = true → ((listed.setIfInBounds i true).getD j false = true ↔ j < m')) → Sat κ M' ν (b m') w' →
        Mid κ M0 n l t b e env0 (listed.setIfInBounds i true) (a.put oi.dst v) w' := by
      intro M' v w' m' hle hr hm' hem hsat
      refine ⟨by simpa using hm.size, hclosed, M', ν, m', h1.trans hle, by rw [Act.put_size]; exact h2, by rw [Act.put_defers']; exact h3, ?_, hm', hem, hsat, h8⟩
      have hput := EnvOk.put (df := a.defers) (h4.mono hle.1) (dst := oi.dst) (v := v) (t := t i) (fun d he => by rw [h2]; exact dstOk_spec hd d he) hr
      intro k u hu
      refine hput k u ?_
      rw [putE_lookup]
      by_cases hk : oi.dst = some k
      · rw [if_pos hk]
        -- nobody behind i that writes k is done
        have e1 := envA_skip l t (xs (listed.setIfInBounds i true)) env0 k (i + 1) l.length (by omega) (fun j o hj hjl ho hod => by
          cases hxj : xs (listed.setIfInBounds i true) j with
          | false => rfl
          | true =>
            have hne : i ≠ j := by omega
            have hxj' : listed.getD j false = true := by rw [← getD_set_ne false hne]; exact hxj
            rcases hpairs i j oi o (by omega) hoi' ho with ⟨e', he', hb', hon⟩ | hap
            · have := hm.closed j o ho hxj' e' he' hb'
              rw [hon, hxi] at this; cases this
            · exact absurd hod ((Oper.apart_spec hap).2.1 k hk))
        rw [e1] at hu
        have hself : xs (listed.setIfInBounds i true) i = true := by simp [xs, hisz]
        rw [envA, hself] at hu
        simp only [cond_true, putE_lookup, hoi', Option.bind_some, hk, if_true] at hu
        exact hu
      · rw [if_neg hk]
        have e2 := envA_same l t (xs (listed.setIfInBounds i true)) (xs listed) env0 k l.length (fun j o hj ho hod => by
          have hne : i ≠ j := fun h => by subst h; rw [hoi'] at ho; cases ho; exact hk hod
          exact getD_set_ne false hne)
        rw [← e2]; exact hu
    have hon : EnvOn M ν a (envA l t (fun _ => true) env0 i) oi := by
      intro d u hdo hu
      refine h4 d u ?_
      rw [look d (looksAt_op hdo)]; exact hu
    have hgd : ∀ g want d u, oi.guard = some (g, want) → (l[g]?).bind (·.dst) = some d → (envA l t (fun _ => true) env0 i).lookup d = some u → u.rep M ν (a.tmps.getD d undef) := by
      intro g want d u hg hgd hu
      refine h4 d u ?_
      rw [look d (looksAt_guard hg hgd)]; exact hu
    have samem : e i = false → ∀ j, j < l.length → e j = true → ((listed.setIfInBounds i true).getD j false = true ↔ j < m) := by
      intro hei j hj hej
      have hne : i ≠ j := fun h => by subst h; rw [hei] at hej; cases hej
      rw [getD_set_ne false hne]; exact h6 j hj hej
    unfold wpOp
    rw [hoi]
    simp only []
    rcases hspec with ⟨hg, ⟨hei, hop, hbb⟩ | ⟨hei, hme, hop⟩⟩ | ⟨hg, ht, hbb, hei⟩
    · rw [if_pos (wanted_of hg hgd)]
      left
      refine Oper.wp_mono_Q (Oper.wp_mono ?_ (hop κ M ν a w (b m) (hf m h5) hon h7))
      rintro a' w' ⟨v, M', rfl, hle, hr, hsat⟩
      exact ih _ _ _ hcount (after M' v w' m hle hr h5 (samem hei) hsat)
    · rw [if_pos (wanted_of hg hgd)]
      left
      -- m and i: no effect between them
      have hmi : m ≤ i := by
        rcases Nat.lt_or_ge i m with h | h
        · have := (h6 i hil hei).2 h; rw [hxi] at this; cases this
        · exact h
      have prev : ∀ j, j < i → e j = true → listed.getD j false = true := by
        intro j hj hej
        have hself : (listed.setIfInBounds i true).getD i false = true := by simp [hisz]
        have := hord _ hclosed j i hj hil hej hei hself
        rwa [getD_set_ne false (by omega)] at this
      have hbm : b i = b m := const_b hbc m i hmi (by omega) (fun j hj1 hj2 => by
        cases hj : e j with
        | false => rfl
        | true => have := (h6 j (by omega) hj).1 (prev j hj2 hj); omega)
      refine Oper.wp_mono_Q (Oper.wp_mono ?_ (hop κ M ν a w hon (by rw [hbm]; exact h7)))
      rintro a' w' ⟨v, M', rfl, hle, hr, hsat⟩
      refine ih _ _ _ hcount (after M' v w' (i + 1) hle hr hil (fun j hj hej => ?_) hsat)
      by_cases hji : i = j
      · subst hji; simp [hisz]
      · rw [getD_set_ne false hji]
        constructor
        · intro hx
          rcases Nat.lt_or_ge i j with h | h
          · have := hord _ hm.closed i j h hj hei hej hx
            rw [hxi] at this; cases this
          · omega
        · intro hx
          exact prev j (by omega) hej
    · rw [unwanted_of hg hgd]
      simp only [Bool.false_eq_true, if_false]
      refine ih _ _ _ hcount (after M undef w m (Mem.ext.refl κ M) (by rw [ht]; simp [undefT, T.rep, Cell.rep, C.rep]) h5 (samem hei) h7)

/-- the indexes of the operations that may turn a box, and that each waits for the one before -/
def chainFrom (l : List Oper) : Option Nat → Nat → List Oper → Bool
  | _, _, [] => true
  | last, i, o :: os => bif mayEff o then (match last with | none => true | some j => o.after.any fun e => Region.binds .any e && e.on == j) && chainFrom l (some i) (i + 1) os else chainFrom l last (i + 1) os

theorem chain_spec (l : List Oper) (listed : Array Bool) (hc : Closed l listed) : ∀ (os : List Oper) (i : Nat) (last : Option Nat), (∀ j, os[j]? = l[i + j]?) → chainFrom l last i os = true →
    ∀ j o, os[j]? = some o → mayEff o = true → listed.getD (i + j) false = true → (∀ k, last = some k → listed.getD k false = true) ∧ ∀ j' o', j' < j → os[j']? = some o' → mayEff o' = true → listed.getD (i + j') false = true
  | [], i, last, hl, h, j, o, hj, _, _ => by simp at hj
  | p :: os, i, last, hl, h, j, o, hj, hm, hx => by
    have hl' : ∀ j, os[j]? = l[i + 1 + j]? := fun j => by have := hl (j + 1); simpa [Nat.add_assoc, Nat.add_comm 1 j] using this
    have h0 : l[i]? = some p := by simpa using (hl 0).symm
    cases j with
    | zero =>
      simp at hj; subst hj
      simp only [chainFrom, hm, cond_true, Bool.and_eq_true] at h
      refine ⟨fun k hk => ?_, fun j' o' hj' => by omega⟩
      subst hk
      obtain ⟨e, he, hb⟩ := Array.any_eq_true'.1 h.1
      simp only [Bool.and_eq_true, beq_iff_eq] at hb
      have := hc i p h0 (by simpa using hx) e he hb.1
      rw [hb.2] at this; exact this
    | succ j =>
      have hj' : os[j]? = some o := by simpa using hj
      have hx' : listed.getD (i + 1 + j) false = true := by simpa [Nat.add_assoc, Nat.add_comm 1 j] using hx
      cases hp : mayEff p with
      | false =>
        simp only [chainFrom, hp, cond_false] at h
        obtain ⟨r1, r2⟩ := chain_spec l listed hc os (i + 1) last hl' h j o hj' hm hx'
        refine ⟨r1, fun j' o' hlt ho' hm' => ?_⟩
        cases j' with
        | zero => simp at ho'; subst ho'; rw [hp] at hm'; cases hm'
        | succ j' =>
          have := r2 j' o' (by omega) (by simpa using ho') hm'
          simpa [Nat.add_assoc, Nat.add_comm 1 j'] using this
      | true =>
        simp only [chainFrom, hp, cond_true, Bool.and_eq_true] at h
        obtain ⟨r1, r2⟩ := chain_spec l listed hc os (i + 1) (some i) hl' h.2 j o hj' hm hx'
        have hi := r1 i rfl
        refine ⟨fun k hk => ?_, fun j' o' hlt ho' hm' => ?_⟩
        · subst hk
          obtain ⟨e, he, hb⟩ := Array.any_eq_true'.1 h.1
          simp only [Bool.and_eq_true, beq_iff_eq] at hb
          have := hc i p h0 hi e he hb.1
          rw [hb.2] at this; exact this
        · cases j' with
          | zero => simpa using hi
          | succ j' =>
            have := r2 j' o' (by omega) (by simpa using ho') hm'
            simpa [Nat.add_assoc, Nat.add_comm 1 j'] using this

theorem mid_start {κ : Kap} {M0 : Mem} {l : List Oper} {t : Nat → T} {b : Nat → Bx} {e : Nat → Bool} {a : Act} {w : World} (hb0 : b 0 = σ.B) (hs : St κ M0 n σ a w) :
    Mid κ M0 n l t b e σ.env (Array.replicate l.length false) a { w with drawn := w.drawn + 1 } := by
  obtain ⟨M, ν, h1, h2, h3, h4, h5, h6⟩ := hs
  have hx : ∀ j, xs (Array.replicate l.length false) j = false := fun j => rep_getD _ j
  have henv : ∀ m, envA l t (xs (Array.replicate l.length false)) σ.env m = σ.env := by
    intro m
    induction m with
    | zero => rfl
    | succ m ih => rw [envA, hx]; simpa using ih
  refine ⟨by simp, fun j oj hj hc => ?_, M, ν, 0, h1, h2, h3, ?_, Nat.zero_le _, fun i hi he => ?_, ?_⟩
  · have := hx j; unfold xs at this; rw [this] at hc; cases hc
  · rw [henv]; exact h4
  · have := hx i; unfold xs at this; rw [this]; simp
  · rw [hb0]
    exact ⟨⟨h5.os, h5.tape, h5.output, Nat.le_trans h5.dr (Nat.le_succ _), h5.size, h5.unch, h5.fro, fun k r hm => by
      have := h5.res k r hm
      cases r <;> exact this, h5.away, h5.inj, h5.nodup⟩, h6⟩

/-- THE RULE: a region that draws its order -/
theorem AWP.region_par {id : Nat} {l : List Oper} (fixB : Bx) (hm : P.follows .mixedOrders = true) (hlex : Region.lexB .any l.toArray = true) (hch : chainFrom l none 0 l = true) (hfix : ∀ x ∈ fixB, x ∈ σ.B)
    (h : ∀ K : AS → Prop, (∀ σ', Q .normal σ' → K σ') → parSem P n l fixB l σ.env σ.B (fun env B => K ⟨env, B⟩)) : AWP P n (.region id l.toArray true) σ Q := by
  intro κ M0 a w hs
  obtain ⟨hback, hpairs, _⟩ := lex_pairs hlex
  obtain ⟨t, b, e, hb0, hsp, hf, hK⟩ := par_trace l fixB _ l σ.env σ.B hfix (h (fun σ' => Q .normal σ') (fun _ k => k))
  have hord : EffOrd l e := by
    intro listed hc i j hij hj hei hej hx
    have mayOf : ∀ k, k < l.length → e k = true → ∃ o, l[k]? = some o ∧ mayEff o = true := by
      intro k hk hek
      refine ⟨l[k], by simp [hk], ?_⟩
      rcases (hsp k l[k] (by simp [hk])).2 with ⟨_, ⟨h, _⟩ | ⟨_, h, _⟩⟩ | ⟨_, _, _, h⟩
      · rw [hek] at h; cases h
      · exact h
      · rw [hek] at h; cases h
    obtain ⟨oi, hoi, hmi⟩ := mayOf i (by omega) hei
    obtain ⟨oj, hoj, hmj⟩ := mayOf j hj hej
    have := (chain_spec l listed hc l 0 none (fun j => by simp) hch j oj hoj hmj (by simpa using hx)).2 i oi hij hoi hmi
    simpa using this
  refine wp_region_any hm ?_
  have hsz : l.toArray.size = l.length := by simp
  rw [hsz]
  refine par_sound hback hpairs hord hsp hf (fun a w s => ⟨_, s, hK⟩) l.length _ a _ ?_ (mid_start hb0 hs)
  have : ∀ j, (Array.replicate l.length false).getD j false = false := fun j => rep_getD _ j
  have hfil : (List.range l.length).filter (fun i => !(Array.replicate l.length false).getD i false) = List.range l.length := by
    rw [List.filter_eq_self]
    intro x _
    simp only [this x, Bool.not_false]
  rw [hfil, List.length_range]

/-- the same, where no operation turns a box -/
inductive ParP (P : Program) (n : Nat) (o : Oper) (B : Bx) (env : Env) (K : T → Prop) : Prop
  | mk (t : T) (h : OpP P o env B t) (hd : dstOk n o = true) (k : K t)
def parPure (P : Program) (n : Nat) (all : List Oper) (B : Bx) : List Oper → Env → (Env → Prop) → Prop
  | [], env, K => K env
  | o :: os, env, K => guardT all env o (ParP P n o B env fun t => parPure P n all B os (putE env o.dst t) K)
      (dstOk n o = true ∧ parPure P n all B os (putE env o.dst undefT) K)
theorem par_trace_pure (all : List Oper) (B : Bx) (K : Env → Prop) : ∀ (l : List Oper) (env : Env), parPure P n all B l env K →
    ∃ (t : Nat → T), (∀ i o, l[i]? = some o → OSpec P n all B o (envA l t (fun _ => true) env i) B (t i) B false) ∧ K (envA l t (fun _ => true) env l.length)
  | [], env, h => ⟨fun _ => undefT, fun i o ho => by simp at ho, h⟩
  | o :: os, env, h => by
    have step : ∃ (t0 : T), OSpec P n all B o env B t0 B false ∧ parPure P n all B os (putE env o.dst t0) K := by
      rcases guardT_true h with ⟨hg, hx⟩ | ⟨hg, hd, hx⟩
      · cases hx with
        | mk t hop hd k => exact ⟨t, ⟨hd, .inl ⟨hg, .inl ⟨rfl, hop, rfl⟩⟩⟩, k⟩
      · exact ⟨undefT, ⟨hd, .inr ⟨hg, rfl, rfl, rfl⟩⟩, hx⟩
    obtain ⟨t0, hspec, hk⟩ := step
    obtain ⟨t, hs, hK⟩ := par_trace_pure all B K os _ hk
    refine ⟨fun i => match i with | 0 => t0 | i + 1 => t i, ?_, ?_⟩
    · intro i o' ho
      cases i with
      | zero => simp at ho; subst ho; exact hspec
      | succ i =>
        rw [envA_cons]
        exact hs i o' (by simpa using ho)
    · rw [List.length_cons, envA_cons]; exact hK

theorem AWP.region_pure {id : Nat} {l : List Oper} (hm : P.follows .mixedOrders = true) (hlex : Region.lexB .any l.toArray = true)
    (h : ∀ K : AS → Prop, (∀ σ', Q .normal σ' → K σ') → parPure P n l σ.B l σ.env (fun env => K ⟨env, σ.B⟩)) : AWP P n (.region id l.toArray true) σ Q := by
  intro κ M0 a w hs
  obtain ⟨hback, hpairs, _⟩ := lex_pairs hlex
  obtain ⟨t, hsp, hK⟩ := par_trace_pure l σ.B _ l σ.env (h (fun σ' => Q .normal σ') (fun _ k => k))
  refine wp_region_any hm ?_
  have hsz : l.toArray.size = l.length := by simp
  rw [hsz]
  refine par_sound (b := fun _ => σ.B) (e := fun _ => false) hback hpairs (fun _ _ i j _ _ hei => by cases hei) hsp (fun _ _ x hx => hx) (fun a w s => ⟨_, s, hK⟩) l.length _ a _ ?_ (mid_start rfl hs)
  have : ∀ j, (Array.replicate l.length false).getD j false = false := fun j => rep_getD _ j
  have hfil : (List.range l.length).filter (fun i => !(Array.replicate l.length false).getD i false) = List.range l.length := by
    rw [List.filter_eq_self]
    intro x _
    simp only [this x, Bool.not_false]
  rw [hfil, List.length_range]

end Go.Sx
