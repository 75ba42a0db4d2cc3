/- A part of the proof: lemmas about the walk of the program and about plain integers and lists. No conditions beyond those that each lemma states. -/
import Derived.Test.YtjpkddhpkohiaaaSxRules
/-! Regions: one after the other, and in any order. -/
set_option linter.unusedVariables false
set_option linter.unusedSimpArgs false
namespace Go.Sx
variable {P : Program} {n : Nat} {σ : AS} {Q : Exit → AS → Prop}

mutual
def Cell.fresh (k : Nat) : Cell → Bool
  | .dat _ => true
  | .ptr j _ => j != k
  | .own j _ => j != k
  | .rp j _ _ _ => j != k
  | .ref _ => true
  | .clo _ caps => Cell.freshs k caps
def Cell.freshs (k : Nat) : List Cell → Bool
  | [] => true
  | c :: cs => Cell.fresh k c && Cell.freshs k cs
end
mutual
def T.fresh (k : Nat) : T → Bool
  | .one c => c.fresh k
  | .st _ => true
  | .agg cs => Cell.freshs k cs
  | .tup ts => T.freshs k ts
  | .un => true
def T.freshs (k : Nat) : List T → Bool
  | [] => true
  | t :: ts => T.fresh k t && T.freshs k ts
end
def Env.fresh (k : Nat) : Env → Bool
  | [] => true
  | p :: env => p.2.fresh k && Env.fresh k env
def Bx.fresh (k : Nat) : Bx → Bool
  | [] => true
  | p :: B => p.1 != k && (match p.2 with | .cells cs => Cell.freshs k cs | .row _ _ => true) && Bx.fresh k B

mutual
theorem Cell.rep_fresh {M : Mem} {ν ν' : Nu} {k : Nat} (hν : ∀ j, j ≠ k → ν' j = ν j) : ∀ (c : Cell) (v : Value), c.fresh k = true → c.rep M ν v → c.rep M ν' v
  | .dat c, v, _, h => by simpa only [Cell.rep] using h
  | .ptr j off, v, hf, h => by simp only [Cell.fresh, bne_iff_ne] at hf; simp only [Cell.rep] at h ⊢; rw [hν j hf]; exact h
  | .own j m, v, hf, h => by simp only [Cell.fresh, bne_iff_ne] at hf; simp only [Cell.rep] at h ⊢; rw [hν j hf]; exact h
  | .rp j sz i f, v, hf, h => by simp only [Cell.fresh, bne_iff_ne] at hf; simp only [Cell.rep] at h ⊢; rw [hν j hf]; exact h
  | .ref r, v, _, h => by simpa only [Cell.rep] using h
  | .clo f caps, v, hf, h => by
    simp only [Cell.fresh] at hf
    simp only [Cell.rep] at h ⊢
    obtain ⟨vs, e, h⟩ := h
    exact ⟨vs, e, Cell.reps_fresh hν caps vs hf h⟩
theorem Cell.reps_fresh {M : Mem} {ν ν' : Nu} {k : Nat} (hν : ∀ j, j ≠ k → ν' j = ν j) : ∀ (cs : List Cell) (vs : List Value), Cell.freshs k cs = true → Cell.reps M ν cs vs → Cell.reps M ν' cs vs
  | [], vs, _, h => by simpa only [Cell.reps] using h
  | c :: cs, vs, hf, h => by
    simp only [Cell.freshs, Bool.and_eq_true] at hf
    simp only [Cell.reps] at h ⊢
    obtain ⟨v, vs', e, h1, h2⟩ := h
    exact ⟨v, vs', e, Cell.rep_fresh hν c v hf.1 h1, Cell.reps_fresh hν cs vs' hf.2 h2⟩
end
mutual
theorem T.rep_fresh {M : Mem} {ν ν' : Nu} {k : Nat} (hν : ∀ j, j ≠ k → ν' j = ν j) : ∀ (c : T) (v : Value), c.fresh k = true → c.rep M ν v → c.rep M ν' v
  | .one c, v, hf, h => by simp only [T.rep] at h ⊢; exact Cell.rep_fresh hν c v (by simpa only [T.fresh] using hf) h
  | .st r, v, _, h => by simpa only [T.rep] using h
  | .agg cs, v, hf, h => by
    simp only [T.rep] at h ⊢
    obtain ⟨a, e, h⟩ := h
    exact ⟨a, e, Cell.reps_fresh hν cs _ (by simpa only [T.fresh] using hf) h⟩
  | .tup ts, v, hf, h => by
    simp only [T.rep] at h ⊢
    obtain ⟨a, e, h⟩ := h
    exact ⟨a, e, T.reps_fresh hν ts _ (by simpa only [T.fresh] using hf) h⟩
  | .un, v, _, h => by simpa only [T.rep] using h
theorem T.reps_fresh {M : Mem} {ν ν' : Nu} {k : Nat} (hν : ∀ j, j ≠ k → ν' j = ν j) : ∀ (cs : List T) (vs : List Value), T.freshs k cs = true → T.reps M ν cs vs → T.reps M ν' cs vs
  | [], vs, _, h => by simpa only [T.reps] using h
  | c :: cs, vs, hf, h => by
    simp only [T.freshs, Bool.and_eq_true] at hf
    simp only [T.reps] at h ⊢
    obtain ⟨v, vs', e, h1, h2⟩ := h
    exact ⟨v, vs', e, T.rep_fresh hν c v hf.1 h1, T.reps_fresh hν cs vs' hf.2 h2⟩
end

theorem Env.fresh_spec {k : Nat} : ∀ {env : Env} {d : Nat} {t : T}, Env.fresh k env = true → (d, t) ∈ env → t.fresh k = true
  | p :: env, d, t, h, hm => by
    simp only [Env.fresh, Bool.and_eq_true] at h
    rcases List.mem_cons.1 hm with rfl | hm
    · exact h.1
    · exact Env.fresh_spec h.2 hm

theorem EnvOk.fresh {M : Mem} {ν ν' : Nu} {tmps : Array Value} {env : Env} {k : Nat} (h : EnvOk M ν tmps env) (hf : Env.fresh k env = true) (hν : ∀ j, j ≠ k → ν' j = ν j) :
    EnvOk M ν' tmps env := fun d t e => T.rep_fresh hν t _ (Env.fresh_spec hf (lookup_mem e)) (h d t e)

/-- the operands of the operation, as the environment has them -/
def EnvOn (M : Mem) (ν : Nu) (a : Act) (env : Env) (o : Oper) : Prop :=
  ∀ d t, Operand.tmp d ∈ o.op.operands → env.lookup d = some t → t.rep M ν (a.tmps.getD d undef)

theorem EnvOk.on {M : Mem} {ν : Nu} {a : Act} {env : Env} (h : EnvOk M ν a.tmps env) (o : Oper) : EnvOn M ν a env o := fun d t _ e => h d t e

/-- an operation that only reads boxes, and may freeze new blocks -/
def OpP (P : Program) (o : Oper) (env : Env) (B : Bx) (t : T) : Prop :=
  ∀ κ M ν a w B', (∀ x ∈ B, x ∈ B') → EnvOn M ν a env o → Sat κ M ν B' w →
    o.wp P a w (fun a' w' => ∃ v M', a' = a.put o.dst v ∧ M.ext κ M' ∧ t.rep M' ν v ∧ Sat κ M' ν B' w') (fun _ _ _ => False)

/-- an operation that turns boxes, their names kept -/
def OpE (P : Program) (o : Oper) (env : Env) (B : Bx) (t : T) (B' : Bx) : Prop :=
  ∀ κ M ν a w, EnvOn M ν a env o → Sat κ M ν B w →
    o.wp P a w (fun a' w' => ∃ v M', a' = a.put o.dst v ∧ M.ext κ M' ∧ t.rep M' ν v ∧ Sat κ M' ν B' w') (fun _ _ _ => False)

/-- an operation that makes the name k -/
def OpG (P : Program) (o : Oper) (env : Env) (B : Bx) (k : Nat) (t : T) (B' : Bx) : Prop :=
  ∀ κ M ν a w, EnvOn M ν a env o → Sat κ M ν B w →
    o.wp P a w (fun a' w' => ∃ v M' ν', a' = a.put o.dst v ∧ M.ext κ M' ∧ (∀ j, j ≠ k → ν' j = ν j) ∧ t.rep M' ν' v ∧ Sat κ M' ν' B' w') (fun _ _ _ => False)

theorem OpP.e {o : Oper} {env : Env} {B : Bx} {t : T} (h : OpP P o env B t) : OpE P o env B t B :=
  fun κ M ν a w he hs => h κ M ν a w B (fun _ h => h) he hs

def undefT : T := .un

def dstOk (n : Nat) (o : Oper) : Bool := match o.dst with | some d => decide (d < n) | none => true

inductive StepO (P : Program) (n : Nat) (o : Oper) (σ : AS) (K : AS → Prop) : Prop
  | pure (t : T) (h : OpP P o σ.env σ.B t) (hd : dstOk n o = true) (k : K (σ.put o.dst t))
  | eff (t : T) (B' : Bx) (h : OpE P o σ.env σ.B t B') (hd : dstOk n o = true) (k : K (AS.put ⟨σ.env, B'⟩ o.dst t))
  | gen (j : Nat) (t : T) (B' : Bx) (h : OpG P o σ.env σ.B j t B') (hj : j < pin) (hf : Env.fresh j σ.env = true) (hd : dstOk n o = true) (k : K (AS.put ⟨σ.env, B'⟩ o.dst t))

def guardT (all : List Oper) (env : Env) (o : Oper) (X Y : Prop) : Prop :=
  match o.guard with
  | none => X
  | some (j, want) => match ((all[j]?).bind (·.dst)).bind (fun d => env.lookup d) with
    | some (.one (.dat (.bool b))) => bif b == want then X else Y
    | some .un => Y
    | _ => False

theorem yielded_un {all : List Oper} {tmps : Array Value} {j d : Nat} (hd : (all[j]?).bind (·.dst) = some d) (hr : tmps.getD d undef = undef) : yielded all.toArray tmps j = none := by
  unfold yielded
  have : (all.toArray[j]?).bind (·.dst) = some d := by simpa using hd
  rw [this]
  by_cases hlt : d < tmps.size
  · have : tmps[d]? = some undef := by
      simp [hlt] at hr
      simp [hlt, hr]
    simp [this, undef]
  · simp [Nat.le_of_not_lt hlt]

def seqSem (P : Program) (n : Nat) (all : List Oper) : List Oper → AS → (AS → Prop) → Prop
  | [], σ, K => K σ
  | o :: os, σ, K => guardT all σ.env o (StepO P n o σ fun σ' => seqSem P n all os σ' K) (dstOk n o = true ∧ seqSem P n all os (σ.put o.dst undefT) K)

theorem put_St {κ : Kap} {M0 M M' : Mem} {ν : Nu} {a : Act} {w : World} {env : Env} {B : Bx} {dst : Option Tmp} {t : T} {v : Value}
    (h1 : M0.ext κ M) (h2 : a.tmps.size = n) (h3 : a.defers = []) (h4 : EnvOk M' ν a.tmps env) (hm : M.ext κ M') (hd : ∀ d, dst = some d → d < n) (hr : t.rep M' ν v) (hs : Sat κ M' ν B w) (hp : ∀ k, pin ≤ k → ν k = κ.nu k) :
    St κ M0 n (AS.put ⟨env, B⟩ dst t) (a.put dst v) w := by
  refine ⟨M', ν, h1.trans hm, by rw [Act.put_size]; exact h2, by rw [Act.put_defers']; exact h3, ?_, ?_⟩
  · have := EnvOk.put (df := a.defers) h4 (dst := dst) (fun d e => by rw [h2]; exact hd d e) hr
    cases dst <;> exact this
  · cases dst <;> exact ⟨hs, hp⟩

theorem dstOk_spec {o : Oper} (h : dstOk n o = true) : ∀ d, o.dst = some d → d < n := by
  intro d e
  simpa [dstOk, e] using h

theorem guard_some {all : List Oper} {env : Env} {o : Oper} {X Y : Prop} {M : Mem} {ν : Nu} {tmps : Array Value} (he : EnvOk M ν tmps env) (h : guardT all env o X Y) :
    (Region.wanted o (yielded all.toArray tmps) = true ∧ X) ∨ (Region.wanted o (yielded all.toArray tmps) = false ∧ Y) := by
  unfold guardT at h
  split at h
  · rename_i hg
    exact .inl ⟨by simp [Region.wanted, hg], h⟩
  · rename_i j want hg
    split at h
    · rename_i b hb
      obtain ⟨d, hd, hl⟩ := Option.bind_eq_some_iff.1 hb
      have hr := he d _ hl
      simp only [T.rep, Cell.rep, C.rep] at hr
      have hy : yielded all.toArray tmps j = some b := by
        unfold yielded
        have : (all.toArray[j]?).bind (·.dst) = some d := by simpa using hd
        rw [this]
        by_cases hlt : d < tmps.size
        · have : tmps[d]? = some (.bool b) := by
            simp [hlt] at hr
            simp [hlt, hr]
          simp [this]
        · simp [Nat.le_of_not_lt hlt] at hr
          simp [undef] at hr
      by_cases hbw : b = want
      · subst hbw
        simp only [beq_self_eq_true, cond_true] at h
        exact .inl ⟨by simp [Region.wanted, hg, hy], h⟩
      · have : (b == want) = false := by simpa using hbw
        rw [this] at h
        exact .inr ⟨by simp [Region.wanted, hg, hy, hbw], h⟩
    · rename_i hb
      obtain ⟨d, hd, hl⟩ := Option.bind_eq_some_iff.1 hb
      have hr := he d _ hl
      simp only [T.rep] at hr
      exact .inr ⟨by simp [Region.wanted, hg, yielded_un hd hr], h⟩
    · exact h.elim

theorem Oper.wp_mono_Q {o : Oper} {a : Act} {w : World} {K : Act → World → Prop} {Q' : Exit → Act → World → Prop} (h : o.wp P a w K (fun _ _ _ => False)) : o.wp P a w K Q' := by
  unfold Oper.wp at *
  generalize (execOp a.eval o).run P w = r at *
  cases r with
  | ok x w' =>
    cases x <;> simp only [Oper.upon] at h ⊢ <;> try exact h
    refine Calls.mono h fun e w'' he => ?_
    cases e with
    | returned v => exact he
    | panicked c => exact he.elim
    | outgrown => obtain ⟨_, _, hf⟩ := he; exact hf.elim
  | halt x w' => cases x <;> simp only [Oper.upon] at h ⊢ <;> exact h.elim

theorem seq_sound {κ : Kap} {M0 : Mem} {K : AS → Prop} {Q' : Exit → Act → World → Prop} (all : List Oper) (hQ : ∀ a w σ', St κ M0 n σ' a w → K σ' → Q' .normal a w) :
    ∀ (l : List Oper) (σ : AS) (a : Act) (w : World), seqSem P n all l σ K → St κ M0 n σ a w → wpList P all.toArray Q' l a w
  | [], σ, a, w, h, hs => hQ a w σ hs h
  | o :: os, σ, a, w, h, hs => by
    obtain ⟨M, ν, h1, h2, h3, h4, h5, h6⟩ := id hs
    unfold wpList
    rcases guard_some h4 h with ⟨hw, hx⟩ | ⟨hw, hd, hx⟩
    · rw [if_pos hw]
      left
      cases hx with
      | pure t hop hd k =>
        refine Oper.wp_mono_Q (Oper.wp_mono ?_ (hop κ M ν a w σ.B (fun _ h => h) (h4.on o) h5))
        rintro a' w' ⟨v, M', rfl, hle, hr, hsat⟩
        exact seq_sound all hQ os _ _ w' k (put_St h1 h2 h3 (h4.mono hle.1) hle (dstOk_spec hd) hr hsat h6)
      | eff t B' hop hd k =>
        refine Oper.wp_mono_Q (Oper.wp_mono ?_ (hop κ M ν a w (h4.on o) h5))
        rintro a' w' ⟨v, M', rfl, hle, hr, hsat⟩
        exact seq_sound all hQ os _ _ w' k (put_St h1 h2 h3 (h4.mono hle.1) hle (dstOk_spec hd) hr hsat h6)
      | gen j t B' hop hj hf hd k =>
        refine Oper.wp_mono_Q (Oper.wp_mono ?_ (hop κ M ν a w (h4.on o) h5))
        rintro a' w' ⟨v, M', ν', rfl, hle, hν, hr, hsat⟩
        exact seq_sound all hQ os _ _ w' k (put_St h1 h2 h3 ((h4.fresh hf hν).mono hle.1) hle (dstOk_spec hd) hr hsat (fun i hi => by rw [hν i (by omega)]; exact h6 i hi))
    · rw [hw]
      have := put_St (t := undefT) (v := undef) (dst := o.dst) h1 h2 h3 h4 (Mem.ext.refl κ M) (dstOk_spec hd) (by simp [undefT, T.rep, Cell.rep, C.rep]) h5 h6
      exact seq_sound all hQ os _ _ w hx this

theorem AWP.region_seq {id : Nat} {ops : List Oper} (h : ∀ K : AS → Prop, (∀ σ', Q .normal σ' → K σ') → seqSem P n ops ops σ K) : AWP P n (.region id ops.toArray false) σ Q := by
  intro κ M0 a w hs
  refine wp_region_lit ?_
  exact seq_sound ops (fun a w σ' s k => ⟨σ', s, k⟩) ops σ a w (h _ fun _ k => k) hs

end Go.Sx
