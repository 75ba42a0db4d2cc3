/- A part of the proof: lemmas about the walk of the program and about plain integers and lists. No conditions beyond those that each lemma states. -/
import Derived.Test.YtjpkddhpkohiaaaSxEnc
/-! Loops and forgetting. -/
set_option linter.unusedVariables false
namespace Go.Sx
variable {P : Program} {n : Nat} {Q : Exit → AS → Prop}

/-- every entry of the second environment stands in the first -/
def envSub (env : Env) : Env → Prop
  | [] => True
  | p :: τ => env.lookup p.1 = some p.2 ∧ envSub env τ

mutual
theorem Cell.ren_id : ∀ c : Cell, c.ren id = c
  | .dat c => rfl
  | .ptr k o => rfl
  | .own k m => rfl
  | .rp k sz i f => rfl
  | .ref r => rfl
  | .clo f caps => by simp only [Cell.ren, Cell.rens_id caps]
theorem Cell.rens_id : ∀ cs : List Cell, Cell.rens id cs = cs
  | [] => rfl
  | c :: cs => by simp only [Cell.rens, Cell.ren_id c, Cell.rens_id cs]
end
mutual
theorem T.ren_id : ∀ t : T, t.ren id = t
  | .one c => by simp only [T.ren, Cell.ren_id c]
  | .st r => rfl
  | .agg cs => by simp only [T.ren, Cell.rens_id cs]
  | .tup ts => by simp only [T.ren, T.rens_id ts]
  | .un => rfl
theorem T.rens_id : ∀ ts : List T, T.rens id ts = ts
  | [] => rfl
  | t :: ts => by simp only [T.rens, T.ren_id t, T.rens_id ts]
end
theorem Res.ren_id (r : Res) : r.ren id = r := by cases r <;> simp only [Res.ren, Cell.rens_id]

theorem envSub_spec {env : Env} : ∀ {τ : Env}, envSub env τ → ∀ p ∈ τ, env.lookup p.1 = some p.2
  | q :: τ, h, p, hm => by
    rcases List.mem_cons.1 hm with rfl | hm
    · exact h.1
    · exact envSub_spec h.2 p hm

theorem St.forget {κ : Kap} {M0 : Mem} {a : Act} {w : World} {env τ : Env} {B : Bx} (h : St κ M0 n ⟨env, B⟩ a w) (hs : envSub env τ) : St κ M0 n ⟨τ, B⟩ a w := by
  obtain ⟨M, ν, h1, h2, h3, h4, h5, h6⟩ := h
  exact ⟨M, ν, h1, h2, h3, fun d t e => h4 d t (envSub_spec hs (d, t) (lookup_mem e)), h5, h6⟩

theorem AWP.forget {c : Code} {env : Env} {B : Bx} (τ : Env) (hs : envSub env τ) (h : AWP P n c ⟨τ, B⟩ Q) : AWP P n c ⟨env, B⟩ Q :=
  fun κ M0 a w s => h κ M0 a w (s.forget hs)

/-- a loop whose boxes stay: the relation speaks of a number that every round lowers, and of an environment -/
theorem AWP.loopE {c : Code} {env : Env} {B : Bx} (I : Nat → Env → Bx → Prop) (k₀ : Nat) (τ : Env) (hs : envSub env τ) (h₀ : I k₀ τ B)
    (round : ∀ (k : Nat) (e : Env) (b : Bx), I k e b → AWP P n c ⟨e, b⟩ (Then (fun σ' => ∃ k' τ', k' < k ∧ envSub σ'.env τ' ∧ I k' τ' σ'.B) Q)) : AWP P n (.loop c) ⟨env, B⟩ Q := by
  refine AWP.forget τ hs ?_
  refine AWP.loop (fun k σ => I k σ.env σ.B) k₀ h₀ ?_
  intro k σ hI
  intro κ M0 a w s
  refine wp_mono (round k σ.env σ.B hI κ M0 a w s) ?_
  rintro e a' w' ⟨σ', s', q⟩
  cases e with
  | normal => obtain ⟨k', τ', h1, h2, h3⟩ := q; exact ⟨⟨τ', σ'.B⟩, s'.forget h2, k', h1, h3⟩
  | exit id => exact ⟨σ', s', q⟩
  | goto l => exact ⟨σ', s', q⟩
  | ret => exact ⟨σ', s', q⟩
  | panic ch => exact ⟨σ', s', q⟩
  | outgrown => exact ⟨σ', s', q⟩

theorem w64 {n : Int} (h : -9223372036854775808 ≤ n ∧ n ≤ 9223372036854775807) : IntKind.i64.wrap n = n := IntWalk.i64_in n h

/-- the state says that a slice is no longer than an int can tell -/
theorem AWP.len {c : Code} {env : Env} {B : Bx} (d : Nat) {sz : Nat} {rows : List (List C)} (hd : env.lookup d = some (.one (.dat (.sl sz rows)))) (h : rows.length ≤ 9223372036854775807 → AWP P n c ⟨env, B⟩ Q) : AWP P n c ⟨env, B⟩ Q := by
  intro κ M0 a w s
  refine h ?_ κ M0 a w s
  obtain ⟨M, ν, _, _, _, h4, _⟩ := s
  have := h4 d _ hd
  simp only [T.rep, Cell.rep, C.rep] at this
  obtain ⟨_, cap, _, _, h1, h2, _⟩ := this
  unfold maxLen at h2
  omega
attribute [go_sem] envSub

/-- of the environment only these are kept -/
def keepL (env : Env) : List Nat → Env
  | [] => []
  | d :: ds => match env.lookup d with
    | some t => (d, t) :: keepL env ds
    | none => keepL env ds
theorem keepL_lookup (env : Env) (d : Nat) (t : T) : ∀ ds, (keepL env ds).lookup d = some t → env.lookup d = some t
  | [], h => by simp [keepL] at h
  | e :: ds, h => by
    unfold keepL at h
    split at h
    · rename_i u hu
      rw [List.lookup_cons] at h
      split at h
      · rename_i hb
        have : d = e := by simpa using hb
        subst this
        cases h; exact hu
      · exact keepL_lookup env d t ds h
    · exact keepL_lookup env d t ds h
theorem AWP.keep {c : Code} {env : Env} {B : Bx} (ds : List Nat) (h : AWP P n c ⟨keepL env ds, B⟩ Q) : AWP P n c ⟨env, B⟩ Q := by
  intro κ M0 a w s
  refine h κ M0 a w ?_
  obtain ⟨M, ν, h1, h2, h3, h4, h5, h6⟩ := s
  exact ⟨M, ν, h1, h2, h3, fun d t e => h4 d t (keepL_lookup env d t ds e), h5, h6⟩
attribute [go_sem] keepL
end Go.Sx
