/- A part of the proof: lemmas about the walk of the program and about plain integers and lists. No conditions beyond those that each lemma states. -/
import Derived.Test.YtjpkddhpkohiaaaSxCore
import Derived.Still
import Derived.Deep.LoopGhost
/-! Rules of the walk over abstract states. -/
set_option linter.unusedVariables false
set_option linter.unusedSimpArgs false
namespace Go.Sx
variable {P : Program} {n : Nat} {σ : AS} {Q : Exit → AS → Prop}

theorem EnvOk.nil {M : Mem} {ν : Nu} {tmps : Array Value} : EnvOk M ν tmps [] := fun d t h => by simp at h

theorem EnvOk.mono {M M' : Mem} {ν : Nu} {tmps : Array Value} {env : Env} (h : EnvOk M ν tmps env) (hm : M.le M') : EnvOk M' ν tmps env :=
  fun d t e => T.rep_mono hm t _ (h d t e)

/-- the slot that an operation writes -/
def AS.put (σ : AS) (dst : Option Tmp) (t : T) : AS :=
  match dst with
  | some d => { σ with env := (d, t) :: σ.env }
  | none => σ

def putE (env : Env) (dst : Option Tmp) (t : T) : Env :=
  match dst with
  | some d => (d, t) :: env
  | none => env

theorem EnvOk.put {M : Mem} {ν : Nu} {tmps : Array Value} {env : Env} (h : EnvOk M ν tmps env) {dst : Option Tmp} {v : Value} {t : T} {df : List Deferred}
    (hd : ∀ d, dst = some d → d < tmps.size) (hr : t.rep M ν v) : EnvOk M ν ((⟨tmps, df⟩ : Act).put dst v).tmps (putE env dst t) := by
  cases dst with
  | none => exact h
  | some d =>
    have hlt := hd d rfl
    intro k u hk
    simp only [putE, List.lookup_cons] at hk
    simp only [Act.put]
    by_cases hkd : k = d
    · subst hkd
      simp at hk
      subst hk
      simpa [hlt] using hr
    · have : (k == d) = false := by simpa using hkd
      rw [this] at hk
      have := h k u hk
      simpa [Array.getElem?_setIfInBounds_ne (Ne.symm hkd)] using this

theorem Act.put_size (a : Act) (dst : Option Tmp) (v : Value) : (a.put dst v).tmps.size = a.tmps.size := by
  cases dst <;> simp [Act.put]
theorem Act.put_defers' (a : Act) (dst : Option Tmp) (v : Value) : (a.put dst v).defers = a.defers := by
  cases dst <;> rfl

/-! ### conditions, blocks, loops -/

def ev0 (env : Env) : Operand → Option T
  | .tmp d => env.lookup d
  | .const (.bool b) => some (.one (.dat (.bool b)))
  | _ => none

def condT (b : Bool) (X Y : Prop) : Prop := (b = true → X) ∧ (b = false → Y)

theorem AWP.cond {c : Operand} {x y : Code} {b : Bool} (hc : ev0 σ.env c = some (.one (.dat (.bool b)))) (ht : b = true → AWP P n x σ Q) (hf : b = false → AWP P n y σ Q) :
    AWP P n (.cond c x y) σ Q := by
  intro κ M0 a w hs
  obtain ⟨M, ν, h1, h2, h3, h4, h5⟩ := id hs
  have he : a.eval c = .bool b := by
    cases c with
    | tmp d =>
      have := h4 d _ hc
      simp only [T.rep, Cell.rep, C.rep] at this
      exact this
    | const v => cases v <;> simp [ev0] at hc; subst hc; rfl
    | global g => simp [ev0] at hc
    | func f => simp [ev0] at hc
  exact wp_cond_split he (fun e => ht e κ M0 a w hs) (fun e => hf e κ M0 a w hs)

def InBlock (id : Nat) (Q : Exit → AS → Prop) : Exit → AS → Prop
  | .exit id', σ => if id' = id then Q .normal σ else Q (.exit id') σ
  | e, σ => Q e σ

theorem AWP.block {id : Nat} {c : Code} (h : AWP P n c σ (InBlock id Q)) : AWP P n (.block id c) σ Q := by
  intro κ M0 a w hs
  refine wp_block (wp_mono (h κ M0 a w hs) ?_)
  rintro e a' w' ⟨σ', s, q⟩
  cases e with
  | exit id' =>
    simp only [InBlock, Exit.inBlock] at q ⊢
    split <;> rename_i h <;> simp only [h, if_true, if_false] at q <;> exact ⟨σ', s, q⟩
  | normal => exact ⟨σ', s, q⟩
  | goto l => exact ⟨σ', s, q⟩
  | ret => exact ⟨σ', s, q⟩
  | panic ch => exact ⟨σ', s, q⟩
  | outgrown => exact ⟨σ', s, q⟩

theorem AWP.loop {c : Code} (I : Nat → AS → Prop) (k₀ : Nat) (h₀ : I k₀ σ)
    (round : ∀ (k : Nat) (σ : AS), I k σ → AWP P n c σ (Then (fun σ' => ∃ k', k' < k ∧ I k' σ') Q)) : AWP P n (.loop c) σ Q := by
  intro κ M0 a w hs
  refine wp_loop_ghost (fun k a w => ∃ σ, St κ M0 n σ a w ∧ I k σ) k₀ ⟨σ, hs, h₀⟩ ?_
  rintro k a w ⟨σ, hs, hI⟩
  refine wp_mono (round k σ hI κ M0 a w hs) ?_
  rintro e a' w' ⟨σ', s, q⟩
  cases e with
  | normal => obtain ⟨k', hk, hI'⟩ := q; exact ⟨k', hk, σ', s, hI'⟩
  | exit id' => exact ⟨σ', s, q⟩
  | goto l => exact ⟨σ', s, q⟩
  | ret => exact ⟨σ', s, q⟩
  | panic ch => exact ⟨σ', s, q⟩
  | outgrown => exact ⟨σ', s, q⟩

/-! ### names, and forgetting -/
mutual
def Cell.ren (ρ : Nat → Nat) : Cell → Cell
  | .dat c => .dat c
  | .ptr k off => .ptr (ρ k) off
  | .own k m => .own (ρ k) m
  | .rp k sz i f => .rp (ρ k) sz i f
  | .ref r => .ref r
  | .clo f caps => .clo f (Cell.rens ρ caps)
def Cell.rens (ρ : Nat → Nat) : List Cell → List Cell
  | [] => []
  | c :: cs => Cell.ren ρ c :: Cell.rens ρ cs
end
mutual
def T.ren (ρ : Nat → Nat) : T → T
  | .one c => .one (c.ren ρ)
  | .st r => .st r
  | .agg cs => .agg (Cell.rens ρ cs)
  | .tup ts => .tup (T.rens ρ ts)
  | .un => .un
def T.rens (ρ : Nat → Nat) : List T → List T
  | [] => []
  | t :: ts => T.ren ρ t :: T.rens ρ ts
end
def Res.ren (ρ : Nat → Nat) : Res → Res
  | .cells cs => .cells (Cell.rens ρ cs)
  | .row sz rows => .row sz rows

mutual
theorem Cell.rep_ren {M : Mem} {ν : Nu} {ρ : Nat → Nat} : ∀ (c : Cell) (v : Value), (c.ren ρ).rep M ν v ↔ c.rep M (fun k => ν (ρ k)) v
  | .dat c, v => by simp only [Cell.ren, Cell.rep]
  | .ptr k off, v => by simp only [Cell.ren, Cell.rep]
  | .own k m, v => by simp only [Cell.ren, Cell.rep]
  | .rp k sz i f, v => by simp only [Cell.ren, Cell.rep]
  | .ref r, v => by simp only [Cell.ren, Cell.rep]
  | .clo f caps, v => by
    simp only [Cell.ren, Cell.rep]
    constructor
    · rintro ⟨vs, e, h⟩; exact ⟨vs, e, (Cell.reps_ren caps vs).1 h⟩
    · rintro ⟨vs, e, h⟩; exact ⟨vs, e, (Cell.reps_ren caps vs).2 h⟩
theorem Cell.reps_ren {M : Mem} {ν : Nu} {ρ : Nat → Nat} : ∀ (cs : List Cell) (vs : List Value), Cell.reps M ν (Cell.rens ρ cs) vs ↔ Cell.reps M (fun k => ν (ρ k)) cs vs
  | [], vs => by simp only [Cell.rens, Cell.reps]
  | c :: cs, vs => by
    simp only [Cell.rens, Cell.reps]
    constructor
    · rintro ⟨v, vs', e, h1, h2⟩; exact ⟨v, vs', e, (Cell.rep_ren c v).1 h1, (Cell.reps_ren cs vs').1 h2⟩
    · rintro ⟨v, vs', e, h1, h2⟩; exact ⟨v, vs', e, (Cell.rep_ren c v).2 h1, (Cell.reps_ren cs vs').2 h2⟩
end
mutual
theorem T.rep_ren {M : Mem} {ν : Nu} {ρ : Nat → Nat} : ∀ (t : T) (v : Value), (t.ren ρ).rep M ν v ↔ t.rep M (fun k => ν (ρ k)) v
  | .one c, v => by simp only [T.ren, T.rep]; exact Cell.rep_ren c v
  | .st r, v => by simp only [T.ren, T.rep]
  | .agg cs, v => by
    simp only [T.ren, T.rep]
    constructor
    · rintro ⟨a, e, h⟩; exact ⟨a, e, (Cell.reps_ren cs _).1 h⟩
    · rintro ⟨a, e, h⟩; exact ⟨a, e, (Cell.reps_ren cs _).2 h⟩
  | .tup ts, v => by
    simp only [T.ren, T.rep]
    constructor
    · rintro ⟨a, e, h⟩; exact ⟨a, e, (T.reps_ren ts _).1 h⟩
    · rintro ⟨a, e, h⟩; exact ⟨a, e, (T.reps_ren ts _).2 h⟩
  | .un, v => by simp only [T.ren, T.rep]
theorem T.reps_ren {M : Mem} {ν : Nu} {ρ : Nat → Nat} : ∀ (cs : List T) (vs : List Value), T.reps M ν (T.rens ρ cs) vs ↔ T.reps M (fun k => ν (ρ k)) cs vs
  | [], vs => by simp only [T.rens, T.reps]
  | c :: cs, vs => by
    simp only [T.rens, T.reps]
    constructor
    · rintro ⟨v, vs', e, h1, h2⟩; exact ⟨v, vs', e, (T.rep_ren c v).1 h1, (T.reps_ren cs vs').1 h2⟩
    · rintro ⟨v, vs', e, h1, h2⟩; exact ⟨v, vs', e, (T.rep_ren c v).2 h1, (T.reps_ren cs vs').2 h2⟩
end

/-- σ says all that τ says, τ's names read by ρ -/
structure Weak (ρ : Nat → Nat) (σ τ : AS) : Prop where
  env : ∀ p ∈ τ.env, σ.env.lookup p.1 = some (p.2.ren ρ)
  box : ∀ p ∈ τ.B, (ρ p.1, p.2.ren ρ) ∈ σ.B
  inj : (τ.B.map fun p => ρ p.1).Nodup
  nodup : (τ.B.map (·.1)).Nodup
  pins : ∀ k, pin ≤ k → ρ k = k
  low : ∀ k, k < pin → ρ k < pin

theorem lookup_mem {env : Env} {d : Nat} {t : T} (h : env.lookup d = some t) : (d, t) ∈ env := by
  induction env with
  | nil => simp at h
  | cons p env ih =>
    obtain ⟨e, u⟩ := p
    simp only [List.lookup_cons] at h
    by_cases he : d = e
    · subst he; simp at h; subst h; simp
    · have : (d == e) = false := by simpa using he
      rw [this] at h
      exact List.mem_cons_of_mem _ (ih h)

theorem nodup_inj {α : Type} {f : α → Nat} : ∀ {l : List α}, (l.map f).Nodup → ∀ x ∈ l, ∀ y ∈ l, f x = f y → x = y
  | [], _, x, hx, _, _, _ => by cases hx
  | a :: l, h, x, hx, y, hy, e => by
    simp only [List.map_cons, List.nodup_cons, List.mem_map, not_exists, not_and] at h
    rcases List.mem_cons.1 hx with rfl | hx' <;> rcases List.mem_cons.1 hy with rfl | hy'
    · rfl
    · exact absurd e.symm (h.1 y hy')
    · exact absurd e (h.1 x hx')
    · exact nodup_inj h.2 x hx' y hy' e

theorem Sat.weak {κ : Kap} {M : Mem} {ν : Nu} {w : World} {ρ : Nat → Nat} {σ τ : AS} (h : Sat κ M ν σ.B w) (hw : Weak ρ σ τ) : Sat κ M (fun k => ν (ρ k)) τ.B w where
  os := h.os
  tape := h.tape
  output := h.output
  dr := h.dr
  size := h.size
  unch := h.unch
  fro := h.fro
  res := fun k r hm => by
    have h1 := h.res _ _ (hw.box (k, r) hm)
    cases r with
    | cells cs =>
      simp only [Res.ren, Res.ok] at h1 ⊢
      obtain ⟨b, c, et, e1, e2, e3⟩ := h1
      exact ⟨b, c, et, e1, e2, (Cell.reps_ren cs _).1 e3⟩
    | row sz rows => exact h1
  away := fun k r b hm hb => by
    have h1 := h.away _ _ b (hw.box (k, r) hm) hb
    refine ⟨h1.1, h1.2.imp id fun h2 => ⟨?_, h2.2⟩⟩
    by_cases hk : pin ≤ k
    · exact hk
    · have := hw.low k (by omega)
      have h3 := h2.1
      simp only at h3
      omega
  inj := fun k r k' r' b hm hm' hb hb' => by
    have e := h.inj _ _ _ _ b (hw.box (k, r) hm) (hw.box (k', r') hm') hb hb'
    have := nodup_inj (f := fun p : Nat × Res => ρ p.1) hw.inj (k, r) hm (k', r') hm' e
    exact congrArg Prod.fst this
  nodup := hw.nodup

theorem St.weak {κ : Kap} {M0 : Mem} {a : Act} {w : World} {ρ : Nat → Nat} {σ τ : AS} (h : St κ M0 n σ a w) (hw : Weak ρ σ τ) : St κ M0 n τ a w := by
  obtain ⟨M, ν, h1, h2, h3, h4, h5, h6⟩ := h
  refine ⟨M, fun k => ν (ρ k), h1, h2, h3, ?_, h5.weak hw, fun k hk => by show ν (ρ k) = _; rw [hw.pins k hk]; exact h6 k hk⟩
  intro d t e
  have := h4 d _ (hw.env (d, t) (lookup_mem e))
  exact (T.rep_ren t _).1 this

theorem AWP.weak {c : Code} (ρ : Nat → Nat) (τ : AS) (hw : Weak ρ σ τ) (h : AWP P n c τ Q) : AWP P n c σ Q :=
  fun κ M0 a w hs => h κ M0 a w (hs.weak hw)

theorem AWP.post_weak {c : Code} (h : AWP P n c σ (fun e τ => ∃ ρ τ', Weak ρ τ τ' ∧ Q e τ')) : AWP P n c σ Q :=
  fun κ M0 a w hs => wp_mono (h κ M0 a w hs) fun e a' w' ⟨τ, s, ρ, τ', hw, q⟩ => ⟨τ', s.weak hw, q⟩

end Go.Sx
