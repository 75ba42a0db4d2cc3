/- A part of the proof: lemmas about the walk of the program and about plain integers and lists. No conditions beyond those that each lemma states. -/
import Derived.Test.YtjpkddhpkohiaaaSxGhost
/-! Loops whose states are told by data: the state that a round leaves is read as the next one: slots forgotten, boxes let go of, names changed, in one step. -/
set_option linter.unusedVariables false
namespace Go.Sx
variable {P : Program} {n : Nat} {Q : Exit → AS → Prop}

/-- the names that change: (theirs, ours) -/
def rn : List (Nat × Nat) → Nat → Nat
  | [], i => i
  | p :: l, i => bif i == p.1 then p.2 else rn l i
def rnLow : List (Nat × Nat) → Bool
  | [] => true
  | p :: l => Nat.blt p.1 pin && (Nat.blt p.2 pin && rnLow l)
theorem rn_pin : ∀ {l : List (Nat × Nat)}, rnLow l = true → ∀ k, pin ≤ k → rn l k = k
  | [], _, k, _ => rfl
  | p :: l, h, k, hk => by
    simp only [rnLow, Bool.and_eq_true] at h
    have h1 : p.1 < pin := by simpa using h.1
    unfold rn
    have : (k == p.1) = false := by simp; omega
    rw [this]; exact rn_pin h.2.2 k hk
theorem rn_low : ∀ {l : List (Nat × Nat)}, rnLow l = true → ∀ k, k < pin → rn l k < pin
  | [], _, k, hk => hk
  | p :: l, h, k, hk => by
    simp only [rnLow, Bool.and_eq_true] at h
    have h2 : p.2 < pin := by simpa using h.2.1
    unfold rn
    cases (k == p.1)
    · exact rn_low h.2.2 k hk
    · exact h2

def wkE (l : List (Nat × Nat)) (env : Env) : Env → Prop
  | [] => True
  | p :: τ => env.lookup p.1 = some (p.2.ren (rn l)) ∧ wkE l env τ
def wkB (l : List (Nat × Nat)) (B : Bx) : Bx → Prop
  | [] => True
  | p :: τ => B.lookup (rn l p.1) = some (p.2.ren (rn l)) ∧ wkB l B τ
theorem wkE_spec {l : List (Nat × Nat)} {env : Env} : ∀ {τ : Env}, wkE l env τ → ∀ p ∈ τ, env.lookup p.1 = some (p.2.ren (rn l))
  | q :: τ, h, p, hm => by
    rcases List.mem_cons.1 hm with rfl | hm
    · exact h.1
    · exact wkE_spec h.2 p hm
theorem wkB_spec {l : List (Nat × Nat)} {B : Bx} : ∀ {τ : Bx}, wkB l B τ → ∀ p ∈ τ, (rn l p.1, p.2.ren (rn l)) ∈ B
  | q :: τ, h, p, hm => by
    rcases List.mem_cons.1 hm with rfl | hm
    · exact lookup_box h.1
    · exact wkB_spec h.2 p hm

theorem Gh.to {env : Env} {B : Bx} (l : List (Nat × Nat)) {τ : AS} (h1 : wkE l env τ.env) (h2 : wkB l B τ.B) (h3 : noDup (τ.B.map fun p => rn l p.1) = true) (h4 : noDup (τ.B.map (·.1)) = true) (h5 : rnLow l = true) : Gh n ⟨env, B⟩ τ := by
  intro κ M0 a w s
  exact s.weak (ρ := rn l) ⟨wkE_spec h1, wkB_spec h2, noDup_spec h3, noDup_spec h4, rn_pin h5, rn_low h5⟩

/-- a loop whose states are told by data -/
theorem AWP.loopS {c : Code} {σ : AS} {X : Type} (env : X → Env) (box : X → Bx) (ok : X → Prop) (meas : X → Nat) (x₀ : X) (hs : Gh n σ ⟨env x₀, box x₀⟩) (h₀ : ok x₀)
    (round : ∀ x, ok x → AWP P n c ⟨env x, box x⟩ (Then (fun σ' => ∃ x', meas x' < meas x ∧ ok x' ∧ Gh n σ' ⟨env x', box x'⟩) Q)) : AWP P n (.loop c) σ Q := by
  refine AWP.gh hs ?_
  refine AWP.loop (fun k σ => ∃ x, σ = ⟨env x, box x⟩ ∧ ok x ∧ meas x = k) (meas x₀) ⟨x₀, rfl, h₀, rfl⟩ ?_
  rintro k _ ⟨x, rfl, hx, rfl⟩ κ M0 a w s
  refine wp_mono (round x hx κ M0 a w s) ?_
  rintro e a' w' ⟨σ', s', q⟩
  cases e with
  | normal => obtain ⟨x', h1, h2, h3⟩ := q; exact ⟨_, h3 κ M0 a' w' s', meas x', h1, x', rfl, h2, rfl⟩
  | exit id => exact ⟨σ', s', q⟩
  | goto l => exact ⟨σ', s', q⟩
  | ret => exact ⟨σ', s', q⟩
  | panic ch => exact ⟨σ', s', q⟩
  | outgrown => exact ⟨σ', s', q⟩

theorem PCBk.mk {f : FuncId} {args0 : List T} {res0 res0' : Res} {r0 : T} (k : Nat) (h : PCB P f args0 [(pin, res0)] r0 [(pin, res0')]) :
    PCBk P f (T.rens (fun _ => k) args0) k (res0.ren fun _ => k) (r0.ren fun _ => k) (res0'.ren fun _ => k) := ⟨_, _, _, _, h, rfl, rfl, rfl, rfl⟩
/-- the contract of a sort, under the caller's name for the row -/
theorem PCBk.sorts {f : FuncId} {g : FuncId} {sz : Nat} {rows rows' : List (List C)} {m : Nat} (k : Nat) (h : PCB P f [.one (.own pin m), .one (.dat (.fn g))] [(pin, .row sz rows)] (.tup []) [(pin, .row sz rows')]) :
    PCBk P f [.one (.own k m), .one (.dat (.fn g))] k (.row sz rows) (.tup []) (.row sz rows') := PCBk.mk k h
/-- at the end a step of the proof's own may be taken (freezing) -/
def GhQ (n : Nat) (Q : Exit → AS → Prop) (e : Exit) (σ : AS) : Prop := ∃ τ, Gh n σ τ ∧ Q e τ
theorem AWP.ghQ {c : Code} {σ : AS} (h : AWP P n c σ (GhQ n Q)) : AWP P n c σ Q := by
  intro κ M0 a w s
  refine wp_mono (h κ M0 a w s) ?_
  rintro e a' w' ⟨σ', s', τ, g, q⟩
  exact ⟨τ, g κ M0 a' w' s', q⟩
theorem fin0 {A : Prop} {B : Bx} (h : A) : A ∧ ∀ x ∈ ([] : Bx), x ∈ B := ⟨h, fun _ h => by cases h⟩
theorem wrap_succ {k m : Nat} (h : k < m) (hm : m ≤ 9223372036854775807) : IntKind.i64.wrap ((k : Int) + 1) = ((k + 1 : Nat) : Int) := by rw [w64 (by omega)]; rfl
/-- the loop's test, the element at it -/
theorem at_lt {α : Type} {enc : α → List C} {l : List α} {k : Nat} (h : k < l.length) : ∃ d, l[k]? = some d ∧ (l.map enc)[k]? = some (enc d) ∧ decide ((k : Int) < (l.length : Int)) = true ∧ l.drop k = d :: l.drop (k + 1) :=
  ⟨l[k], by simp [h], by simp [h], by simpa using h, List.drop_eq_getElem_cons h⟩
theorem at_ge {α : Type} {l : List α} {k : Nat} (h : ¬ k < l.length) : decide ((k : Int) < (l.length : Int)) = false ∧ l.drop k = [] := ⟨by simpa using h, List.drop_eq_nil_of_le (by omega)⟩
@[go_sem] theorem frOks_map (k n : Nat) : ∀ r : List C, Cell.frOks k n (r.map .dat) = True
  | [] => by simp [Cell.frOks]
  | c :: r => by simp only [List.map_cons, Cell.frOks, Cell.frOk, frOks_map k n r, and_true]
@[go_sem] theorem frs_map (k sz : Nat) (rows : List (List C)) : ∀ r : List C, Cell.frs k sz rows (r.map .dat) = r.map .dat
  | [] => rfl
  | c :: r => by simp only [List.map_cons, Cell.frs, Cell.fr, frs_map k sz rows r]
@[go_sem] theorem rens_map (ρ : Nat → Nat) : ∀ r : List C, Cell.rens ρ (r.map .dat) = r.map .dat
  | [] => rfl
  | c :: r => by simp only [List.map_cons, Cell.rens, Cell.ren, rens_map ρ r]
attribute [go_sem] rn rnLow wkE wkB
end Go.Sx
