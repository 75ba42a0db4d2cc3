/- Lemmas; conditions: as each states. -/
import Derived.Test.YtajfdbdklphonaaGreatDm10
namespace Go.Sx
theorem cF {α : Type} (a b : α) : cond false a b = b := rfl
theorem cT {α : Type} (a b : α) : cond true a b = a := rfl
theorem dF (h : Decidable False) : @decide False h = false := decide_false h
theorem dT (h : Decidable True) : @decide True h = true := decide_true h
theorem st {P Q : Prop} (h : Q) (k : Q → P := by intro q; simp only [go_sem, D, E, H, J, N, O, U, reduceCtorEq, V, W, Y, Z, zL]; exact q) : P := k h
theorem Gh.ts {n : Nat} {env : Env} {B : Bx} (l : List (Nat × Nat)) {τ : AS}
    (h1 : wkE l env τ.env := by (repeat (first | exact trivial | refine ⟨rfl, ?_⟩ | refine ⟨by (simp only [go_sem, D, E, H, J, N, O, U, reduceCtorEq, V, W, Y, Z, zL, List.length_append, List.length_map, List.length_cons, List.length_nil, Nat.zero_add]) <;> rfl, ?_⟩)))
    (h2 : wkB l B τ.B := by (repeat (first | exact trivial | refine ⟨rfl, ?_⟩ | refine ⟨by (simp only [go_sem, D, E, H, J, N, O, U, reduceCtorEq, V, W, Y, Z, zL, List.length_append, List.length_map, List.length_cons, List.length_nil, Nat.zero_add]) <;> rfl, ?_⟩)))
    (h3 : noDup (τ.B.map fun p => rn l p.1) = true := by rfl) (h4 : noDup (τ.B.map (·.1)) = true := by rfl) (h5 : rnLow l = true := by rfl) : Gh n ⟨env, B⟩ τ := Gh.to l h1 h2 h3 h4 h5
theorem Gh.fs {n : Nat} {env : Env} {B : Bx} (k : Nat) {sz : Nat} {rows : List (List C)} (hb : B.lookup k = some (.row sz rows) := by rfl) (hlow : lowN k = true := by rfl)
    (hE : Env.frOk k rows.length env := by simp only [go_sem, D, E, H, J, N, O, U, reduceCtorEq, V, W, Y, Z, zL, List.length_map]) (hB : Bx.frOk k rows.length B := by simp only [go_sem, D, E, H, J, N, O, U, reduceCtorEq, V, W, Y, Z, zL, List.length_map]) :
    Gh n ⟨env, B⟩ ⟨frE k sz rows env, frB k sz rows (Bx.drop k B)⟩ := Gh.freeze k hb hlow hE hB
end Go.Sx
