/- A part of the proof: lemmas about the walk of the program and about plain integers and lists. No conditions beyond those that each lemma states. -/
import Derived.Test.YtmpfdejckbceiaaOp5
import Derived.Laws.StructEq
/-! Equality of structs of plain cells. -/
set_option linter.unusedVariables false
set_option linter.unusedSimpArgs false
namespace Go.Sx
variable {P : Program}

def eqFs (P : Program) (E : TypeId → List C → List C → Option Bool) : Nat → List Field → List C → List C → Option Bool
  | _, [], [], [] => some true
  | _, [], _, _ => none
  | off, f :: fs, r, s => match szT P f.type, aggT P f.type with
    | some n, some _ => match cutC n r, cutC n s with
      | some (r1, r2), some (s1, s2) => bif f.offset == off && f.name != "_" then (match E f.type r1 s1, eqFs P E (off + n) fs r2 s2 with
        | some x, some y => some (x && y)
        | _, _ => none) else none
      | _, _ => none
    | _, _ => none

def eqStT (P : Program) : Nat → TypeId → List C → List C → Option Bool
  | 0, _, _, _ => none
  | d + 1, t, r, s => match P.underlying t with
    | some (.int _) => match r, s with
      | [.int k a], [.int k' b] => if k = k' then some (decide (a = b)) else none
      | _, _ => none
    | some .bool => match r, s with
      | [.bool a], [.bool b] => some (a == b)
      | _, _ => none
    | some .string => match r, s with
      | [.str a], [.str b] => some (decide (a = b))
      | _, _ => none
    | some (.struct fs) => bif P.stoodInHeld t then none else eqFs P (eqStT P d) 0 fs.toList r s
    | _ => none

def shapeOf (P : Program) (t : TypeId) (vs : List Value) (x : Value) : Prop :=
  (aggT P t = some true ∧ x = .agg vs.toArray) ∨ (aggT P t = some false ∧ vs = [x])

theorem part_run {t n : Nat} {b : Bool} (hn : szT P t = some n) (ha : aggT P t = some b) {xs : Array Value} {pre v1 v2 : List Value} (hx : xs.toList = pre ++ (v1 ++ v2)) (h1 : v1.length = n) (hone : b = false → n = 1) (w : World) :
    ∃ x, (part t xs pre.length).run P w = .ok x w ∧ shapeOf P t v1 x := by
  have hsz := run_sz (P := P) hn w
  have hag := run_agg (P := P) ha w
  cases b with
  | true =>
    refine ⟨.agg v1.toArray, ?_, .inl ⟨ha, rfl⟩⟩
    unfold part
    simp only [Sem.run_bind, hag, Result.andThen_ok, if_true, hsz, Sem.run_pure]
    congr 2
    apply Array.toList_inj.1
    simp [Array.toList_extract, hx, List.extract, h1]
  | false =>
    have := hone rfl
    subst this
    match v1, h1 with
    | [v], _ =>
      refine ⟨v, ?_, .inr ⟨ha, rfl⟩⟩
      unfold part
      have hc : xs[pre.length]? = some v := by
        rw [← Array.getElem?_toList, hx, List.getElem?_append_right (Nat.le_refl _)]; simp
      simp only [Sem.run_bind, hag, Result.andThen_ok, Bool.false_eq_true, if_false, hc, Sem.run_pure]

theorem aggT_of {t : Nat} {d : TypeDesc} (h : P.underlying t = some d) : aggT P t = some (isAggD d) := by simp [aggT, h]

theorem eqStT_one {d t : Nat} {r s : List C} {b : Bool} (h : eqStT P d t r s = some b) (ha : aggT P t = some false) : r.length = 1 := by
  cases d with
  | zero => cases h
  | succ d =>
    unfold eqStT at h
    split at h
    · split at h
      · rfl
      · cases h
    · split at h
      · rfl
      · cases h
    · split at h
      · rfl
      · cases h
    · rename_i fs hu
      rw [aggT_of hu] at ha; cases ha
    · cases h

theorem eqStT_run : ∀ (d D t : Nat) (r s : List C) (b : Bool), d ≤ D → eqStT P d t r s = some b → ∀ (M M' : Mem) (vs us : List Value) (x y : Value), repRow M r vs → repRow M' s us → shapeOf P t vs x → shapeOf P t us y → ∀ w : World, (Op.equalIn D t x y).run P w = .ok b w
  | 0, _, _, _, _, _, _, h => by cases h
  | d + 1, 0, _, _, _, _, hd, h => by omega
  | d + 1, D + 1, t, r, s, b, hd, h => by
    intro M M' vs us x y hr hs hx hy w
    unfold eqStT at h
    split at h
    · rename_i k0 hu
      split at h
      · rename_i k a k' b'
        by_cases hk : k = k'
        · subst hk
          rw [if_pos rfl] at h
          simp only [Option.some.injEq] at h
          subst h
          simp only [repRow, C.rep] at hr hs
          obtain ⟨v, vs', e, e1, e2⟩ := hr
          obtain ⟨v', vs'', f, f1, f2⟩ := hs
          subst e2 f2 e f e1 f1
          rcases hx with ⟨hx, _⟩ | ⟨_, hx⟩
          · rw [aggT_of hu] at hx; cases hx
          rcases hy with ⟨hy, _⟩ | ⟨_, hy⟩
          · rw [aggT_of hu] at hy; cases hy
          simp only [List.cons.injEq, and_true] at hx hy
          subst hx hy
          simp only [Op.equalIn, Sem.run_bind, run_underlying hu, Result.andThen_ok, if_true, Sem.run_pure]
          rfl
        · rw [if_neg hk] at h; cases h
      · cases h
    · rename_i hu
      split at h
      · rename_i a b'
        simp only [Option.some.injEq] at h
        subst h
        simp only [repRow, C.rep] at hr hs
        obtain ⟨v, vs', e, e1, e2⟩ := hr
        obtain ⟨v', vs'', f, f1, f2⟩ := hs
        subst e2 f2 e f e1 f1
        rcases hx with ⟨hx, _⟩ | ⟨_, hx⟩
        · rw [aggT_of hu] at hx; cases hx
        rcases hy with ⟨hy, _⟩ | ⟨_, hy⟩
        · rw [aggT_of hu] at hy; cases hy
        simp only [List.cons.injEq, and_true] at hx hy
        subst hx hy
        exact Sx.run_equalIn_bool D hu a b' w
      · cases h
    · rename_i hu
      split at h
      · rename_i a b'
        simp only [Option.some.injEq] at h
        subst h
        simp only [repRow, C.rep] at hr hs
        obtain ⟨v, vs', e, e1, e2⟩ := hr
        obtain ⟨v', vs'', f, f1, f2⟩ := hs
        subst e2 f2 e f e1 f1
        rcases hx with ⟨hx, _⟩ | ⟨_, hx⟩
        · rw [aggT_of hu] at hx; cases hx
        rcases hy with ⟨hy, _⟩ | ⟨_, hy⟩
        · rw [aggT_of hu] at hy; cases hy
        simp only [List.cons.injEq, and_true] at hx hy
        subst hx hy
        exact run_equalIn_str D hu a b' w
      · cases h
    · rename_i fs hu
      cases hst : P.stoodInHeld t with
      | true => rw [hst] at h; cases h
      | false =>
        rw [hst] at h
        simp only [cond_false] at h
        rcases hx with ⟨_, hx⟩ | ⟨hx, _⟩
        · rcases hy with ⟨_, hy⟩ | ⟨hy, _⟩
          · subst hx hy
            have hf : P.fieldsOf t = fs := by unfold Program.fieldsOf; rw [hu]
            rw [run_equalIn_struct w D t _ _ (by rw [hf]; exact hu) hst, hf]
            have key : ∀ (fs : List Field) (off : Nat) (r s : List C) (b : Bool), eqFs P (eqStT P d) off fs r s = some b → ∀ (pre pre' v1 u1 : List Value), pre.length = off → pre'.length = off → vs = pre ++ v1 → us = pre' ++ u1 → repRow M r v1 → repRow M' s u1 → ∀ w : World,
                (Op.eqFields D vs.toArray us.toArray fs).run P w = .ok b w := by
              intro fs
              induction fs with
              | nil =>
                intro off r s b h pre pre' v1 u1 _ _ _ _ _ _ w
                unfold eqFs at h
                split at h
                · simp only [Option.some.injEq] at h; subst h; rfl
                · cases h
                · rename_i heq _ _ _ _; cases heq
              | cons f fs ih =>
                intro off r s b h pre pre' v1 u1 hp hp' hv hu' hr1 hs1 w
                unfold eqFs at h
                split at h
                · rename_i n ag hn hag
                  split at h
                  · rename_i r1 r2 s1 s2 hc1 hc2
                    cases hcond : (f.offset == off && f.name != "_") with
                    | false => rw [hcond] at h; cases h
                    | true =>
                      rw [hcond] at h
                      simp only [cond_true] at h
                      simp only [Bool.and_eq_true, beq_iff_eq, bne_iff_ne] at hcond
                      split at h
                      · rename_i bx by_ hbx hby
                        simp only [Option.some.injEq] at h
                        subst h
                        obtain ⟨e1, l1⟩ := cutC_spec hc1
                        obtain ⟨e2, l2⟩ := cutC_spec hc2
                        subst e1 e2
                        obtain ⟨a1, a2, ev, ha1, ha2⟩ := repRow_split hr1
                        obtain ⟨c1, c2, eu, hc1', hc2'⟩ := repRow_split hs1
                        subst ev eu
                        have hone : ag = false → n = 1 := by
                          intro e; subst e
                          rw [← l1]; exact eqStT_one hbx hag
                        obtain ⟨x, hx, hxs⟩ := part_run (P := P) hn hag (xs := vs.toArray) (pre := pre) (v1 := a1) (v2 := a2) (by simpa using hv) (by rw [repRow_length ha1, l1]) hone w
                        obtain ⟨y, hy, hys⟩ := part_run (P := P) hn hag (xs := us.toArray) (pre := pre') (v1 := c1) (v2 := c2) (by simpa using hu') (by
                          rw [repRow_length hc1', l2]) hone w
                        have heq := eqStT_run d D f.type r1 s1 bx (by omega) hbx M M' a1 c1 x y ha1 hc1' hxs hys w
                        rw [hp] at hx
                        rw [hp'] at hy
                        have hrest := ih (off + n) r2 s2 by_ hby (pre ++ a1) (pre' ++ c1) a2 c2 (by rw [List.length_append, repRow_length ha1, l1, hp]) (by rw [List.length_append, repRow_length hc1', l2, hp']) (by rw [hv, List.append_assoc]) (by rw [hu', List.append_assoc]) ha2 hc2' w
                        simp only [Op.eqFields, hcond.2, ne_eq, not_false_eq_true, if_true, hcond.1, Sem.run_bind, hx, hy, heq, Result.andThen_ok, Sem.run_ite]
                        cases bx
                        · simp
                        · simpa using hrest
                      · cases h
                  · cases h
                · cases h
            exact key fs.toList 0 r s b h [] [] vs us rfl rfl rfl rfl hr hs w
          · rw [aggT_of hu] at hy; cases hy
        · rw [aggT_of hu] at hx; cases hx
    · cases h

def vBinE (P : Program) (op : BinOp) (ty : TypeId) (x y : Option T) (K : T → Prop) : Prop :=
  match x, y with
  | some (.st r), some (.st s) => match eqStT P 6 ty r s with
    | some b => P.eqGuardType P.depth ty = false ∧ aggT P ty = some true ∧ (match op with
      | .eql => K (Bo b)
      | .neq => K (Bo (!b))
      | _ => False)
    | none => False
  | x, y => vBin P op ty x y K

theorem vBinE_sound {op : BinOp} {ty : TypeId} {x y : Operand} {yt : TypeId} {env : Env} {B : Bx} {o : Oper} {K : T → Prop} (ho : o.op = .binOp op ty x y yt)
    (h : vBinE P op ty (ev P env ty x) (ev P env yt y) K) : ∃ t, OpP P o env B t ∧ K t := by
  unfold vBinE at h
  split at h
  · rename_i r s ex ey
    split at h
    · rename_i b hb
      obtain ⟨hg, hag, h⟩ := h
      have hx : x ∈ o.op.operands := by rw [ho]; simp [Op.operands]
      have hy : y ∈ o.op.operands := by rw [ho]; simp [Op.operands]
      have hrun : ∀ (a : Act) (w : World), (execOp a.eval o).run P w = ((eqGuard op ty x y (a.eval x) (a.eval y)).run P w).andThen fun _ w => ((binOp op ty (a.eval x) (a.eval y)).run P w).andThen fun v w => .ok (.value v) w := by
        intro a w
        unfold execOp
        rw [ho]
        simp only [Sem.run_bind, Sem.run_pure]
        cases (eqGuard op ty x y (a.eval x) (a.eval y)).run P w <;> rfl
      cases op <;> simp only [] at h <;> try exact h.elim
      all_goals
        refine ⟨_, OpP.of_val fun κ M ν ac w B' hB he hs => ⟨_, ?_, rep_bool.2 rfl⟩, h⟩
        have e1 := ev_rep he hx ex
        have e2 := ev_rep he hy ey
        simp only [T.rep] at e1 e2
        obtain ⟨xs, e1, hr⟩ := e1
        obtain ⟨ys, e2, hs'⟩ := e2
        have hE := eqStT_run 6 10000 ty r s b (by omega) hb M M xs.toList ys.toList (.agg xs) (.agg ys) hr hs' (.inl ⟨hag, by simp⟩) (.inl ⟨hag, by simp⟩) w
        rw [hrun, e1, e2, run_eqGuard_agg w _ ty x y xs ys hg]
        simp only [Result.andThen_ok, run_eql_struct, run_neq_struct, hE]
    · exact h.elim
  · exact vBin_sound ho h
end Go.Sx
