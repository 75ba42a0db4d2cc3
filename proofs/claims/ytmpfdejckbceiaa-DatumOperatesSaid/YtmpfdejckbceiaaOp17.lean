/- A part of the proof: lemmas about the walk of the program and about plain integers and lists. No conditions beyond those that each lemma states. -/
import Derived.Test.YtmpfdejckbceiaaOp13
/-! Steps that only the proof takes: freezing, naming, nil rows as rows; loops over such states. -/
set_option linter.unusedVariables false
set_option linter.unusedSimpArgs false
namespace Go.Sx
variable {P : Program} {n : Nat} {Q : Exit → AS → Prop}

/-- whatever meets σ meets τ -/
def Gh (n : Nat) (σ τ : AS) : Prop := ∀ κ M0 a w, St κ M0 n σ a w → St κ M0 n τ a w
theorem Gh.refl (σ : AS) : Gh n σ σ := fun _ _ _ _ h => h
theorem Gh.trans {σ τ ρ : AS} (h : Gh n σ τ) (k : Gh n τ ρ) : Gh n σ ρ := fun κ M0 a w s => k κ M0 a w (h κ M0 a w s)
theorem AWP.gh {c : Code} {σ τ : AS} (h : Gh n σ τ) (k : AWP P n c τ Q) : AWP P n c σ Q := fun κ M0 a w s => k κ M0 a w (h κ M0 a w s)
theorem Gh.forget {env τ : Env} {B : Bx} (hs : envSub env τ) : Gh n ⟨env, B⟩ ⟨τ, B⟩ := fun _ _ _ _ s => s.forget hs
theorem Gh.keep {env : Env} {B : Bx} (ds : List Nat) : Gh n ⟨env, B⟩ ⟨keepL env ds, B⟩ := by
  intro κ M0 a w s
  obtain ⟨M, ν, h1, h2, h3, h4, h5, h6⟩ := s
  exact ⟨M, ν, h1, h2, h3, fun d t e => h4 d t (keepL_lookup env d t ds e), h5, h6⟩
def noDup : List Nat → Bool
  | [] => true
  | k :: ks => ks.all (fun j => Bool.not (j == k)) && noDup ks
theorem noDup_spec : ∀ {l : List Nat}, noDup l = true → l.Nodup
  | [], _ => List.nodup_nil
  | k :: ks, h => by
    simp only [noDup, Bool.and_eq_true, List.all_eq_true] at h
    refine List.nodup_cons.2 ⟨fun hm => ?_, noDup_spec h.2⟩
    have := h.1 k hm
    simp at this
/-- boxes are let go of -/
theorem Gh.drop {env : Env} {B B' : Bx} (hs : bxSub B B') (hn : noDup (B'.map (·.1)) = true) : Gh n ⟨env, B⟩ ⟨env, B'⟩ := by
  intro κ M0 a w s
  obtain ⟨M, ν, h1, h2, h3, h4, h5, h6⟩ := s
  exact ⟨M, ν, h1, h2, h3, h4, h5.drop (bxSub_spec hs) (noDup_spec hn), h6⟩

/-! ### a new name for a box -/
def rnm (j k i : Nat) : Nat := bif i == j then k else i
def renE (j k : Nat) : Env → Env
  | [] => []
  | p :: env => (p.1, p.2.ren (rnm j k)) :: renE j k env
def renB (j k : Nat) : Bx → Bx
  | [] => []
  | p :: B => (rnm j k p.1, p.2.ren (rnm j k)) :: renB j k B

theorem renE_lookup {j k d : Nat} {t : T} : ∀ {env : Env}, (renE j k env).lookup d = some t → ∃ u, env.lookup d = some u ∧ t = u.ren (rnm j k)
  | [], h => by simp [renE] at h
  | p :: env, h => by
    obtain ⟨e, u⟩ := p
    simp only [renE, List.lookup_cons] at h ⊢
    cases hb : (d == e) with
    | true => rw [hb] at h; simp only [Option.some.injEq] at h; exact ⟨u, rfl, h.symm⟩
    | false => rw [hb] at h; exact renE_lookup h
theorem renB_mem {j k i : Nat} {r : Res} : ∀ {B : Bx}, (i, r) ∈ renB j k B → ∃ i0 r0, (i0, r0) ∈ B ∧ i = rnm j k i0 ∧ r = r0.ren (rnm j k)
  | p :: B, h => by
    simp only [renB] at h
    rcases List.mem_cons.1 h with h | h
    · cases h; exact ⟨p.1, p.2, by simp, rfl, rfl⟩
    · obtain ⟨i0, r0, hm, e1, e2⟩ := renB_mem h
      exact ⟨i0, r0, List.mem_cons_of_mem _ hm, e1, e2⟩
theorem renB_keys {j k : Nat} : ∀ {B : Bx}, (renB j k B).map (·.1) = (B.map (·.1)).map (rnm j k)
  | [] => rfl
  | p :: B => by simp only [renB, List.map_cons, renB_keys]

theorem nodup_map_inj {f : Nat → Nat} : ∀ {l : List Nat}, l.Nodup → (∀ x ∈ l, ∀ y ∈ l, f x = f y → x = y) → (l.map f).Nodup
  | [], _, _ => by simp
  | a :: l, hn, hf => by
    simp only [List.nodup_cons] at hn
    simp only [List.map_cons, List.nodup_cons]
    refine ⟨fun hm => ?_, nodup_map_inj hn.2 fun x hx y hy => hf x (List.mem_cons_of_mem _ hx) y (List.mem_cons_of_mem _ hy)⟩
    obtain ⟨x, hx, e⟩ := List.mem_map.1 hm
    have := hf x (List.mem_cons_of_mem _ hx) a (by simp) e
    subst this
    exact hn.1 hx

theorem Res.ok_ren_gen {M : Mem} {ν : Nu} {w : World} {ρ : Nat → Nat} {k : Nat} : ∀ {r : Res}, (r.ren ρ).ok M ν w (ρ k) ↔ r.ok M (fun i => ν (ρ i)) w k
  | .cells cs => by
    simp only [Res.ren, Res.ok]
    constructor
    · rintro ⟨b, c, et, h1, h2, h3⟩; exact ⟨b, c, et, h1, h2, (Cell.reps_ren cs _).1 h3⟩
    · rintro ⟨b, c, et, h1, h2, h3⟩; exact ⟨b, c, et, h1, h2, (Cell.reps_ren cs _).2 h3⟩
  | .row sz rows => by simp only [Res.ren, Res.ok]

theorem Gh.rename {env : Env} {B : Bx} (j k : Nat) (hj : lowN j = true) (hk : lowN k = true) (hf : Env.fresh k env = true) (hfB : Bx.fresh k B = true) : Gh n ⟨env, B⟩ ⟨renE j k env, renB j k B⟩ := by
  intro κ M0 a w s
  have hj := lowN_spec hj
  have hk := lowN_spec hk
  obtain ⟨M, ν, h1, h2, h3, h4, h5, h6⟩ := s
  have agree : ∀ i, i ≠ k → ν.set k (ν j) (rnm j k i) = ν i := by
    intro i hi
    unfold rnm
    cases hb : (i == j) with
    | true => have : i = j := by simpa using hb
              subst this; simp [Nu.set_self]
    | false => simp only [cond_false]; exact Nu.set_other i hi
  have keyne : ∀ i r, (i, r) ∈ B → i ≠ k := fun i r hm => (Bx.fresh_spec hfB hm).1
  refine ⟨M, ν.set k (ν j), h1, h2, h3, ?_, ⟨h5.os, h5.tape, h5.output, h5.dr, h5.size, h5.unch, h5.fro, ?_, ?_, ?_, ?_⟩, ?_⟩
  · intro d t e
    obtain ⟨u, hu, rfl⟩ := renE_lookup e
    exact (T.rep_ren u _).2 (T.rep_fresh agree u _ (Env.fresh_spec hf (lookup_mem hu)) (h4 d u hu))
  · intro i r hm
    obtain ⟨i0, r0, hm0, rfl, rfl⟩ := renB_mem hm
    exact Res.ok_ren_gen.2 (Res.ok_fresh agree (keyne i0 r0 hm0) (Bx.fresh_spec hfB hm0).2 (h5.res i0 r0 hm0))
  · intro i r b hm hb
    obtain ⟨i0, r0, hm0, rfl, rfl⟩ := renB_mem hm
    rw [agree i0 (keyne i0 r0 hm0)] at hb
    obtain ⟨g1, g2⟩ := h5.away i0 r0 b hm0 hb
    refine ⟨g1, g2.imp id fun g => ⟨?_, g.2⟩⟩
    unfold rnm
    cases hbj : (i0 == j) with
    | true => have : i0 = j := by simpa using hbj
              have := g.1; omega
    | false => exact g.1
  · intro i r i' r' b hm hm' hb hb'
    obtain ⟨i0, r0, hm0, rfl, rfl⟩ := renB_mem hm
    obtain ⟨i1, r1, hm1, rfl, rfl⟩ := renB_mem hm'
    rw [agree i0 (keyne i0 r0 hm0)] at hb
    rw [agree i1 (keyne i1 r1 hm1)] at hb'
    rw [h5.inj i0 r0 i1 r1 b hm0 hm1 hb hb']
  · rw [renB_keys]
    refine nodup_map_inj h5.nodup fun x hx y hy e => ?_
    obtain ⟨p, hp, rfl⟩ := List.mem_map.1 hx
    obtain ⟨q, hq, rfl⟩ := List.mem_map.1 hy
    have hpk := keyne p.1 p.2 hp
    have hqk := keyne q.1 q.2 hq
    unfold rnm at e
    cases hb : (p.1 == j) with
    | true =>
      cases hc : (q.1 == j) with
      | true => have h1 : p.1 = j := by simpa using hb
                have h2 : q.1 = j := by simpa using hc
                rw [h1, h2]
      | false => rw [hb, hc] at e; exact absurd e.symm hqk
    | false =>
      cases hc : (q.1 == j) with
      | true => rw [hb, hc] at e; exact absurd e hpk
      | false => rw [hb, hc] at e; exact e
  · intro i hi
    rw [Nu.set_other i (by omega)]; exact h6 i hi

/-! ### freezing -/
def frE (k sz : Nat) (rows : List (List C)) : Env → Env
  | [] => []
  | p :: env => (p.1, p.2.fr k sz rows) :: frE k sz rows env
def Env.frOk (k len : Nat) : Env → Prop
  | [] => True
  | p :: env => p.2.frOk k len ∧ Env.frOk k len env
def frB (k sz : Nat) (rows : List (List C)) : Bx → Bx
  | [] => []
  | p :: B => (match p.2 with
    | .cells cs => (p.1, .cells (Cell.frs k sz rows cs))
    | r => (p.1, r)) :: frB k sz rows B
def Bx.frOk (k len : Nat) : Bx → Prop
  | [] => True
  | p :: B => (match p.2 with
    | .cells cs => Cell.frOks k len cs
    | _ => True) ∧ Bx.frOk k len B
theorem frE_lookup {k sz len d : Nat} {rows : List (List C)} {t : T} : ∀ {env : Env}, Env.frOk k len env → (frE k sz rows env).lookup d = some t → ∃ u, env.lookup d = some u ∧ t = u.fr k sz rows ∧ u.frOk k len
  | [], _, h => by simp [frE] at h
  | p :: env, ho, h => by
    obtain ⟨e, u⟩ := p
    simp only [Env.frOk] at ho
    simp only [frE, List.lookup_cons] at h ⊢
    cases hb : (d == e) with
    | true => rw [hb] at h; simp only [Option.some.injEq] at h; exact ⟨u, rfl, h.symm, ho.1⟩
    | false => rw [hb] at h; exact frE_lookup ho.2 h
theorem frB_mem {k sz len i : Nat} {rows : List (List C)} {r : Res} : ∀ {B : Bx}, Bx.frOk k len B → (i, r) ∈ frB k sz rows B → ∃ r0, (i, r0) ∈ B ∧ ((r = r0 ∧ ∀ cs, r0 ≠ .cells cs) ∨ ∃ cs, r0 = .cells cs ∧ r = .cells (Cell.frs k sz rows cs) ∧ Cell.frOks k len cs)
  | p :: B, ho, h => by
    obtain ⟨i', r'⟩ := p
    simp only [Bx.frOk] at ho
    simp only [frB] at h
    rcases List.mem_cons.1 h with h | h
    · cases r' with
      | cells cs => cases h; exact ⟨.cells cs, by simp, .inr ⟨cs, rfl, rfl, ho.1⟩⟩
      | row s rs => cases h; exact ⟨.row s rs, by simp, .inl ⟨rfl, by intro cs; simp⟩⟩
    · obtain ⟨r0, hm, h⟩ := frB_mem ho.2 h
      exact ⟨r0, List.mem_cons_of_mem _ hm, h⟩
theorem frB_keys {k sz : Nat} {rows : List (List C)} : ∀ {B : Bx}, (frB k sz rows B).map (·.1) = B.map (·.1)
  | [] => rfl
  | (i, .cells cs) :: B => by simp only [frB, List.map_cons, frB_keys]
  | (i, .row s rs) :: B => by simp only [frB, List.map_cons, frB_keys]

theorem Bx.frOk_drop {k j len : Nat} : ∀ {B : Bx}, Bx.frOk k len B → Bx.frOk k len (Bx.drop j B)
  | [], _ => trivial
  | p :: B, h => by
    simp only [Bx.frOk] at h
    unfold Bx.drop
    cases hp : (p.1 == j) with
    | true => exact h.2
    | false => exact ⟨h.1, Bx.frOk_drop h.2⟩

theorem Gh.freeze {env : Env} {B : Bx} (k : Nat) {sz : Nat} {rows : List (List C)} (hb : B.lookup k = some (.row sz rows)) (hlow : lowN k = true) (hE : Env.frOk k rows.length env) (hB : Bx.frOk k rows.length B) :
    Gh n ⟨env, B⟩ ⟨frE k sz rows env, frB k sz rows (Bx.drop k B)⟩ := by
  intro κ M0 a w s
  obtain ⟨M, ν, h1, h2, h3, h4, h5, h6⟩ := s
  obtain ⟨M', g1, g2, g3⟩ := h5.freeze (lookup_box hb) (lowN_spec hlow)
  have hB' := Bx.frOk_drop (j := k) hB
  refine ⟨M', ν, h1.trans g1, h2, h3, ?_, ⟨g2.os, g2.tape, g2.output, g2.dr, g2.size, g2.unch, g2.fro, ?_, ?_, ?_, by rw [frB_keys]; exact g2.nodup⟩, h6⟩
  · intro d t e
    obtain ⟨u, hu, rfl, hok⟩ := frE_lookup hE e
    exact T.rep_fr g3 u _ hok (h4 d u hu)
  · intro i r hm
    obtain ⟨r0, hm0, ⟨rfl, _⟩ | ⟨cs, rfl, rfl, hok⟩⟩ := frB_mem hB' hm
    · exact g2.res i r hm0
    · have h0 := h5.res i _ (Bx.mem_drop h5.nodup hm0).1
      simp only [Res.ok] at h0 ⊢
      obtain ⟨b, c, et, e1, e2, e3⟩ := h0
      exact ⟨b, c, et, e1, e2, Cell.reps_fr g3 cs _ hok e3⟩
  · intro i r b hm hb
    obtain ⟨r0, hm0, _⟩ := frB_mem hB' hm
    exact g2.away i r0 b hm0 hb
  · intro i r i' r' b hm hm' hb hb'
    obtain ⟨r0, hm0, _⟩ := frB_mem hB' hm
    obtain ⟨r1, hm1, _⟩ := frB_mem hB' hm'
    exact g2.inj i r0 i' r1 b hm0 hm1 hb hb'

/-! ### a nil slice read as a row of the call's own -/
theorem Sat.nilrow {κ : Kap} {M : Mem} {ν : Nu} {B : Bx} {w : World} (h : Sat κ M ν B w) (k sz : Nat) (hfB : Bx.fresh k B = true) : Sat κ M (ν.set k ⟨none, 0⟩) ((k, .row sz []) :: B) w := by
  refine ⟨h.os, h.tape, h.output, h.dr, h.size, h.unch, h.fro, ?_, ?_, ?_, ?_⟩
  · intro j r hm
    rcases List.mem_cons.1 hm with e | hm
    · cases e; simp only [Res.ok, Nu.set_self]; exact ⟨Nat.le_refl _, Nat.zero_le _, .inl (by simp)⟩
    · obtain ⟨hj, hc⟩ := Bx.fresh_spec hfB hm
      exact Res.ok_fresh Nu.set_other hj hc (h.res j r hm)
  · intro j r b hm hb
    rcases List.mem_cons.1 hm with e | hm
    · cases e; rw [Nu.set_self] at hb; cases hb
    · obtain ⟨hj, hc⟩ := Bx.fresh_spec hfB hm
      rw [Nu.set_other j hj] at hb
      exact h.away j r b hm hb
  · intro j r j' r' b hm hm' hb hb'
    rcases List.mem_cons.1 hm with e | hm <;> rcases List.mem_cons.1 hm' with e' | hm'
    · cases e; cases e'; rfl
    · cases e; rw [Nu.set_self] at hb; cases hb
    · cases e'; rw [Nu.set_self] at hb'; cases hb'
    · obtain ⟨hj, _⟩ := Bx.fresh_spec hfB hm
      obtain ⟨hj', _⟩ := Bx.fresh_spec hfB hm'
      rw [Nu.set_other j hj] at hb
      rw [Nu.set_other j' hj'] at hb'
      exact h.inj j r j' r' b hm hm' hb hb'
  · simp only [List.map_cons, List.nodup_cons]
    refine ⟨fun hm => ?_, h.nodup⟩
    obtain ⟨x, hx, e⟩ := List.mem_map.1 hm
    exact (Bx.fresh_spec (j := x.1) (r := x.2) hfB hx).1 e

/-- the temporary d holds a nil slice: from now on it is the row k -/
theorem Gh.nilrow {env : Env} {B : Bx} (d k : Nat) {sz : Nat} (hd : env.lookup d = some (.one (.dat (.nil sz)))) (hlow : lowN k = true) (hf : Env.fresh k env = true) (hfB : Bx.fresh k B = true) :
    Gh n ⟨env, B⟩ ⟨(d, .one (.own k 0)) :: env, (k, .row sz []) :: B⟩ := by
  intro κ M0 a w s
  obtain ⟨M, ν, h1, h2, h3, h4, h5, h6⟩ := s
  refine ⟨M, ν.set k ⟨none, 0⟩, h1, h2, h3, ?_, h5.nilrow k sz hfB, fun i hi => by rw [Nu.set_other i (by have := lowN_spec hlow; omega)]; exact h6 i hi⟩
  intro e t he
  simp only [List.lookup_cons] at he
  cases hb : (e == d) with
  | true =>
    rw [hb] at he
    have : e = d := by simpa using hb
    subst this
    simp only [Option.some.injEq] at he
    subst he
    have := h4 e _ hd
    simp only [T.rep, Cell.rep, C.rep, Nu.set_self] at this ⊢
    rw [this]; rfl
  | false =>
    rw [hb] at he
    exact (h4.fresh hf Nu.set_other) e t he

/-- the i-th cell of the box j holds a nil slice: from now on it is the row k -/
theorem Gh.nilcell {env : Env} {B : Bx} (j i k : Nat) {sz : Nat} {pre post : List Cell} {cs : List Cell} (hb : B.lookup j = some (.cells cs)) (hc : cutC i cs = some (pre, .dat (.nil sz) :: post)) (hlow : lowN k = true) (hf : Env.fresh k env = true) (hfB : Bx.fresh k B = true) :
    Gh n ⟨env, B⟩ ⟨env, (k, .row sz []) :: Bx.put j (.cells (pre ++ .own k 0 :: post)) B⟩ := by
  intro κ M0 a w s
  obtain ⟨M, ν, h1, h2, h3, h4, h5, h6⟩ := s
  have hs := h5.nilrow k sz hfB
  have hmem := lookup_box hb
  obtain ⟨e1, _⟩ := cutC_spec hc
  refine ⟨M, ν.set k ⟨none, 0⟩, h1, h2, h3, h4.fresh hf Nu.set_other, ?_, fun i hi => by rw [Nu.set_other i (by have := lowN_spec hlow; omega)]; exact h6 i hi⟩
  have hkeys : ∀ i r, (i, r) ∈ (k, Res.row sz []) :: Bx.put j (.cells (pre ++ .own k 0 :: post)) B → ∃ r0, (i, r0) ∈ (k, Res.row sz []) :: B := by
    intro i r hm
    rcases List.mem_cons.1 hm with e | hm
    · cases e; exact ⟨_, List.mem_cons_self ..⟩
    · rcases Bx.mem_put h5.nodup hm with e | ⟨hm, _⟩
      · cases e; exact ⟨_, List.mem_cons_of_mem _ hmem⟩
      · exact ⟨r, List.mem_cons_of_mem _ hm⟩
  refine ⟨hs.os, hs.tape, hs.output, hs.dr, hs.size, hs.unch, hs.fro, ?_, ?_, ?_, ?_⟩
  · intro i r hm
    rcases List.mem_cons.1 hm with e | hm
    · cases e; exact hs.res k _ (List.mem_cons_self ..)
    · rcases Bx.mem_put h5.nodup hm with e | ⟨hm, _⟩
      · cases e
        have h0 := hs.res j _ (List.mem_cons_of_mem _ hmem)
        simp only [Res.ok] at h0 ⊢
        obtain ⟨b, c, et, g1, g2, g3⟩ := h0
        refine ⟨b, c, et, g1, g2, ?_⟩
        rw [e1] at g3
        obtain ⟨u1, u2, eu, hu1, hu2⟩ := Cell.reps_split g3
        rw [eu]
        simp only [Cell.reps] at hu2
        obtain ⟨v, vs, ev, hv, hvs⟩ := hu2
        subst ev
        refine Cell.reps_append hu1 ?_
        simp only [Cell.reps]
        refine ⟨v, vs, rfl, ?_, hvs⟩
        simp only [Cell.rep, C.rep, Nu.set_self] at hv ⊢
        rw [hv]; rfl
      · exact hs.res i r (List.mem_cons_of_mem _ hm)
  · intro i r b hm hb
    obtain ⟨r0, hm0⟩ := hkeys i r hm
    exact hs.away i r0 b hm0 hb
  · intro i r i' r' b hm hm' hb hb'
    obtain ⟨r0, hm0⟩ := hkeys i r hm
    obtain ⟨r1, hm1⟩ := hkeys i' r' hm'
    exact hs.inj i r0 i' r1 b hm0 hm1 hb hb'
  · have := hs.nodup
    simp only [List.map_cons, Bx.put_keys] at this ⊢
    exact this

/-! ### loops -/
theorem AWP.loopG {c : Code} {σ : AS} (I : Nat → Env → Bx → Prop) (k₀ : Nat) (τ : AS) (hs : Gh n σ τ) (h₀ : I k₀ τ.env τ.B)
    (round : ∀ (k : Nat) (e : Env) (b : Bx), I k e b → AWP P n c ⟨e, b⟩ (Then (fun σ' => ∃ k' τ', k' < k ∧ Gh n σ' τ' ∧ I k' τ'.env τ'.B) Q)) : AWP P n (.loop c) σ Q := by
  refine AWP.gh hs ?_
  refine AWP.loop (fun k σ => I k σ.env σ.B) k₀ h₀ ?_
  intro k σ hI κ M0 a w s
  refine wp_mono (round k σ.env σ.B hI κ M0 a w s) ?_
  rintro e a' w' ⟨σ', s', q⟩
  cases e with
  | normal => obtain ⟨k', τ', h1, h2, h3⟩ := q; exact ⟨τ', h2 κ M0 a' w' s', k', h1, h3⟩
  | exit id => exact ⟨σ', s', q⟩
  | goto l => exact ⟨σ', s', q⟩
  | ret => exact ⟨σ', s', q⟩
  | panic ch => exact ⟨σ', s', q⟩
  | outgrown => exact ⟨σ', s', q⟩
attribute [go_sem] rnm renE renB frE frB Env.frOk Bx.frOk bxSub noDup T.ren T.rens Cell.ren Cell.rens Res.ren
end Go.Sx
/-! The block of a slice's literal is frozen: from then on it is data. -/
set_option linter.unusedVariables false
set_option linter.unusedSimpArgs false
namespace Go.Sx
variable {P : Program} {n : Nat} {Q : Exit → AS → Prop}

mutual
/-- the row k, that has len elements, is spoken of at its full length -/
def Cell.frAOk (k len : Nat) : Cell → Prop
  | .arr j m => (j == k) = true → m = len
  | .clo _ caps => Cell.frAOks k len caps
  | _ => True
def Cell.frAOks (k len : Nat) : List Cell → Prop
  | [] => True
  | c :: cs => Cell.frAOk k len c ∧ Cell.frAOks k len cs
end
mutual
def Cell.frA (k sz : Nat) (rows : List (List C)) : Cell → Cell
  | .own j m => .own j m
  | .clo f caps => .clo f (Cell.frsA k sz rows caps)
  | .dat c => .dat c
  | .ptr j o => .ptr j o
  | .rp j s i f => .rp j s i f
  | .arr j m => bif j == k then .dat (.sl sz rows) else .arr j m
  | .ref r => .ref r
def Cell.frsA (k sz : Nat) (rows : List (List C)) : List Cell → List Cell
  | [] => []
  | c :: cs => Cell.frA k sz rows c :: Cell.frsA k sz rows cs
end
mutual
def T.frAOk (k len : Nat) : T → Prop
  | .one c => c.frAOk k len
  | .agg cs => Cell.frAOks k len cs
  | .tup ts => T.frAOks k len ts
  | _ => True
def T.frAOks (k len : Nat) : List T → Prop
  | [] => True
  | t :: ts => T.frAOk k len t ∧ T.frAOks k len ts
end
mutual
def T.frA (k sz : Nat) (rows : List (List C)) : T → T
  | .one c => .one (c.frA k sz rows)
  | .agg cs => mkAgg (Cell.frsA k sz rows cs)
  | .tup ts => .tup (T.frsA k sz rows ts)
  | .st r => .st r
  | .un => .un
def T.frsA (k sz : Nat) (rows : List (List C)) : List T → List T
  | [] => []
  | t :: ts => T.frA k sz rows t :: T.frsA k sz rows ts
end


/-- what is known of a frozen block -/
def FrArr (M M' : Mem) (ν : Nu) (k sz : Nat) (rows : List (List C)) : Prop :=
  M.le M' ∧ ∀ b, (ν k).blk = some b → (C.sl sz rows).rep M' (.slice (some ⟨b, 0, none⟩) rows.length rows.length)

mutual
theorem Cell.rep_frA {M M' : Mem} {ν : Nu} {k sz : Nat} {rows : List (List C)} (hF : FrArr M M' ν k sz rows) : ∀ (c : Cell) (v : Value), c.frAOk k rows.length → c.rep M ν v → (c.frA k sz rows).rep M' ν v
  | .own j m, v, _, h => by simp only [Cell.frA]; exact Cell.rep_mono hF.1 _ _ h
  | .clo f caps, v, hok, h => by
    simp only [Cell.frAOk] at hok
    simp only [Cell.rep] at h
    simp only [Cell.frA, Cell.rep]
    obtain ⟨vs, e, h⟩ := h
    exact ⟨vs, e, Cell.reps_frA hF caps vs hok h⟩
  | .dat c, v, _, h => by simp only [Cell.frA]; exact Cell.rep_mono hF.1 _ _ h
  | .ptr j o, v, _, h => by simp only [Cell.frA]; exact Cell.rep_mono hF.1 _ _ h
  | .rp j s i f, v, _, h => by simp only [Cell.frA]; exact Cell.rep_mono hF.1 _ _ h
  | .arr j m, v, hok, h => by
    simp only [Cell.frAOk] at hok
    simp only [Cell.frA]
    cases hj : (j == k) with
    | false => simp only [cond_false]; simpa only [Cell.rep] using h
    | true =>
      have hjk : j = k := by simpa using hj
      have hm := hok hj
      subst hm; subst hjk
      simp only [Cell.rep] at h
      obtain ⟨b, hb, e⟩ := h
      simp only [cond_true, Cell.rep]
      rw [e]; exact hF.2 b hb
  | .ref r, v, _, h => by simp only [Cell.frA]; exact Cell.rep_mono hF.1 _ _ h
theorem Cell.reps_frA {M M' : Mem} {ν : Nu} {k sz : Nat} {rows : List (List C)} (hF : FrArr M M' ν k sz rows) : ∀ (cs : List Cell) (vs : List Value), Cell.frAOks k rows.length cs → Cell.reps M ν cs vs → Cell.reps M' ν (Cell.frsA k sz rows cs) vs
  | [], vs, _, h => by simpa only [Cell.frsA, Cell.reps] using h
  | c :: cs, vs, hok, h => by
    simp only [Cell.frAOks] at hok
    simp only [Cell.reps] at h
    simp only [Cell.frsA, Cell.reps]
    obtain ⟨v, vs', e, h1, h2⟩ := h
    exact ⟨v, vs', e, Cell.rep_frA hF c v hok.1 h1, Cell.reps_frA hF cs vs' hok.2 h2⟩
end
mutual
theorem T.rep_frA {M M' : Mem} {ν : Nu} {k sz : Nat} {rows : List (List C)} (hF : FrArr M M' ν k sz rows) : ∀ (t : T) (v : Value), t.frAOk k rows.length → t.rep M ν v → (t.frA k sz rows).rep M' ν v
  | .one c, v, hok, h => by simp only [T.frAOk] at hok; simp only [T.frA, T.rep] at h ⊢; exact Cell.rep_frA hF c v hok h
  | .agg cs, v, hok, h => by
    simp only [T.frAOk] at hok
    simp only [T.rep] at h
    obtain ⟨a, e, h⟩ := h
    subst e
    simp only [T.frA]
    exact mkAgg_rep (Cell.reps_frA hF cs _ hok h)
  | .tup ts, v, hok, h => by
    simp only [T.frAOk] at hok
    simp only [T.rep] at h
    obtain ⟨a, e, h⟩ := h
    simp only [T.frA, T.rep]
    exact ⟨a, e, T.reps_frA hF ts a hok h⟩
  | .st r, v, _, h => by simp only [T.frA]; exact T.rep_mono hF.1 _ _ h
  | .un, v, _, h => by simp only [T.frA]; exact T.rep_mono hF.1 _ _ h
theorem T.reps_frA {M M' : Mem} {ν : Nu} {k sz : Nat} {rows : List (List C)} (hF : FrArr M M' ν k sz rows) : ∀ (ts : List T) (vs : List Value), T.frAOks k rows.length ts → T.reps M ν ts vs → T.reps M' ν (T.frsA k sz rows ts) vs
  | [], vs, _, h => by simpa only [T.frsA, T.reps] using h
  | t :: ts, vs, hok, h => by
    simp only [T.frAOks] at hok
    simp only [T.reps] at h
    simp only [T.frsA, T.reps]
    obtain ⟨v, vs', e, h1, h2⟩ := h
    exact ⟨v, vs', e, T.rep_frA hF t v hok.1 h1, T.reps_frA hF ts vs' hok.2 h2⟩
end


theorem repRows_of_flat {M : Mem} {sz : Nat} : ∀ {rows : List (List C)} {vs : List Value}, (∀ r ∈ rows, r.length = sz) → repRow M rows.flatten vs → repRows M sz rows vs
  | [], vs, _, h => by simp only [List.flatten_nil, repRow] at h; simp only [repRows]; exact h
  | r :: rows, vs, hl, h => by
    rw [List.flatten_cons] at h
    obtain ⟨v1, v2, e, h1, h2⟩ := repRow_split h
    simp only [repRows]
    exact ⟨v1, v2, e, hl r (by simp), h1, repRows_of_flat (fun x hx => hl x (List.mem_cons_of_mem _ hx)) h2⟩

theorem Sat.freezeA {κ : Kap} {M : Mem} {ν : Nu} {B : Bx} {w : World} {k sz : Nat} {cs : List Cell} {rows : List (List C)} (h : Sat κ M ν B w) (hk : (k, .cells cs) ∈ B) (hp : pureCs (cs.map Cell.soft) = some rows.flatten) (hl : ∀ r ∈ rows, r.length = sz) (hm : rows.length ≤ maxLen) (hlow : k < pin) :
    ∃ M', M.ext κ M' ∧ Sat κ M' ν (Bx.drop k B) w ∧ FrArr M M' ν k sz rows := by
  have hr := h.res k _ hk
  simp only [Res.ok] at hr
  obtain ⟨b, c, et, hb, hheap, hreps⟩ := hr
  have hreps := Cell.reps_soft hreps
  rw [pureCs_spec hp] at hreps
  have hrows := repRows_of_flat hl (Cell.reps_map_c.1 hreps)
  have hd := h.drop (B' := Bx.drop k B) (fun x hx => (Bx.mem_drop h.nodup hx).1) (Bx.drop_nodup k h.nodup)
  obtain ⟨ha1, ha2⟩ := h.away k _ b hk hb
  have hb2 : κ.w.heap.size ≤ b := ha2.elim id fun h2 => absurd h2.1 (by omega)
  have hle : M.le (M.put b (.cells c et (0, 0))) := by
    intro i x e
    unfold Mem.put
    split
    · rename_i hi; subst hi; rw [ha1] at e; cases e
    · exact e
  refine ⟨M.put b (.cells c et (0, 0)), ⟨hle, fun i x e => ?_⟩, ?_, hle, ?_⟩
  · unfold Mem.put at e
    split at e
    · rename_i hi; subst hi; exact .inr hb2
    · exact .inl e
  · refine ⟨hd.os, hd.tape, hd.output, hd.dr, hd.size, hd.unch, ?_, fun j r hm => Res.ok_mono hle (fun b x e _ => e) (hd.res j r hm), ?_, hd.inj, hd.nodup⟩
    · intro i x e
      unfold Mem.put at e
      split at e
      · rename_i hi; subst hi; cases e; exact hheap
      · exact h.fro _ _ e
    · intro j r b' hm hb'
      obtain ⟨hm', hne⟩ := Bx.mem_drop h.nodup hm
      obtain ⟨h1, h2⟩ := h.away j r b' hm' hb'
      refine ⟨?_, h2⟩
      unfold Mem.put
      rw [if_neg]
      · exact h1
      · intro e; subst e
        exact hne (h.inj j r k _ b' hm' hk hb' hb)
  · intro b' hb'
    rw [hb] at hb'; cases hb'
    simp only [C.rep]
    refine ⟨_, rows.length, c.toList, rfl, Nat.le_refl _, hm, repRows_mono hle sz rows _ hrows, .inr ⟨b, 0, rfl, ?_⟩⟩
    refine ⟨c, et, (0, 0), [], [], ?_, by simp, rfl⟩
    simp [Mem.put]

/-! ### freezing -/
def frAE (k sz : Nat) (rows : List (List C)) : Env → Env
  | [] => []
  | p :: env => (p.1, p.2.frA k sz rows) :: frAE k sz rows env
def Env.frAOk (k len : Nat) : Env → Prop
  | [] => True
  | p :: env => p.2.frAOk k len ∧ Env.frAOk k len env
def frAB (k sz : Nat) (rows : List (List C)) : Bx → Bx
  | [] => []
  | p :: B => (match p.2 with
    | .cells cs => (p.1, .cells (Cell.frsA k sz rows cs))
    | r => (p.1, r)) :: frAB k sz rows B
def Bx.frAOk (k len : Nat) : Bx → Prop
  | [] => True
  | p :: B => (match p.2 with
    | .cells cs => Cell.frAOks k len cs
    | _ => True) ∧ Bx.frAOk k len B
theorem frAE_lookup {k sz len d : Nat} {rows : List (List C)} {t : T} : ∀ {env : Env}, Env.frAOk k len env → (frAE k sz rows env).lookup d = some t → ∃ u, env.lookup d = some u ∧ t = u.frA k sz rows ∧ u.frAOk k len
  | [], _, h => by simp [frAE] at h
  | p :: env, ho, h => by
    obtain ⟨e, u⟩ := p
    simp only [Env.frAOk] at ho
    simp only [frAE, List.lookup_cons] at h ⊢
    cases hb : (d == e) with
    | true => rw [hb] at h; simp only [Option.some.injEq] at h; exact ⟨u, rfl, h.symm, ho.1⟩
    | false => rw [hb] at h; exact frAE_lookup ho.2 h
theorem frAB_mem {k sz len i : Nat} {rows : List (List C)} {r : Res} : ∀ {B : Bx}, Bx.frAOk k len B → (i, r) ∈ frAB k sz rows B → ∃ r0, (i, r0) ∈ B ∧ ((r = r0 ∧ ∀ cs, r0 ≠ .cells cs) ∨ ∃ cs, r0 = .cells cs ∧ r = .cells (Cell.frsA k sz rows cs) ∧ Cell.frAOks k len cs)
  | p :: B, ho, h => by
    obtain ⟨i', r'⟩ := p
    simp only [Bx.frAOk] at ho
    simp only [frAB] at h
    rcases List.mem_cons.1 h with h | h
    · cases r' with
      | cells cs => cases h; exact ⟨.cells cs, by simp, .inr ⟨cs, rfl, rfl, ho.1⟩⟩
      | row s rs => cases h; exact ⟨.row s rs, by simp, .inl ⟨rfl, by intro cs; simp⟩⟩
    · obtain ⟨r0, hm, h⟩ := frAB_mem ho.2 h
      exact ⟨r0, List.mem_cons_of_mem _ hm, h⟩
theorem frAB_keys {k sz : Nat} {rows : List (List C)} : ∀ {B : Bx}, (frAB k sz rows B).map (·.1) = B.map (·.1)
  | [] => rfl
  | (i, .cells cs) :: B => by simp only [frAB, List.map_cons, frAB_keys]
  | (i, .row s rs) :: B => by simp only [frAB, List.map_cons, frAB_keys]

theorem Bx.frAOk_drop {k j len : Nat} : ∀ {B : Bx}, Bx.frAOk k len B → Bx.frAOk k len (Bx.drop j B)
  | [], _ => trivial
  | p :: B, h => by
    simp only [Bx.frAOk] at h
    unfold Bx.drop
    cases hp : (p.1 == j) with
    | true => exact h.2
    | false => exact ⟨h.1, Bx.frAOk_drop h.2⟩


theorem Gh.freezeA {env : Env} {B : Bx} (k sz : Nat) (rows : List (List C)) {cs : List Cell} (hb : B.lookup k = some (.cells cs)) (hp : pureCs (cs.map Cell.soft) = some rows.flatten) (hl : rows.all (fun r => lenIs sz r) = true) (hm : rows.length ≤ maxLen) (hlow : lowN k = true) (hE : Env.frAOk k rows.length env) (hB : Bx.frAOk k rows.length B) :
    Gh n ⟨env, B⟩ ⟨frAE k sz rows env, frAB k sz rows (Bx.drop k B)⟩ := by
  intro κ M0 a w s
  obtain ⟨M, ν, h1, h2, h3, h4, h5, h6⟩ := s
  obtain ⟨M', g1, g2, g3⟩ := h5.freezeA (lookup_box hb) hp (fun r hr => lenIs_spec (List.all_eq_true.1 hl r hr)) hm (lowN_spec hlow)
  have hB' := Bx.frAOk_drop (j := k) hB
  refine ⟨M', ν, h1.trans g1, h2, h3, ?_, ⟨g2.os, g2.tape, g2.output, g2.dr, g2.size, g2.unch, g2.fro, ?_, ?_, ?_, by rw [frAB_keys]; exact g2.nodup⟩, h6⟩
  · intro d t e
    obtain ⟨u, hu, rfl, hok⟩ := frAE_lookup hE e
    exact T.rep_frA g3 u _ hok (h4 d u hu)
  · intro i r hm
    obtain ⟨r0, hm0, ⟨rfl, _⟩ | ⟨cs, rfl, rfl, hok⟩⟩ := frAB_mem hB' hm
    · exact g2.res i r hm0
    · have h0 := h5.res i _ (Bx.mem_drop h5.nodup hm0).1
      simp only [Res.ok] at h0 ⊢
      obtain ⟨b, c, et, e1, e2, e3⟩ := h0
      exact ⟨b, c, et, e1, e2, Cell.reps_frA g3 cs _ hok e3⟩
  · intro i r b hm hb
    obtain ⟨r0, hm0, _⟩ := frAB_mem hB' hm
    exact g2.away i r0 b hm0 hb
  · intro i r i' r' b hm hm' hb hb'
    obtain ⟨r0, hm0, _⟩ := frAB_mem hB' hm
    obtain ⟨r1, hm1, _⟩ := frAB_mem hB' hm'
    exact g2.inj i r0 i' r1 b hm0 hm1 hb hb'
attribute [go_sem] Cell.frAOk Cell.frAOks T.frAOk T.frAOks Cell.frA Cell.frsA T.frA T.frsA frAE frAB Env.frAOk Bx.frAOk
end Go.Sx
/-! Loops whose states are told by data: the state that a round leaves is read as the next one: slots forgotten, boxes let go of, names changed, in one step. -/
set_option linter.unusedVariables false
namespace Go.Sx
variable {P : Program} {n : Nat} {Q : Exit → AS → Prop}

/-- the names that change: (theirs, ours) -/
def rn : List (Nat × Nat) → Nat → Nat
  | [], i => i
  | p :: l, i => bif i == p.1 then p.2 else rn l i
def rnLow : List (Nat × Nat) → Bool
  | [] => true
  | p :: l => Nat.blt p.1 pin && (Nat.blt p.2 pin && rnLow l)
theorem rn_pin : ∀ {l : List (Nat × Nat)}, rnLow l = true → ∀ k, pin ≤ k → rn l k = k
  | [], _, k, _ => rfl
  | p :: l, h, k, hk => by
    simp only [rnLow, Bool.and_eq_true] at h
    have h1 : p.1 < pin := by simpa using h.1
    unfold rn
    have : (k == p.1) = false := by simp; omega
    rw [this]; exact rn_pin h.2.2 k hk
theorem rn_low : ∀ {l : List (Nat × Nat)}, rnLow l = true → ∀ k, k < pin → rn l k < pin
  | [], _, k, hk => hk
  | p :: l, h, k, hk => by
    simp only [rnLow, Bool.and_eq_true] at h
    have h2 : p.2 < pin := by simpa using h.2.1
    unfold rn
    cases (k == p.1)
    · exact rn_low h.2.2 k hk
    · exact h2

def wkE (l : List (Nat × Nat)) (env : Env) : Env → Prop
  | [] => True
  | p :: τ => env.lookup p.1 = some (p.2.ren (rn l)) ∧ wkE l env τ
def wkB (l : List (Nat × Nat)) (B : Bx) : Bx → Prop
  | [] => True
  | p :: τ => B.lookup (rn l p.1) = some (p.2.ren (rn l)) ∧ wkB l B τ
theorem wkE_spec {l : List (Nat × Nat)} {env : Env} : ∀ {τ : Env}, wkE l env τ → ∀ p ∈ τ, env.lookup p.1 = some (p.2.ren (rn l))
  | q :: τ, h, p, hm => by
    rcases List.mem_cons.1 hm with rfl | hm
    · exact h.1
    · exact wkE_spec h.2 p hm
theorem wkB_spec {l : List (Nat × Nat)} {B : Bx} : ∀ {τ : Bx}, wkB l B τ → ∀ p ∈ τ, (rn l p.1, p.2.ren (rn l)) ∈ B
  | q :: τ, h, p, hm => by
    rcases List.mem_cons.1 hm with rfl | hm
    · exact lookup_box h.1
    · exact wkB_spec h.2 p hm

theorem Gh.to {env : Env} {B : Bx} (l : List (Nat × Nat)) {τ : AS} (h1 : wkE l env τ.env) (h2 : wkB l B τ.B) (h3 : noDup (τ.B.map fun p => rn l p.1) = true) (h4 : noDup (τ.B.map (·.1)) = true) (h5 : rnLow l = true) : Gh n ⟨env, B⟩ τ := by
  intro κ M0 a w s
  exact s.weak (ρ := rn l) ⟨wkE_spec h1, wkB_spec h2, noDup_spec h3, noDup_spec h4, rn_pin h5, rn_low h5⟩

/-- a loop whose states are told by data -/
theorem AWP.loopS {c : Code} {σ : AS} {X : Type} (env : X → Env) (box : X → Bx) (ok : X → Prop) (meas : X → Nat) (x₀ : X) (hs : Gh n σ ⟨env x₀, box x₀⟩) (h₀ : ok x₀)
    (round : ∀ x, ok x → AWP P n c ⟨env x, box x⟩ (Then (fun σ' => ∃ x', meas x' < meas x ∧ ok x' ∧ Gh n σ' ⟨env x', box x'⟩) Q)) : AWP P n (.loop c) σ Q := by
  refine AWP.gh hs ?_
  refine AWP.loop (fun k σ => ∃ x, σ = ⟨env x, box x⟩ ∧ ok x ∧ meas x = k) (meas x₀) ⟨x₀, rfl, h₀, rfl⟩ ?_
  rintro k _ ⟨x, rfl, hx, rfl⟩ κ M0 a w s
  refine wp_mono (round x hx κ M0 a w s) ?_
  rintro e a' w' ⟨σ', s', q⟩
  cases e with
  | normal => obtain ⟨x', h1, h2, h3⟩ := q; exact ⟨_, h3 κ M0 a' w' s', meas x', h1, x', rfl, h2, rfl⟩
  | exit id => exact ⟨σ', s', q⟩
  | goto l => exact ⟨σ', s', q⟩
  | ret => exact ⟨σ', s', q⟩
  | panic ch => exact ⟨σ', s', q⟩
  | outgrown => exact ⟨σ', s', q⟩

theorem PCBk.mk {f : FuncId} {args0 : List T} {res0 res0' : Res} {r0 : T} (k : Nat) (h : PCB P f args0 [(pin, res0)] r0 [(pin, res0')]) :
    PCBk P f (T.rens (fun _ => k) args0) k (res0.ren fun _ => k) (r0.ren fun _ => k) (res0'.ren fun _ => k) := ⟨_, _, _, _, h, rfl, rfl, rfl, rfl⟩
/-- the contract of a sort, under the caller's name for the row -/
theorem PCBk.sorts {f : FuncId} {g : FuncId} {sz : Nat} {rows rows' : List (List C)} {m : Nat} (k : Nat) (h : PCB P f [.one (.own pin m), .one (.dat (.fn g))] [(pin, .row sz rows)] (.tup []) [(pin, .row sz rows')]) :
    PCBk P f [.one (.own k m), .one (.dat (.fn g))] k (.row sz rows) (.tup []) (.row sz rows') := PCBk.mk k h
/-- at the end a step of the proof's own may be taken (freezing) -/
def GhQ (n : Nat) (Q : Exit → AS → Prop) (e : Exit) (σ : AS) : Prop := ∃ τ, Gh n σ τ ∧ Q e τ
theorem AWP.ghQ {c : Code} {σ : AS} (h : AWP P n c σ (GhQ n Q)) : AWP P n c σ Q := by
  intro κ M0 a w s
  refine wp_mono (h κ M0 a w s) ?_
  rintro e a' w' ⟨σ', s', τ, g, q⟩
  exact ⟨τ, g κ M0 a' w' s', q⟩
theorem GhQ.step {Q : Exit → AS → Prop} {e : Exit} {σ τ : AS} (h : Gh n σ τ) (k : GhQ n Q e τ) : GhQ n Q e σ := by
  obtain ⟨ρ, h2, q⟩ := k
  exact ⟨ρ, h.trans h2, q⟩
theorem fin0 {A : Prop} {B : Bx} (h : A) : A ∧ ∀ x ∈ ([] : Bx), x ∈ B := ⟨h, fun _ h => by cases h⟩
theorem wrap_succ {k m : Nat} (h : k < m) (hm : m ≤ 9223372036854775807) : IntKind.i64.wrap ((k : Int) + 1) = ((k + 1 : Nat) : Int) := by rw [w64 (by omega)]; rfl
/-- the loop's test, the element at it -/
theorem at_lt {α : Type} {enc : α → List C} {l : List α} {k : Nat} (h : k < l.length) : ∃ d, l[k]? = some d ∧ (l.map enc)[k]? = some (enc d) ∧ decide ((k : Int) < (l.length : Int)) = true ∧ l.drop k = d :: l.drop (k + 1) :=
  ⟨l[k], by simp [h], by simp [h], by simpa using h, List.drop_eq_getElem_cons h⟩
theorem at_ge {α : Type} {l : List α} {k : Nat} (h : ¬ k < l.length) : decide ((k : Int) < (l.length : Int)) = false ∧ l.drop k = [] := ⟨by simpa using h, List.drop_eq_nil_of_le (by omega)⟩
@[go_sem] theorem frOks_map (k n : Nat) : ∀ r : List C, Cell.frOks k n (r.map .dat) = True
  | [] => by simp [Cell.frOks]
  | c :: r => by simp only [List.map_cons, Cell.frOks, Cell.frOk, frOks_map k n r, and_true]
@[go_sem] theorem frs_map (k sz : Nat) (rows : List (List C)) : ∀ r : List C, Cell.frs k sz rows (r.map .dat) = r.map .dat
  | [] => rfl
  | c :: r => by simp only [List.map_cons, Cell.frs, Cell.fr, frs_map k sz rows r]
@[go_sem] theorem rens_map (ρ : Nat → Nat) : ∀ r : List C, Cell.rens ρ (r.map .dat) = r.map .dat
  | [] => rfl
  | c :: r => by simp only [List.map_cons, Cell.rens, Cell.ren, rens_map ρ r]
@[go_sem] theorem frAOks_map (k n : Nat) : ∀ r : List C, Cell.frAOks k n (r.map .dat) = True
  | [] => by simp [Cell.frAOks]
  | c :: r => by simp only [List.map_cons, Cell.frAOks, Cell.frAOk, frAOks_map k n r, and_true]
@[go_sem] theorem frsA_map (k sz : Nat) (rows : List (List C)) : ∀ r : List C, Cell.frsA k sz rows (r.map .dat) = r.map .dat
  | [] => rfl
  | c :: r => by simp only [List.map_cons, Cell.frsA, Cell.frA, frsA_map k sz rows r]
attribute [go_sem] rn rnLow wkE wkB
end Go.Sx
