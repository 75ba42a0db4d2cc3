/- A part of the proof: lemmas about the walk of the program and about plain integers and lists. No conditions beyond those that each lemma states. -/
import Derived.Test.YtjpkddhpkohiaaaSxLoop
/-! Steps that only the proof takes: freezing, naming, nil rows as rows; loops over such states. -/
set_option linter.unusedVariables false
set_option linter.unusedSimpArgs false
namespace Go.Sx
variable {P : Program} {n : Nat} {Q : Exit → AS → Prop}

/-- whatever meets σ meets τ -/
def Gh (n : Nat) (σ τ : AS) : Prop := ∀ κ M0 a w, St κ M0 n σ a w → St κ M0 n τ a w
theorem Gh.refl (σ : AS) : Gh n σ σ := fun _ _ _ _ h => h
theorem Gh.trans {σ τ ρ : AS} (h : Gh n σ τ) (k : Gh n τ ρ) : Gh n σ ρ := fun κ M0 a w s => k κ M0 a w (h κ M0 a w s)
theorem AWP.gh {c : Code} {σ τ : AS} (h : Gh n σ τ) (k : AWP P n c τ Q) : AWP P n c σ Q := fun κ M0 a w s => k κ M0 a w (h κ M0 a w s)
theorem Gh.forget {env τ : Env} {B : Bx} (hs : envSub env τ) : Gh n ⟨env, B⟩ ⟨τ, B⟩ := fun _ _ _ _ s => s.forget hs
theorem Gh.keep {env : Env} {B : Bx} (ds : List Nat) : Gh n ⟨env, B⟩ ⟨keepL env ds, B⟩ := by
  intro κ M0 a w s
  obtain ⟨M, ν, h1, h2, h3, h4, h5, h6⟩ := s
  exact ⟨M, ν, h1, h2, h3, fun d t e => h4 d t (keepL_lookup env d t ds e), h5, h6⟩
def bxSub (B : Bx) : Bx → Prop
  | [] => True
  | p :: B' => B.lookup p.1 = some p.2 ∧ bxSub B B'
theorem bxSub_spec {B : Bx} : ∀ {B' : Bx}, bxSub B B' → ∀ x ∈ B', x ∈ B
  | p :: B', h, x, hm => by
    rcases List.mem_cons.1 hm with rfl | hm
    · exact lookup_box h.1
    · exact bxSub_spec h.2 x hm
def noDup : List Nat → Bool
  | [] => true
  | k :: ks => ks.all (fun j => Bool.not (j == k)) && noDup ks
theorem noDup_spec : ∀ {l : List Nat}, noDup l = true → l.Nodup
  | [], _ => List.nodup_nil
  | k :: ks, h => by
    simp only [noDup, Bool.and_eq_true, List.all_eq_true] at h
    refine List.nodup_cons.2 ⟨fun hm => ?_, noDup_spec h.2⟩
    have := h.1 k hm
    simp at this
/-- boxes are let go of -/
theorem Gh.drop {env : Env} {B B' : Bx} (hs : bxSub B B') (hn : noDup (B'.map (·.1)) = true) : Gh n ⟨env, B⟩ ⟨env, B'⟩ := by
  intro κ M0 a w s
  obtain ⟨M, ν, h1, h2, h3, h4, h5, h6⟩ := s
  exact ⟨M, ν, h1, h2, h3, h4, h5.drop (bxSub_spec hs) (noDup_spec hn), h6⟩

/-! ### a new name for a box -/
def rnm (j k i : Nat) : Nat := bif i == j then k else i
def renE (j k : Nat) : Env → Env
  | [] => []
  | p :: env => (p.1, p.2.ren (rnm j k)) :: renE j k env
def renB (j k : Nat) : Bx → Bx
  | [] => []
  | p :: B => (rnm j k p.1, p.2.ren (rnm j k)) :: renB j k B

theorem renE_lookup {j k d : Nat} {t : T} : ∀ {env : Env}, (renE j k env).lookup d = some t → ∃ u, env.lookup d = some u ∧ t = u.ren (rnm j k)
  | [], h => by simp [renE] at h
  | p :: env, h => by
    obtain ⟨e, u⟩ := p
    simp only [renE, List.lookup_cons] at h ⊢
    cases hb : (d == e) with
    | true => rw [hb] at h; simp only [Option.some.injEq] at h; exact ⟨u, rfl, h.symm⟩
    | false => rw [hb] at h; exact renE_lookup h
theorem renB_mem {j k i : Nat} {r : Res} : ∀ {B : Bx}, (i, r) ∈ renB j k B → ∃ i0 r0, (i0, r0) ∈ B ∧ i = rnm j k i0 ∧ r = r0.ren (rnm j k)
  | p :: B, h => by
    simp only [renB] at h
    rcases List.mem_cons.1 h with h | h
    · cases h; exact ⟨p.1, p.2, by simp, rfl, rfl⟩
    · obtain ⟨i0, r0, hm, e1, e2⟩ := renB_mem h
      exact ⟨i0, r0, List.mem_cons_of_mem _ hm, e1, e2⟩
theorem renB_keys {j k : Nat} : ∀ {B : Bx}, (renB j k B).map (·.1) = (B.map (·.1)).map (rnm j k)
  | [] => rfl
  | p :: B => by simp only [renB, List.map_cons, renB_keys]

theorem nodup_map_inj {f : Nat → Nat} : ∀ {l : List Nat}, l.Nodup → (∀ x ∈ l, ∀ y ∈ l, f x = f y → x = y) → (l.map f).Nodup
  | [], _, _ => by simp
  | a :: l, hn, hf => by
    simp only [List.nodup_cons] at hn
    simp only [List.map_cons, List.nodup_cons]
    refine ⟨fun hm => ?_, nodup_map_inj hn.2 fun x hx y hy => hf x (List.mem_cons_of_mem _ hx) y (List.mem_cons_of_mem _ hy)⟩
    obtain ⟨x, hx, e⟩ := List.mem_map.1 hm
    have := hf x (List.mem_cons_of_mem _ hx) a (by simp) e
    subst this
    exact hn.1 hx

theorem Res.ok_ren_gen {M : Mem} {ν : Nu} {w : World} {ρ : Nat → Nat} {k : Nat} : ∀ {r : Res}, (r.ren ρ).ok M ν w (ρ k) ↔ r.ok M (fun i => ν (ρ i)) w k
  | .cells cs => by
    simp only [Res.ren, Res.ok]
    constructor
    · rintro ⟨b, c, et, h1, h2, h3⟩; exact ⟨b, c, et, h1, h2, (Cell.reps_ren cs _).1 h3⟩
    · rintro ⟨b, c, et, h1, h2, h3⟩; exact ⟨b, c, et, h1, h2, (Cell.reps_ren cs _).2 h3⟩
  | .row sz rows => by simp only [Res.ren, Res.ok]

theorem Gh.rename {env : Env} {B : Bx} (j k : Nat) (hj : lowN j = true) (hk : lowN k = true) (hf : Env.fresh k env = true) (hfB : Bx.fresh k B = true) : Gh n ⟨env, B⟩ ⟨renE j k env, renB j k B⟩ := by
  intro κ M0 a w s
  have hj := lowN_spec hj
  have hk := lowN_spec hk
  obtain ⟨M, ν, h1, h2, h3, h4, h5, h6⟩ := s
  have agree : ∀ i, i ≠ k → ν.set k (ν j) (rnm j k i) = ν i := by
    intro i hi
    unfold rnm
    cases hb : (i == j) with
    | true => have : i = j := by simpa using hb
              subst this; simp [Nu.set_self]
    | false => simp only [cond_false]; exact Nu.set_other i hi
  have keyne : ∀ i r, (i, r) ∈ B → i ≠ k := fun i r hm => (Bx.fresh_spec hfB hm).1
  refine ⟨M, ν.set k (ν j), h1, h2, h3, ?_, ⟨h5.os, h5.tape, h5.output, h5.dr, h5.size, h5.unch, h5.fro, ?_, ?_, ?_, ?_⟩, ?_⟩
  · intro d t e
    obtain ⟨u, hu, rfl⟩ := renE_lookup e
    exact (T.rep_ren u _).2 (T.rep_fresh agree u _ (Env.fresh_spec hf (lookup_mem hu)) (h4 d u hu))
  · intro i r hm
    obtain ⟨i0, r0, hm0, rfl, rfl⟩ := renB_mem hm
    exact Res.ok_ren_gen.2 (Res.ok_fresh agree (keyne i0 r0 hm0) (Bx.fresh_spec hfB hm0).2 (h5.res i0 r0 hm0))
  · intro i r b hm hb
    obtain ⟨i0, r0, hm0, rfl, rfl⟩ := renB_mem hm
    rw [agree i0 (keyne i0 r0 hm0)] at hb
    obtain ⟨g1, g2⟩ := h5.away i0 r0 b hm0 hb
    refine ⟨g1, g2.imp id fun g => ⟨?_, g.2⟩⟩
    unfold rnm
    cases hbj : (i0 == j) with
    | true => have : i0 = j := by simpa using hbj
              have := g.1; omega
    | false => exact g.1
  · intro i r i' r' b hm hm' hb hb'
    obtain ⟨i0, r0, hm0, rfl, rfl⟩ := renB_mem hm
    obtain ⟨i1, r1, hm1, rfl, rfl⟩ := renB_mem hm'
    rw [agree i0 (keyne i0 r0 hm0)] at hb
    rw [agree i1 (keyne i1 r1 hm1)] at hb'
    rw [h5.inj i0 r0 i1 r1 b hm0 hm1 hb hb']
  · rw [renB_keys]
    refine nodup_map_inj h5.nodup fun x hx y hy e => ?_
    obtain ⟨p, hp, rfl⟩ := List.mem_map.1 hx
    obtain ⟨q, hq, rfl⟩ := List.mem_map.1 hy
    have hpk := keyne p.1 p.2 hp
    have hqk := keyne q.1 q.2 hq
    unfold rnm at e
    cases hb : (p.1 == j) with
    | true =>
      cases hc : (q.1 == j) with
      | true => have h1 : p.1 = j := by simpa using hb
                have h2 : q.1 = j := by simpa using hc
                rw [h1, h2]
      | false => rw [hb, hc] at e; exact absurd e.symm hqk
    | false =>
      cases hc : (q.1 == j) with
      | true => rw [hb, hc] at e; exact absurd e hpk
      | false => rw [hb, hc] at e; exact e
  · intro i hi
    rw [Nu.set_other i (by omega)]; exact h6 i hi

/-! ### freezing -/
def frE (k sz : Nat) (rows : List (List C)) : Env → Env
  | [] => []
  | p :: env => (p.1, p.2.fr k sz rows) :: frE k sz rows env
def Env.frOk (k len : Nat) : Env → Prop
  | [] => True
  | p :: env => p.2.frOk k len ∧ Env.frOk k len env
def frB (k sz : Nat) (rows : List (List C)) : Bx → Bx
  | [] => []
  | p :: B => (match p.2 with
    | .cells cs => (p.1, .cells (Cell.frs k sz rows cs))
    | r => (p.1, r)) :: frB k sz rows B
def Bx.frOk (k len : Nat) : Bx → Prop
  | [] => True
  | p :: B => (match p.2 with
    | .cells cs => Cell.frOks k len cs
    | _ => True) ∧ Bx.frOk k len B
theorem frE_lookup {k sz len d : Nat} {rows : List (List C)} {t : T} : ∀ {env : Env}, Env.frOk k len env → (frE k sz rows env).lookup d = some t → ∃ u, env.lookup d = some u ∧ t = u.fr k sz rows ∧ u.frOk k len
  | [], _, h => by simp [frE] at h
  | p :: env, ho, h => by
    obtain ⟨e, u⟩ := p
    simp only [Env.frOk] at ho
    simp only [frE, List.lookup_cons] at h ⊢
    cases hb : (d == e) with
    | true => rw [hb] at h; simp only [Option.some.injEq] at h; exact ⟨u, rfl, h.symm, ho.1⟩
    | false => rw [hb] at h; exact frE_lookup ho.2 h
theorem frB_mem {k sz len i : Nat} {rows : List (List C)} {r : Res} : ∀ {B : Bx}, Bx.frOk k len B → (i, r) ∈ frB k sz rows B → ∃ r0, (i, r0) ∈ B ∧ ((r = r0 ∧ ∀ cs, r0 ≠ .cells cs) ∨ ∃ cs, r0 = .cells cs ∧ r = .cells (Cell.frs k sz rows cs) ∧ Cell.frOks k len cs)
  | p :: B, ho, h => by
    obtain ⟨i', r'⟩ := p
    simp only [Bx.frOk] at ho
    simp only [frB] at h
    rcases List.mem_cons.1 h with h | h
    · cases r' with
      | cells cs => cases h; exact ⟨.cells cs, by simp, .inr ⟨cs, rfl, rfl, ho.1⟩⟩
      | row s rs => cases h; exact ⟨.row s rs, by simp, .inl ⟨rfl, by intro cs; simp⟩⟩
    · obtain ⟨r0, hm, h⟩ := frB_mem ho.2 h
      exact ⟨r0, List.mem_cons_of_mem _ hm, h⟩
theorem frB_keys {k sz : Nat} {rows : List (List C)} : ∀ {B : Bx}, (frB k sz rows B).map (·.1) = B.map (·.1)
  | [] => rfl
  | (i, .cells cs) :: B => by simp only [frB, List.map_cons, frB_keys]
  | (i, .row s rs) :: B => by simp only [frB, List.map_cons, frB_keys]

theorem Bx.frOk_drop {k j len : Nat} : ∀ {B : Bx}, Bx.frOk k len B → Bx.frOk k len (Bx.drop j B)
  | [], _ => trivial
  | p :: B, h => by
    simp only [Bx.frOk] at h
    unfold Bx.drop
    cases hp : (p.1 == j) with
    | true => exact h.2
    | false => exact ⟨h.1, Bx.frOk_drop h.2⟩

theorem Gh.freeze {env : Env} {B : Bx} (k : Nat) {sz : Nat} {rows : List (List C)} (hb : B.lookup k = some (.row sz rows)) (hlow : lowN k = true) (hE : Env.frOk k rows.length env) (hB : Bx.frOk k rows.length B) :
    Gh n ⟨env, B⟩ ⟨frE k sz rows env, frB k sz rows (Bx.drop k B)⟩ := by
  intro κ M0 a w s
  obtain ⟨M, ν, h1, h2, h3, h4, h5, h6⟩ := s
  obtain ⟨M', g1, g2, g3⟩ := h5.freeze (lookup_box hb) (lowN_spec hlow)
  have hB' := Bx.frOk_drop (j := k) hB
  refine ⟨M', ν, h1.trans g1, h2, h3, ?_, ⟨g2.os, g2.tape, g2.output, g2.dr, g2.size, g2.unch, g2.fro, ?_, ?_, ?_, by rw [frB_keys]; exact g2.nodup⟩, h6⟩
  · intro d t e
    obtain ⟨u, hu, rfl, hok⟩ := frE_lookup hE e
    exact T.rep_fr g3 u _ hok (h4 d u hu)
  · intro i r hm
    obtain ⟨r0, hm0, ⟨rfl, _⟩ | ⟨cs, rfl, rfl, hok⟩⟩ := frB_mem hB' hm
    · exact g2.res i r hm0
    · have h0 := h5.res i _ (Bx.mem_drop h5.nodup hm0).1
      simp only [Res.ok] at h0 ⊢
      obtain ⟨b, c, et, e1, e2, e3⟩ := h0
      exact ⟨b, c, et, e1, e2, Cell.reps_fr g3 cs _ hok e3⟩
  · intro i r b hm hb
    obtain ⟨r0, hm0, _⟩ := frB_mem hB' hm
    exact g2.away i r0 b hm0 hb
  · intro i r i' r' b hm hm' hb hb'
    obtain ⟨r0, hm0, _⟩ := frB_mem hB' hm
    obtain ⟨r1, hm1, _⟩ := frB_mem hB' hm'
    exact g2.inj i r0 i' r1 b hm0 hm1 hb hb'

/-! ### a nil slice read as a row of the call's own -/
theorem Sat.nilrow {κ : Kap} {M : Mem} {ν : Nu} {B : Bx} {w : World} (h : Sat κ M ν B w) (k sz : Nat) (hfB : Bx.fresh k B = true) : Sat κ M (ν.set k ⟨none, 0⟩) ((k, .row sz []) :: B) w := by
  refine ⟨h.os, h.tape, h.output, h.dr, h.size, h.unch, h.fro, ?_, ?_, ?_, ?_⟩
  · intro j r hm
    rcases List.mem_cons.1 hm with e | hm
    · cases e; simp only [Res.ok, Nu.set_self]; exact ⟨Nat.le_refl _, Nat.zero_le _, .inl (by simp)⟩
    · obtain ⟨hj, hc⟩ := Bx.fresh_spec hfB hm
      exact Res.ok_fresh Nu.set_other hj hc (h.res j r hm)
  · intro j r b hm hb
    rcases List.mem_cons.1 hm with e | hm
    · cases e; rw [Nu.set_self] at hb; cases hb
    · obtain ⟨hj, hc⟩ := Bx.fresh_spec hfB hm
      rw [Nu.set_other j hj] at hb
      exact h.away j r b hm hb
  · intro j r j' r' b hm hm' hb hb'
    rcases List.mem_cons.1 hm with e | hm <;> rcases List.mem_cons.1 hm' with e' | hm'
    · cases e; cases e'; rfl
    · cases e; rw [Nu.set_self] at hb; cases hb
    · cases e'; rw [Nu.set_self] at hb'; cases hb'
    · obtain ⟨hj, _⟩ := Bx.fresh_spec hfB hm
      obtain ⟨hj', _⟩ := Bx.fresh_spec hfB hm'
      rw [Nu.set_other j hj] at hb
      rw [Nu.set_other j' hj'] at hb'
      exact h.inj j r j' r' b hm hm' hb hb'
  · simp only [List.map_cons, List.nodup_cons]
    refine ⟨fun hm => ?_, h.nodup⟩
    obtain ⟨x, hx, e⟩ := List.mem_map.1 hm
    exact (Bx.fresh_spec (j := x.1) (r := x.2) hfB hx).1 e

/-- the temporary d holds a nil slice: from now on it is the row k -/
theorem Gh.nilrow {env : Env} {B : Bx} (d k : Nat) {sz : Nat} (hd : env.lookup d = some (.one (.dat (.nil sz)))) (hlow : lowN k = true) (hf : Env.fresh k env = true) (hfB : Bx.fresh k B = true) :
    Gh n ⟨env, B⟩ ⟨(d, .one (.own k 0)) :: env, (k, .row sz []) :: B⟩ := by
  intro κ M0 a w s
  obtain ⟨M, ν, h1, h2, h3, h4, h5, h6⟩ := s
  refine ⟨M, ν.set k ⟨none, 0⟩, h1, h2, h3, ?_, h5.nilrow k sz hfB, fun i hi => by rw [Nu.set_other i (by have := lowN_spec hlow; omega)]; exact h6 i hi⟩
  intro e t he
  simp only [List.lookup_cons] at he
  cases hb : (e == d) with
  | true =>
    rw [hb] at he
    have : e = d := by simpa using hb
    subst this
    simp only [Option.some.injEq] at he
    subst he
    have := h4 e _ hd
    simp only [T.rep, Cell.rep, C.rep, Nu.set_self] at this ⊢
    rw [this]; rfl
  | false =>
    rw [hb] at he
    exact (h4.fresh hf Nu.set_other) e t he

/-- the i-th cell of the box j holds a nil slice: from now on it is the row k -/
theorem Gh.nilcell {env : Env} {B : Bx} (j i k : Nat) {sz : Nat} {pre post : List Cell} {cs : List Cell} (hb : B.lookup j = some (.cells cs)) (hc : cutC i cs = some (pre, .dat (.nil sz) :: post)) (hlow : lowN k = true) (hf : Env.fresh k env = true) (hfB : Bx.fresh k B = true) :
    Gh n ⟨env, B⟩ ⟨env, (k, .row sz []) :: Bx.put j (.cells (pre ++ .own k 0 :: post)) B⟩ := by
  intro κ M0 a w s
  obtain ⟨M, ν, h1, h2, h3, h4, h5, h6⟩ := s
  have hs := h5.nilrow k sz hfB
  have hmem := lookup_box hb
  obtain ⟨e1, _⟩ := cutC_spec hc
  refine ⟨M, ν.set k ⟨none, 0⟩, h1, h2, h3, h4.fresh hf Nu.set_other, ?_, fun i hi => by rw [Nu.set_other i (by have := lowN_spec hlow; omega)]; exact h6 i hi⟩
  have hkeys : ∀ i r, (i, r) ∈ (k, Res.row sz []) :: Bx.put j (.cells (pre ++ .own k 0 :: post)) B → ∃ r0, (i, r0) ∈ (k, Res.row sz []) :: B := by
    intro i r hm
    rcases List.mem_cons.1 hm with e | hm
    · cases e; exact ⟨_, List.mem_cons_self ..⟩
    · rcases Bx.mem_put h5.nodup hm with e | ⟨hm, _⟩
      · cases e; exact ⟨_, List.mem_cons_of_mem _ hmem⟩
      · exact ⟨r, List.mem_cons_of_mem _ hm⟩
  refine ⟨hs.os, hs.tape, hs.output, hs.dr, hs.size, hs.unch, hs.fro, ?_, ?_, ?_, ?_⟩
  · intro i r hm
    rcases List.mem_cons.1 hm with e | hm
    · cases e; exact hs.res k _ (List.mem_cons_self ..)
    · rcases Bx.mem_put h5.nodup hm with e | ⟨hm, _⟩
      · cases e
        have h0 := hs.res j _ (List.mem_cons_of_mem _ hmem)
        simp only [Res.ok] at h0 ⊢
        obtain ⟨b, c, et, g1, g2, g3⟩ := h0
        refine ⟨b, c, et, g1, g2, ?_⟩
        rw [e1] at g3
        obtain ⟨u1, u2, eu, hu1, hu2⟩ := Cell.reps_split g3
        rw [eu]
        simp only [Cell.reps] at hu2
        obtain ⟨v, vs, ev, hv, hvs⟩ := hu2
        subst ev
        refine Cell.reps_append hu1 ?_
        simp only [Cell.reps]
        refine ⟨v, vs, rfl, ?_, hvs⟩
        simp only [Cell.rep, C.rep, Nu.set_self] at hv ⊢
        rw [hv]; rfl
      · exact hs.res i r (List.mem_cons_of_mem _ hm)
  · intro i r b hm hb
    obtain ⟨r0, hm0⟩ := hkeys i r hm
    exact hs.away i r0 b hm0 hb
  · intro i r i' r' b hm hm' hb hb'
    obtain ⟨r0, hm0⟩ := hkeys i r hm
    obtain ⟨r1, hm1⟩ := hkeys i' r' hm'
    exact hs.inj i r0 i' r1 b hm0 hm1 hb hb'
  · have := hs.nodup
    simp only [List.map_cons, Bx.put_keys] at this ⊢
    exact this

/-! ### loops -/
theorem AWP.loopG {c : Code} {σ : AS} (I : Nat → Env → Bx → Prop) (k₀ : Nat) (τ : AS) (hs : Gh n σ τ) (h₀ : I k₀ τ.env τ.B)
    (round : ∀ (k : Nat) (e : Env) (b : Bx), I k e b → AWP P n c ⟨e, b⟩ (Then (fun σ' => ∃ k' τ', k' < k ∧ Gh n σ' τ' ∧ I k' τ'.env τ'.B) Q)) : AWP P n (.loop c) σ Q := by
  refine AWP.gh hs ?_
  refine AWP.loop (fun k σ => I k σ.env σ.B) k₀ h₀ ?_
  intro k σ hI κ M0 a w s
  refine wp_mono (round k σ.env σ.B hI κ M0 a w s) ?_
  rintro e a' w' ⟨σ', s', q⟩
  cases e with
  | normal => obtain ⟨k', τ', h1, h2, h3⟩ := q; exact ⟨τ', h2 κ M0 a' w' s', k', h1, h3⟩
  | exit id => exact ⟨σ', s', q⟩
  | goto l => exact ⟨σ', s', q⟩
  | ret => exact ⟨σ', s', q⟩
  | panic ch => exact ⟨σ', s', q⟩
  | outgrown => exact ⟨σ', s', q⟩
attribute [go_sem] rnm renE renB frE frB Env.frOk Bx.frOk bxSub noDup T.ren T.rens Cell.ren Cell.rens Res.ren
end Go.Sx
