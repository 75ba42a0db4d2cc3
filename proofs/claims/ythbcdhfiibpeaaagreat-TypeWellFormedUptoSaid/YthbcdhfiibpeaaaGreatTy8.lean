/- Lemmas of the proof. -/
import Derived.Test.YthbcdhfiibpeaaaGreatTy5
import Derived.Lib.SliceRun
set_option linter.unusedSimpArgs false
set_option linter.unusedVariables false
namespace Go.Sx
variable {P : Program} {n : Nat} {Q : Exit → AS → Prop}
def Gh (n : Nat) (σ τ : AS) : Prop := ∀ κ M0 a w, St κ M0 n σ a w → St κ M0 n τ a w
theorem Gh.refl (σ : AS) : Gh n σ σ := fun _ _ _ _ h => h
theorem Gh.trans {σ τ ρ : AS} (h : Gh n σ τ) (k : Gh n τ ρ) : Gh n σ ρ := fun κ M0 a w s => k κ M0 a w (h κ M0 a w s)
theorem AWP.gh {c : Code} {σ τ : AS} (h : Gh n σ τ) (k : AWP P n c τ Q) : AWP P n c σ Q := fun κ M0 a w s => k κ M0 a w (h κ M0 a w s)
theorem Gh.keep {env : Env} {B : Bx} (ds : List Nat) : Gh n ⟨env, B⟩ ⟨keepL env ds, B⟩ := by
  intro κ M0 a w s
  obtain ⟨M, ν, h1, h2, h3, h4, h5, h6⟩ := s
  exact ⟨M, ν, h1, h2, h3, fun d t e => h4 d t (keepL_lookup env d t ds e), h5, h6⟩
def noDup : List Nat → Bool
  | [] => true
  | k :: ks => ks.all (fun j => Bool.not (j == k)) && noDup ks
theorem noDup_spec : ∀ {l : List Nat}, noDup l = true → l.Nodup
 | [], _ => List.nodup_nil
 | k :: ks, h => by
  simp only [noDup, Bool.and_eq_true, List.all_eq_true] at h
  refine List.nodup_cons.2 ⟨fun hm => ?_, noDup_spec h.2⟩
  have := h.1 k hm
  simp at this
theorem Gh.drop {env : Env} {B B' : Bx} (hs : bxSub B B') (hn : noDup (B'.map (·.1)) = true) : Gh n ⟨env, B⟩ ⟨env, B'⟩ := by
  intro κ M0 a w s
  obtain ⟨M, ν, h1, h2, h3, h4, h5, h6⟩ := s
  exact ⟨M, ν, h1, h2, h3, h4, h5.drop (bxSub_spec hs) (noDup_spec hn), h6⟩
def rnm (j k i : Nat) : Nat := bif i == j then k else i
def renE (j k : Nat) : Env → Env
  | [] => []
  | p :: env => (p.1, p.2.ren (rnm j k)) :: renE j k env
def renB (j k : Nat) : Bx → Bx
  | [] => []
  | p :: B => (rnm j k p.1, p.2.ren (rnm j k)) :: renB j k B
theorem renE_lookup {j k d : Nat} {t : T} : ∀ {env : Env}, (renE j k env).lookup d = some t → ∃ u, env.lookup d = some u ∧ t = u.ren (rnm j k)
 | [], h => by simp [renE] at h
 | p :: env, h => by
  obtain ⟨e, u⟩ := p
  simp only [renE, List.lookup_cons] at h ⊢
  cases hb : (d == e) with
  | true => rw [hb] at h; simp only [Option.some.injEq] at h; exact ⟨u, rfl, h.symm⟩
  | false => rw [hb] at h; exact renE_lookup h
theorem renB_mem {j k i : Nat} {r : Res} : ∀ {B : Bx}, (i, r) ∈ renB j k B → ∃ i0 r0, (i0, r0) ∈ B ∧ i = rnm j k i0 ∧ r = r0.ren (rnm j k)
 | p :: B, h => by
  simp only [renB] at h
  rcases List.mem_cons.1 h with h | h
  ·cases h; exact ⟨p.1, p.2, by simp, rfl, rfl⟩
  ·obtain ⟨i0, r0, hm, e1, e2⟩ := renB_mem h
   exact ⟨i0, r0, List.mem_cons_of_mem _ hm, e1, e2⟩
theorem renB_keys {j k : Nat} : ∀ {B : Bx}, (renB j k B).map (·.1) = (B.map (·.1)).map (rnm j k)
  | [] => rfl
  | p :: B => by simp only [renB, List.map_cons, renB_keys]
theorem nodup_map_inj {f : Nat → Nat} : ∀ {l : List Nat}, l.Nodup → (∀ x ∈ l, ∀ y ∈ l, f x = f y → x = y) → (l.map f).Nodup
 | [], _, _ => by simp
 | a :: l, hn, hf => by
  simp only [List.nodup_cons] at hn
  simp only [List.map_cons, List.nodup_cons]
  refine ⟨fun hm => ?_, nodup_map_inj hn.2 fun x hx y hy => hf x (List.mem_cons_of_mem _ hx) y (List.mem_cons_of_mem _ hy)⟩
  obtain ⟨x, hx, e⟩ := List.mem_map.1 hm
  have := hf x (List.mem_cons_of_mem _ hx) a (by simp) e
  subst this
  exact hn.1 hx
theorem Res.ok_ren_gen {M : Mem} {ν : Nu} {w : World} {ρ : Nat → Nat} {k : Nat} : ∀ {r : Res}, (r.ren ρ).ok M ν w (ρ k) ↔ r.ok M (fun i => ν (ρ i)) w k
 | .cells cs => by
  simp only [Res.ren, Res.ok]
  constructor
  ·rintro ⟨b, c, et, h1, h2, h3⟩; exact ⟨b, c, et, h1, h2, (Cell.reps_ren cs _).1 h3⟩
  ·rintro ⟨b, c, et, h1, h2, h3⟩; exact ⟨b, c, et, h1, h2, (Cell.reps_ren cs _).2 h3⟩
 | .row sz rows => by simp only [Res.ren, Res.ok]
 | .mp ag es => by simp only [Res.ren, Res.ok]
theorem Gh.rename {env : Env} {B : Bx} (j k : Nat) (hj : lowN j = true) (hk : lowN k = true) (hf : Env.fresh k env = true) (hfB : Bx.fresh k B = true) : Gh n ⟨env, B⟩ ⟨renE j k env, renB j k B⟩ := by
  intro κ M0 a w s
  have hj := lowN_spec hj
  have hk := lowN_spec hk
  obtain ⟨M, ν, h1, h2, h3, h4, h5, h6⟩ := s
  have agree : ∀ i, i ≠ k → ν.set k (ν j) (rnm j k i) = ν i := by
    intro i hi
    unfold rnm
    cases hb : (i == j) with
    | true => have : i = j := by simpa using hb
              subst this; simp [Nu.set_self]
    | false => simp only [cond_false]; exact Nu.set_other i hi
  have keyne : ∀ i r, (i, r) ∈ B → i ≠ k := fun i r hm => (Bx.fresh_spec hfB hm).1
  refine ⟨M, ν.set k (ν j), h1, h2, h3, ?_, ⟨h5.os, h5.tape, h5.output, Nat.zero_le _, h5.size, h5.unch, h5.fro, ?_, ?_, ?_, ?_⟩, ?_⟩
  · intro d t e
    obtain ⟨u, hu, rfl⟩ := renE_lookup e
    exact (T.rep_ren u _).2 (T.rep_fresh agree u _ (Env.fresh_spec hf (lookup_mem hu)) (h4 d u hu))
  · intro i r hm
    obtain ⟨i0, r0, hm0, rfl, rfl⟩ := renB_mem hm
    exact Res.ok_ren_gen.2 (Res.ok_fresh agree (keyne i0 r0 hm0) (Bx.fresh_spec hfB hm0).2 (h5.res i0 r0 hm0))
  · intro i r b hm hb
    obtain ⟨i0, r0, hm0, rfl, rfl⟩ := renB_mem hm
    rw [agree i0 (keyne i0 r0 hm0)] at hb
    obtain ⟨g1, g2⟩ := h5.away i0 r0 b hm0 hb
    exact ⟨g1, g2⟩
  · intro i r i' r' b hm hm' hb hb'
    obtain ⟨i0, r0, hm0, rfl, rfl⟩ := renB_mem hm
    obtain ⟨i1, r1, hm1, rfl, rfl⟩ := renB_mem hm'
    rw [agree i0 (keyne i0 r0 hm0)] at hb
    rw [agree i1 (keyne i1 r1 hm1)] at hb'
    rw [h5.inj i0 r0 i1 r1 b hm0 hm1 hb hb']
  · rw [renB_keys]
    refine nodup_map_inj h5.nodup fun x hx y hy e => ?_
    obtain ⟨p, hp, rfl⟩ := List.mem_map.1 hx
    obtain ⟨q, hq, rfl⟩ := List.mem_map.1 hy
    have hpk := keyne p.1 p.2 hp
    have hqk := keyne q.1 q.2 hq
    unfold rnm at e
    cases hb : (p.1 == j) with
    | true =>
      cases hc : (q.1 == j) with
      | true => have h1 : p.1 = j := by simpa using hb
                have h2 : q.1 = j := by simpa using hc
                rw [h1, h2]
      | false => rw [hb, hc] at e; exact absurd e.symm hqk
    | false =>
      cases hc : (q.1 == j) with
      | true => rw [hb, hc] at e; exact absurd e hpk
      | false => rw [hb, hc] at e; exact e
  · intro i hi
    rw [Nu.set_other i (by omega)]; exact h6 i hi
def frE (k sz : Nat) (rows : List (List C)) : Env → Env
  | [] => []
  | p :: env => (p.1, p.2.fr k sz rows) :: frE k sz rows env
def Env.frOk (k len : Nat) : Env → Prop
  | [] => True
  | p :: env => p.2.frOk k len ∧ Env.frOk k len env
def frB (k sz : Nat) (rows : List (List C)) : Bx → Bx
 | [] => []
 | p :: B => (match p.2 with
  | .cells cs => (p.1, .cells (Cell.frs k sz rows cs))
  | r => (p.1, r)) :: frB k sz rows B
def Bx.frOk (k len : Nat) : Bx → Prop
 | [] => True
 | p :: B => (match p.2 with
  | .cells cs => Cell.frOks k len cs
  | _ => True) ∧ Bx.frOk k len B
theorem frE_lookup {k sz len d : Nat} {rows : List (List C)} {t : T} : ∀ {env : Env}, Env.frOk k len env → (frE k sz rows env).lookup d = some t → ∃ u, env.lookup d = some u ∧ t = u.fr k sz rows ∧ u.frOk k len
 | [], _, h => by simp [frE] at h
 | p :: env, ho, h => by
  obtain ⟨e, u⟩ := p
  simp only [Env.frOk] at ho
  simp only [frE, List.lookup_cons] at h ⊢
  cases hb : (d == e) with
  | true => rw [hb] at h; simp only [Option.some.injEq] at h; exact ⟨u, rfl, h.symm, ho.1⟩
  | false => rw [hb] at h; exact frE_lookup ho.2 h
theorem frB_mem {k sz len i : Nat} {rows : List (List C)} {r : Res} : ∀ {B : Bx}, Bx.frOk k len B → (i, r) ∈ frB k sz rows B → ∃ r0, (i, r0) ∈ B ∧ ((r = r0 ∧ ∀ cs, r0 ≠ .cells cs) ∨ ∃ cs, r0 = .cells cs ∧ r = .cells (Cell.frs k sz rows cs) ∧ Cell.frOks k len cs)
 | p :: B, ho, h => by
  obtain ⟨i', r'⟩ := p
  simp only [Bx.frOk] at ho
  simp only [frB] at h
  rcases List.mem_cons.1 h with h | h
  ·cases r' with
   | cells cs => cases h; exact ⟨.cells cs, by simp, .inr ⟨cs, rfl, rfl, ho.1⟩⟩
   | row s rs => cases h; exact ⟨.row s rs, by simp, .inl ⟨rfl, by intro cs; simp⟩⟩
   | mp ag es => cases h; exact ⟨.mp ag es, by simp, .inl ⟨rfl, by intro cs; simp⟩⟩
  ·obtain ⟨r0, hm, h⟩ := frB_mem ho.2 h
   exact ⟨r0, List.mem_cons_of_mem _ hm, h⟩
theorem frB_keys {k sz : Nat} {rows : List (List C)} : ∀ {B : Bx}, (frB k sz rows B).map (·.1) = B.map (·.1)
  | [] => rfl
  | (i, .cells cs) :: B => by simp only [frB, List.map_cons, frB_keys]
  | (i, .row s rs) :: B => by simp only [frB, List.map_cons, frB_keys]
  | (i, .mp s rs) :: B => by simp only [frB, List.map_cons, frB_keys]
theorem Bx.frOk_drop {k j len : Nat} : ∀ {B : Bx}, Bx.frOk k len B → Bx.frOk k len (Bx.drop j B)
 | [], _ => trivial
 | p :: B, h => by
  simp only [Bx.frOk] at h
  unfold Bx.drop
  cases hp : (p.1 == j) with
  | true => exact h.2
  | false => exact ⟨h.1, Bx.frOk_drop h.2⟩
theorem Gh.freeze {env : Env} {B : Bx} (k : Nat) {sz : Nat} {rows : List (List C)} (hb : B.lookup k = some (.row sz rows)) (hlow : lowN k = true) (hE : Env.frOk k rows.length env) (hB : Bx.frOk k rows.length B) :
  Gh n ⟨env, B⟩ ⟨frE k sz rows env, frB k sz rows (Bx.drop k B)⟩ := by
 intro κ M0 a w s
 obtain ⟨M, ν, h1, h2, h3, h4, h5, h6⟩ := s
 obtain ⟨M', g1, g2, g3⟩ := h5.freeze (lookup_box hb) (lowN_spec hlow)
 have hB' := Bx.frOk_drop (j := k) hB
 refine ⟨M', ν, h1.trans g1, h2, h3, ?_, ⟨g2.os, g2.tape, g2.output, Nat.zero_le _, g2.size, g2.unch, g2.fro, ?_, ?_, ?_, by rw [frB_keys]; exact g2.nodup⟩, h6⟩
 ·intro d t e
  obtain ⟨u, hu, rfl, hok⟩ := frE_lookup hE e
  exact T.rep_fr g3 u _ hok (h4 d u hu)
 ·intro i r hm
  obtain ⟨r0, hm0, ⟨rfl, _⟩ | ⟨cs, rfl, rfl, hok⟩⟩ := frB_mem hB' hm
  ·exact g2.res i r hm0
  ·have h0 := h5.res i _ (Bx.mem_drop h5.nodup hm0).1
   simp only [Res.ok] at h0 ⊢
   obtain ⟨b, c, et, e1, e2, e3⟩ := h0
   exact ⟨b, c, et, e1, e2, Cell.reps_fr g3 cs _ hok e3⟩
 ·intro i r b hm hb
  obtain ⟨r0, hm0, _⟩ := frB_mem hB' hm
  exact g2.away i r0 b hm0 hb
 ·intro i r i' r' b hm hm' hb hb'
  obtain ⟨r0, hm0, _⟩ := frB_mem hB' hm
  obtain ⟨r1, hm1, _⟩ := frB_mem hB' hm'
  exact g2.inj i r0 i' r1 b hm0 hm1 hb hb'
theorem Sat.nilrow {κ : Kap} {M : Mem} {ν : Nu} {B : Bx} {w : World} (h : Sat κ M ν B w) (k sz : Nat) (hfB : Bx.fresh k B = true) : Sat κ M (ν.set k ⟨none, 0⟩) ((k, .row sz []) :: B) w := by
 refine ⟨h.os, h.tape, h.output, Nat.zero_le _, h.size, h.unch, h.fro, ?_, ?_, ?_, ?_⟩
 ·intro j r hm
  rcases List.mem_cons.1 hm with e | hm
  ·cases e; simp only [Res.ok, Nu.set_self]; exact ⟨Nat.le_refl _, Nat.zero_le _, .inl (by simp)⟩
  ·obtain ⟨hj, hc⟩ := Bx.fresh_spec hfB hm
   exact Res.ok_fresh Nu.set_other hj hc (h.res j r hm)
 ·intro j r b hm hb
  rcases List.mem_cons.1 hm with e | hm
  ·cases e; rw [Nu.set_self] at hb; cases hb
  ·obtain ⟨hj, hc⟩ := Bx.fresh_spec hfB hm
   rw [Nu.set_other j hj] at hb
   exact h.away j r b hm hb
 ·intro j r j' r' b hm hm' hb hb'
  rcases List.mem_cons.1 hm with e | hm <;> rcases List.mem_cons.1 hm' with e' | hm'
  ·cases e; cases e'; rfl
  ·cases e; rw [Nu.set_self] at hb; cases hb
  ·cases e'; rw [Nu.set_self] at hb'; cases hb'
  ·obtain ⟨hj, _⟩ := Bx.fresh_spec hfB hm
   obtain ⟨hj', _⟩ := Bx.fresh_spec hfB hm'
   rw [Nu.set_other j hj] at hb
   rw [Nu.set_other j' hj'] at hb'
   exact h.inj j r j' r' b hm hm' hb hb'
 ·simp only [List.map_cons, List.nodup_cons]
  refine ⟨fun hm => ?_, h.nodup⟩
  obtain ⟨x, hx, e⟩ := List.mem_map.1 hm
  exact (Bx.fresh_spec (j := x.1) (r := x.2) hfB hx).1 e
theorem Gh.nilrow {env : Env} {B : Bx} (d k : Nat) {sz : Nat} (hd : env.lookup d = some (.one (.dat (.nil sz)))) (hlow : lowN k = true) (hf : Env.fresh k env = true) (hfB : Bx.fresh k B = true) :
  Gh n ⟨env, B⟩ ⟨(d, .one (.own k 0)) :: env, (k, .row sz []) :: B⟩ := by
 intro κ M0 a w s
 obtain ⟨M, ν, h1, h2, h3, h4, h5, h6⟩ := s
 refine ⟨M, ν.set k ⟨none, 0⟩, h1, h2, h3, ?_, h5.nilrow k sz hfB, fun i hi => by rw [Nu.set_other i (by have := lowN_spec hlow; omega)]; exact h6 i hi⟩
 intro e t he
 simp only [List.lookup_cons] at he
 cases hb : (e == d) with
 | true =>
  rw [hb] at he
  have : e = d := by simpa using hb
  subst this
  simp only [Option.some.injEq] at he
  subst he
  have := h4 e _ hd
  simp only [T.rep, Cell.rep, C.rep, Nu.set_self] at this ⊢
  rw [this]; rfl
 | false =>
  rw [hb] at he
  exact (h4.fresh hf Nu.set_other) e t he
theorem Gh.nilcell {env : Env} {B : Bx} (j i k : Nat) {sz : Nat} {pre post : List Cell} {cs : List Cell} (hb : B.lookup j = some (.cells cs)) (hc : cutC i cs = some (pre, .dat (.nil sz) :: post)) (hlow : lowN k = true) (hf : Env.fresh k env = true) (hfB : Bx.fresh k B = true) :
  Gh n ⟨env, B⟩ ⟨env, (k, .row sz []) :: Bx.put j (.cells (pre ++ .own k 0 :: post)) B⟩ := by
 intro κ M0 a w s
 obtain ⟨M, ν, h1, h2, h3, h4, h5, h6⟩ := s
 have hs := h5.nilrow k sz hfB
 have hmem := lookup_box hb
 obtain ⟨e1, _⟩ := cutC_spec hc
 refine ⟨M, ν.set k ⟨none, 0⟩, h1, h2, h3, h4.fresh hf Nu.set_other, ?_, fun i hi => by rw [Nu.set_other i (by have := lowN_spec hlow; omega)]; exact h6 i hi⟩
 have hkeys : ∀ i r, (i, r) ∈ (k, Res.row sz []) :: Bx.put j (.cells (pre ++ .own k 0 :: post)) B → ∃ r0, (i, r0) ∈ (k, Res.row sz []) :: B := by
  intro i r hm
  rcases List.mem_cons.1 hm with e | hm
  ·cases e; exact ⟨_, List.mem_cons_self ..⟩
  ·rcases Bx.mem_put h5.nodup hm with e | ⟨hm, _⟩
   ·cases e; exact ⟨_, List.mem_cons_of_mem _ hmem⟩
   ·exact ⟨r, List.mem_cons_of_mem _ hm⟩
 refine ⟨hs.os, hs.tape, hs.output, Nat.zero_le _, hs.size, hs.unch, hs.fro, ?_, ?_, ?_, ?_⟩
 ·intro i r hm
  rcases List.mem_cons.1 hm with e | hm
  ·cases e; exact hs.res k _ (List.mem_cons_self ..)
  ·rcases Bx.mem_put h5.nodup hm with e | ⟨hm, _⟩
   ·cases e
    have h0 := hs.res j _ (List.mem_cons_of_mem _ hmem)
    simp only [Res.ok] at h0 ⊢
    obtain ⟨b, c, et, g1, g2, g3⟩ := h0
    refine ⟨b, c, et, g1, g2, ?_⟩
    rw [e1] at g3
    obtain ⟨u1, u2, eu, hu1, hu2⟩ := Cell.reps_split g3
    rw [eu]
    simp only [Cell.reps] at hu2
    obtain ⟨v, vs, ev, hv, hvs⟩ := hu2
    subst ev
    refine Cell.reps_append hu1 ?_
    simp only [Cell.reps]
    refine ⟨v, vs, rfl, ?_, hvs⟩
    simp only [Cell.rep, C.rep, Nu.set_self] at hv ⊢
    rw [hv]; rfl
   ·exact hs.res i r (List.mem_cons_of_mem _ hm)
 ·intro i r b hm hb
  obtain ⟨r0, hm0⟩ := hkeys i r hm
  exact hs.away i r0 b hm0 hb
 ·intro i r i' r' b hm hm' hb hb'
  obtain ⟨r0, hm0⟩ := hkeys i r hm
  obtain ⟨r1, hm1⟩ := hkeys i' r' hm'
  exact hs.inj i r0 i' r1 b hm0 hm1 hb hb'
 ·have := hs.nodup
  simp only [List.map_cons, Bx.put_keys] at this ⊢
  exact this
attribute [go_sem] rnm renE renB frE frB Env.frOk Bx.frOk bxSub noDup T.ren T.rens Cell.ren Cell.rens Res.ren
mutual
def Cell.frAOk (k len : Nat) : Cell → Prop
  | .arr j m => (j == k) = true → m = len
  | .clo _ caps => Cell.frAOks k len caps
  | _ => True
def Cell.frAOks (k len : Nat) : List Cell → Prop
  | [] => True
  | c :: cs => Cell.frAOk k len c ∧ Cell.frAOks k len cs
end
mutual
def Cell.frA (k sz : Nat) (rows : List (List C)) : Cell → Cell
  | .own j m => .own j m
  | .clo f caps => .clo f (Cell.frsA k sz rows caps)
  | .dat c => .dat c
  | .ptr j o => .ptr j o
  | .rp j s i f => .rp j s i f
  | .arr j m => bif j == k then .dat (.sl sz rows) else .arr j m
  | .ref r => .ref r
  | .mp j => .mp j
def Cell.frsA (k sz : Nat) (rows : List (List C)) : List Cell → List Cell
  | [] => []
  | c :: cs => Cell.frA k sz rows c :: Cell.frsA k sz rows cs
end
mutual
def T.frAOk (k len : Nat) : T → Prop
  | .one c => c.frAOk k len
  | .agg cs => Cell.frAOks k len cs
  | .tup ts => T.frAOks k len ts
  | _ => True
def T.frAOks (k len : Nat) : List T → Prop
  | [] => True
  | t :: ts => T.frAOk k len t ∧ T.frAOks k len ts
end
mutual
def T.frA (k sz : Nat) (rows : List (List C)) : T → T
  | .one c => .one (c.frA k sz rows)
  | .agg cs => mkAgg (Cell.frsA k sz rows cs)
  | .tup ts => .tup (T.frsA k sz rows ts)
  | .st r => .st r
  | .un => .un
def T.frsA (k sz : Nat) (rows : List (List C)) : List T → List T
  | [] => []
  | t :: ts => T.frA k sz rows t :: T.frsA k sz rows ts
end
def frAE (k sz : Nat) (rows : List (List C)) : Env → Env
  | [] => []
  | p :: env => (p.1, p.2.frA k sz rows) :: frAE k sz rows env
def Env.frAOk (k len : Nat) : Env → Prop
  | [] => True
  | p :: env => p.2.frAOk k len ∧ Env.frAOk k len env
def frAB (k sz : Nat) (rows : List (List C)) : Bx → Bx
 | [] => []
 | p :: B => (match p.2 with
  | .cells cs => (p.1, .cells (Cell.frsA k sz rows cs))
  | r => (p.1, r)) :: frAB k sz rows B
def Bx.frAOk (k len : Nat) : Bx → Prop
 | [] => True
 | p :: B => (match p.2 with
  | .cells cs => Cell.frAOks k len cs
  | _ => True) ∧ Bx.frAOk k len B
attribute [go_sem] Cell.frAOk Cell.frAOks T.frAOk T.frAOks Cell.frA Cell.frsA T.frA T.frsA frAE frAB Env.frAOk Bx.frAOk
def rn : List (Nat × Nat) → Nat → Nat
  | [], i => i
  | p :: l, i => bif i == p.1 then p.2 else rn l i
def rnLow : List (Nat × Nat) → Bool
  | [] => true
  | p :: l => Nat.blt p.1 pin && (Nat.blt p.2 pin && rnLow l)
theorem rn_pin : ∀ {l : List (Nat × Nat)}, rnLow l = true → ∀ k, pin ≤ k → rn l k = k
 | [], _, k, _ => rfl
 | p :: l, h, k, hk => by
  simp only [rnLow, Bool.and_eq_true] at h
  have h1 : p.1 < pin := by simpa using h.1
  unfold rn
  have : (k == p.1) = false := by simp; omega
  rw [this]; exact rn_pin h.2.2 k hk
theorem rn_low : ∀ {l : List (Nat × Nat)}, rnLow l = true → ∀ k, k < pin → rn l k < pin
 | [], _, k, hk => hk
 | p :: l, h, k, hk => by
  simp only [rnLow, Bool.and_eq_true] at h
  have h2 : p.2 < pin := by simpa using h.2.1
  unfold rn
  cases (k == p.1)
  ·exact rn_low h.2.2 k hk
  ·exact h2
def wkE (l : List (Nat × Nat)) (env : Env) : Env → Prop
  | [] => True
  | p :: τ => env.lookup p.1 = some (p.2.ren (rn l)) ∧ wkE l env τ
def wkB (l : List (Nat × Nat)) (B : Bx) : Bx → Prop
  | [] => True
  | p :: τ => B.lookup (rn l p.1) = some (p.2.ren (rn l)) ∧ wkB l B τ
theorem wkE_spec {l : List (Nat × Nat)} {env : Env} : ∀ {τ : Env}, wkE l env τ → ∀ p ∈ τ, env.lookup p.1 = some (p.2.ren (rn l))
 | q :: τ, h, p, hm => by
  rcases List.mem_cons.1 hm with rfl | hm
  ·exact h.1
  ·exact wkE_spec h.2 p hm
theorem wkB_spec {l : List (Nat × Nat)} {B : Bx} : ∀ {τ : Bx}, wkB l B τ → ∀ p ∈ τ, (rn l p.1, p.2.ren (rn l)) ∈ B
 | q :: τ, h, p, hm => by
  rcases List.mem_cons.1 hm with rfl | hm
  ·exact lookup_box h.1
  ·exact wkB_spec h.2 p hm
theorem Gh.to {env : Env} {B : Bx} (l : List (Nat × Nat)) {τ : AS} (h1 : wkE l env τ.env) (h2 : wkB l B τ.B) (h3 : noDup (τ.B.map fun p => rn l p.1) = true) (h4 : noDup (τ.B.map (·.1)) = true) (h5 : rnLow l = true) : Gh n ⟨env, B⟩ τ := by
  intro κ M0 a w s
  exact s.weak (ρ := rn l) ⟨wkE_spec h1, wkB_spec h2, noDup_spec h3, noDup_spec h4, rn_pin h5, rn_low h5⟩
theorem AWP.loopS {c : Code} {σ : AS} {X : Type} (env : X → Env) (box : X → Bx) (ok : X → Prop) (meas : X → Nat) (x₀ : X) (hs : Gh n σ ⟨env x₀, box x₀⟩) (h₀ : ok x₀)
  (round : ∀ x, ok x → AWP P n c ⟨env x, box x⟩ (Then (fun σ' => ∃ x', meas x' < meas x ∧ ok x' ∧ Gh n σ' ⟨env x', box x'⟩) Q)) : AWP P n (.loop c) σ Q := by
 refine AWP.gh hs ?_
 refine AWP.loop (fun k σ => ∃ x, σ = ⟨env x, box x⟩ ∧ ok x ∧ meas x = k) (meas x₀) ⟨x₀, rfl, h₀, rfl⟩ ?_
 rintro k _ ⟨x, rfl, hx, rfl⟩ κ M0 a w s
 refine wp_mono (round x hx κ M0 a w s) ?_
 rintro e a' w' ⟨σ', s', q⟩
 cases e with
 | normal => obtain ⟨x', h1, h2, h3⟩ := q; exact ⟨_, h3 κ M0 a' w' s', meas x', h1, x', rfl, h2, rfl⟩
 | exit id => exact ⟨σ', s', q⟩
 | goto l => exact ⟨σ', s', q⟩
 | ret => exact ⟨σ', s', q⟩
 | panic ch => exact ⟨σ', s', q⟩
 | outgrown => exact ⟨σ', s', q⟩
theorem PCBk.mk {f : FuncId} {args0 : List T} {res0 res0' : Res} {r0 : T} (k : Nat) (h : PCB P f args0 [(pin, res0)] r0 [(pin, res0')]) :
  PCBk P f (T.rens (fun _ => k) args0) k (res0.ren fun _ => k) (r0.ren fun _ => k) (res0'.ren fun _ => k) := ⟨_, _, _, _, h, rfl, rfl, rfl, rfl⟩
theorem PCBk.sorts {f : FuncId} {g : FuncId} {sz : Nat} {rows rows' : List (List C)} {m : Nat} (k : Nat) (h : PCB P f [.one (.own pin m), .one (.dat (.fn g))] [(pin, .row sz rows)] (.tup []) [(pin, .row sz rows')]) :
  PCBk P f [.one (.own k m), .one (.dat (.fn g))] k (.row sz rows) (.tup []) (.row sz rows') := PCBk.mk k h
def GhQ (n : Nat) (Q : Exit → AS → Prop) (e : Exit) (σ : AS) : Prop := ∃ τ, Gh n σ τ ∧ Q e τ
theorem AWP.ghQ {c : Code} {σ : AS} (h : AWP P n c σ (GhQ n Q)) : AWP P n c σ Q := by
  intro κ M0 a w s
  refine wp_mono (h κ M0 a w s) ?_
  rintro e a' w' ⟨σ', s', τ, g, q⟩
  exact ⟨τ, g κ M0 a' w' s', q⟩
theorem GhQ.step {Q : Exit → AS → Prop} {e : Exit} {σ τ : AS} (h : Gh n σ τ) (k : GhQ n Q e τ) : GhQ n Q e σ := by
  obtain ⟨ρ, h2, q⟩ := k
  exact ⟨ρ, h.trans h2, q⟩
theorem fin0 {A : Prop} {B : Bx} (h : A) : A ∧ ∀ x ∈ ([] : Bx), x ∈ B := ⟨h, fun _ h => by cases h⟩
theorem wrap_succ {k m : Nat} (h : k < m) (hm : m ≤ 9223372036854775807) : IntKind.i64.wrap ((k : Int) + 1) = ((k + 1 : Nat) : Int) := by rw [w64 (by omega)]; rfl
theorem at_lt {α : Type} {enc : α → List C} {l : List α} {k : Nat} (h : k < l.length) : ∃ d, l[k]? = some d ∧ (l.map enc)[k]? = some (enc d) ∧ decide ((k : Int) < (l.length : Int)) = true ∧ l.drop k = d :: l.drop (k + 1) :=
  ⟨l[k], by simp [h], by simp [h], by simpa using h, List.drop_eq_getElem_cons h⟩
theorem at_ge {α : Type} {l : List α} {k : Nat} (h : ¬ k < l.length) : decide ((k : Int) < (l.length : Int)) = false ∧ l.drop k = [] := ⟨by simpa using h, List.drop_eq_nil_of_le (by omega)⟩
@[go_sem] theorem frOks_map (k n : Nat) : ∀ r : List C, Cell.frOks k n (r.map .dat) = True
  | [] => by simp [Cell.frOks]
  | c :: r => by simp only [List.map_cons, Cell.frOks, Cell.frOk, frOks_map k n r, and_true]
@[go_sem] theorem frs_map (k sz : Nat) (rows : List (List C)) : ∀ r : List C, Cell.frs k sz rows (r.map .dat) = r.map .dat
  | [] => rfl
  | c :: r => by simp only [List.map_cons, Cell.frs, Cell.fr, frs_map k sz rows r]
@[go_sem] theorem rens_map (ρ : Nat → Nat) : ∀ r : List C, Cell.rens ρ (r.map .dat) = r.map .dat
  | [] => rfl
  | c :: r => by simp only [List.map_cons, Cell.rens, Cell.ren, rens_map ρ r]
@[go_sem] theorem frAOks_map (k n : Nat) : ∀ r : List C, Cell.frAOks k n (r.map .dat) = True
  | [] => by simp [Cell.frAOks]
  | c :: r => by simp only [List.map_cons, Cell.frAOks, Cell.frAOk, frAOks_map k n r, and_true]
@[go_sem] theorem frsA_map (k sz : Nat) (rows : List (List C)) : ∀ r : List C, Cell.frsA k sz rows (r.map .dat) = r.map .dat
  | [] => rfl
  | c :: r => by simp only [List.map_cons, Cell.frsA, Cell.frA, frsA_map k sz rows r]
attribute [go_sem] rn rnLow wkE wkB
end Go.Sx
namespace Go.Sx
variable {P : Program} {n : Nat}
theorem Gh.soft {env : Env} {B : Bx} (j : Nat) {cs : List Cell} (hb : B.lookup j = some (.cells cs)) : Gh n ⟨env, B⟩ ⟨env, Bx.put j (.cells (cs.map Cell.soft)) B⟩ := by
 intro κ M0 a w s
 obtain ⟨M, ν, h1, h2, h3, h4, h5, h6⟩ := s
 have hmem := lookup_box hb
 have hkeys : ∀ i r, (i, r) ∈ Bx.put j (.cells (cs.map Cell.soft)) B → ∃ r0, (i, r0) ∈ B := by
  intro i r hm
  rcases Bx.mem_put h5.nodup hm with e | ⟨hm, _⟩
  ·cases e; exact ⟨_, hmem⟩
  ·exact ⟨r, hm⟩
 refine ⟨M, ν, h1, h2, h3, h4, ⟨h5.os, h5.tape, h5.output, Nat.zero_le _, h5.size, h5.unch, h5.fro, ?_, ?_, ?_, ?_⟩, h6⟩
 ·intro i r hm
  rcases Bx.mem_put h5.nodup hm with e | ⟨hm, _⟩
  ·cases e
   have h0 := h5.res j _ hmem
   simp only [Res.ok] at h0 ⊢
   obtain ⟨b, c, et, g1, g2, g3⟩ := h0
   exact ⟨b, c, et, g1, g2, Cell.reps_soft g3⟩
  ·exact h5.res i r hm
 ·intro i r b hm hbk
  obtain ⟨r0, h0⟩ := hkeys i r hm
  exact h5.away i r0 b h0 hbk
 ·intro i r i' r' b hm hm' hbk hbk'
  obtain ⟨r0, h0⟩ := hkeys i r hm
  obtain ⟨r1, h1⟩ := hkeys i' r' hm'
  exact h5.inj i r0 i' r1 b h0 h1 hbk hbk'
 ·rw [Bx.put_keys]; exact h5.nodup
theorem AWP.nilR {Q : Exit → AS → Prop} {id d x b k : Nat} {ty t1 t2 : TypeId} {p1 p2 : String} {af1 af2 : Array Edge} {e : TypeId} {rows : List (List C)} {env : Env} {B : Bx} (hd : env.lookup d = some (.one (.dat (.sl k rows)))) (hx : x < n) (hb : b < n)
  (hty : P.underlying ty = some (.slice e)) (ht : rows = [] → Q .normal ⟨(b, Bo true) :: (x, .one (.dat (.sl k rows))) :: env, B⟩) (hf : Q .normal ⟨(b, Bo false) :: (x, .one (.dat (.sl k rows))) :: env, B⟩) :
  AWP P n (.region id #[⟨some x, .move (.tmp d), t1, p1, af1, none⟩, ⟨some b, .binOp .eql ty (.tmp x) (.const (.slice none 0 0)) ty, t2, p2, af2, none⟩] false) ⟨env, B⟩ Q := by
 intro κ M0 a w hs
 refine wp_region_lit (l := [_, _]) ?_
 obtain ⟨M, ν, h1, h2, h3, h4, h5, h6⟩ := hs
 have hv := h4 d _ hd
 simp only [T.rep, Cell.rep, C.rep] at hv
 obtain ⟨ad, cap, mid, ev, hc1, hc2, hc3, hc4⟩ := hv
 have hrep : (T.one (.dat (.sl k rows))).rep M ν (a.tmps.getD d undef) := h4 d _ hd
 have hst1 := put_St (t := .one (.dat (.sl k rows))) (v := a.eval (.tmp d)) (dst := some x) h1 h2 h3 h4 (Mem.ext.refl κ M) (by intro d' e'; cases e'; exact hx) hrep h5 h6
 unfold wpList
 rw [if_pos (by rfl)]
 left
 have er1 : (execOp a.eval ⟨some x, .move (.tmp d), t1, p1, af1, none⟩).run P w = .ok (.value (a.eval (.tmp d))) w := rfl
 unfold Oper.wp
 rw [er1]
 simp only [Oper.upon]
 unfold wpList
 rw [if_pos (by rfl)]
 left
 obtain ⟨a1, ea1⟩ : ∃ a1, a1 = a.put (some x) (a.eval (.tmp d)) := ⟨_, rfl⟩
 rw [← ea1] at hst1 ⊢
 obtain ⟨M1, ν1, g1, g2, g3, g4, g5, g6⟩ := hst1
 have hx1 := g4 x (.one (.dat (.sl k rows))) (by simp [AS.put])
 have hv := hx1
 simp only [T.rep, Cell.rep, C.rep] at hv
 obtain ⟨ad, cap, mid, ev, hc1, hc2, hc3, hc4⟩ := hv
 have ex : a1.eval (.tmp x) = .slice ad rows.length cap := ev
 have er2 : (execOp a1.eval ⟨some b, .binOp .eql ty (.tmp x) (.const (.slice none 0 0)) ty, t2, p2, af2, none⟩).run P w = .ok (.value (.bool ad.isNone)) w := by
  have hrun : (execOp a1.eval ⟨some b, .binOp .eql ty (.tmp x) (.const (.slice none 0 0)) ty, t2, p2, af2, none⟩).run P w = ((eqGuard .eql ty (.tmp x) (.const (.slice none 0 0)) (a1.eval (.tmp x)) (a1.eval (.const (.slice none 0 0)))).run P w).andThen fun _ w => ((binOp .eql ty (a1.eval (.tmp x)) (a1.eval (.const (.slice none 0 0)))).run P w).andThen fun v w => .ok (.value v) w := by
   unfold execOp
   simp only [Sem.run_bind, Sem.run_pure]
   cases (eqGuard .eql ty (.tmp x) (.const (.slice none 0 0)) (a1.eval (.tmp x)) (a1.eval (.const (.slice none 0 0)))).run P w <;> rfl
  rw [hrun, run_guard .eql ty _ _ w (by rw [ex]; simp) (by intro c; rw [ex]; simp), ex]
  have : a1.eval (.const (.slice none 0 0)) = .slice none 0 0 := rfl
  rw [this]
  simp only [Result.andThen_ok, Lib.run_eql_slice_nil w ty e ad _ _ _ _ hty]
 unfold Oper.wp
 rw [er2]
 simp only [Oper.upon]
 have hst2 := put_St (t := Bo ad.isNone) (v := .bool ad.isNone) (dst := some b) g1 g2 g3 g4 (Mem.ext.refl κ M1) (by intro d' e'; cases e'; exact hb) (rep_bool.2 rfl) g5 g6
 unfold wpList
 refine ⟨_, hst2, ?_⟩
 cases ad with
 | none =>
  refine ht ?_
  rcases hc4 with h | ⟨_, _, h, _⟩
  ·exact h
  ·cases h
 | some _ => exact hf
end Go.Sx
namespace Go.Sx
variable {P : Program} {n : Nat} {σ : AS} {Q : Exit → AS → Prop}
theorem gen_sound2 {κ : Kap} {M0 : Mem} {l : List Oper} {fx : Nat → Bx} {t : Nat → T} {b : Nat → Bx} {e : Nat → Bool} {jn : Nat → Option Nat} {env0 : Env} {Q' : Exit → Act → World → Prop}
  (hback : Back l) (hpairs : Pairs l) (hord : EffOrdG l e)
  (hs : ∀ i o, l[i]? = some o → OSpecG P n l (fx i) o (envA l t (fun _ => true) env0 i) (b i) (t i) (b (i + 1)) (e i) (jn i)) (hf : ∀ i m, i < l.length → m ≤ l.length → (∀ j, j < m → e j = true → depB l j i = false) → ∀ x ∈ fx i, x ∈ b m)
  (hfr : ∀ g k j, jn g = some j → g < k → k < l.length → (t k).fresh j = true ∨ depB l k g = true)
  (hQ : ∀ a w, St κ M0 n ⟨envA l t (fun _ => true) env0 l.length, b l.length⟩ a w → Q' .normal a w) :
  ∀ (fuel : Nat) (listed : Array Bool) (a : Act) (w : World), cnt l listed = fuel → Mid κ M0 n l t b e env0 listed a w →
   wpAny P .any l.toArray Q' fuel listed a w := by
 have hbc : ∀ i, i < l.length → e i = false → b (i + 1) = b i := by
  intro i hi he
  rcases (hs i l[i] (by simp [hi])).2 with ⟨_, ⟨_, _, _, h⟩ | ⟨h, _⟩ | ⟨_, h, _⟩⟩ | ⟨_, _, h, _⟩
  ·exact h
  ·rw [he] at h; cases h
  ·rw [he] at h; cases h
  ·exact h
 have done : ∀ (listed : Array Bool) (a : Act) (w : World), Mid κ M0 n l t b e env0 listed a w → (∀ i, i < l.length → listed.getD i false = true) → Q' .normal a w := by
  intro listed a w hm hall
  obtain ⟨M, ν, m, h1, h2, h3, h4, h5, h6, h7, h8⟩ := hm.st
  refine hQ a w ⟨M, ν, h1, h2, h3, ?_, ?_⟩
  ·intro d u hu
   refine h4 d u ?_
   rw [envA_same l t (xs listed) (fun _ => true) env0 d l.length (fun j o hj _ _ => hall j hj)]
   exact hu
  ·have : b l.length = b m := const_b hbc m l.length h5 (Nat.le_refl _) (fun j hj1 hj2 => by
    cases hj : e j with
    | false => rfl
    | true => have := (h6 j hj2 hj).1 (hall j hj2); omega)
   simp only [this]
   exact ⟨h7, h8⟩
 have hord' : ∀ listed : Array Bool, Closed l listed → ∀ i j, i < j → j < l.length → e i = true → e j = true → listed.getD j false = true → listed.getD i false = true := by
  intro listed hc i j hij hj hei hej hx
  exact dep_of (hord i j hij hj hei hej) (List.getElem?_eq_getElem hj) hc (fun e' he' hb' => hc j l[j] (List.getElem?_eq_getElem hj) hx e' he' hb')
 intro fuel
 induction fuel with
 | zero =>
  intro listed a w hfuel hm
  have hall := cnt_zero hfuel
  exact ⟨ready_none hm.size hall, done listed a w hm hall⟩
 | succ fuel ih =>
  intro listed a w hfuel hm
  refine ⟨fun hr => done listed a w hm (ready_least hback hm.size hr), fun i hi => ?_⟩
  obtain ⟨h0, oi, hoi, hall⟩ := mem_ready.1 hi
  have hil : i < l.length := by have := (Array.getElem?_eq_some_iff.1 hoi).1; simpa using this
  have hoi' : l[i]? = some oi := by simpa using hoi
  have hisz : i < listed.size := by rw [hm.size]; exact hil
  have hxi : listed.getD i false = false := by simp [hisz] at h0 ⊢; exact h0
  obtain ⟨M, ν, m, h1, h2, h3, h4, h5, h6, h7, h8⟩ := hm.st
  obtain ⟨hd, hspec⟩ := hs i oi hoi'
  have look : ∀ d, d ∈ oi.looksAt l.toArray → (envA l t (xs listed) env0 l.length).lookup d = (envA l t (fun _ => true) env0 i).lookup d := by
   intro d hdm
   rw [envA_skip l t (xs listed) env0 d i l.length (by omega) ?_, envA_same l t (xs listed) (fun _ => true) env0 d i ?_]
   ·intro j o hj ho hod
    rcases hpairs j i o oi hj ho hoi' with ⟨e', he', hb', hon⟩ | hap
    ·exact hon ▸ hall e' he' hb'
    ·exact absurd hdm ((Oper.apart_spec hap).1 d hod)
   ·intro j o hj hjl ho hod
    by_cases hji : i = j
    ·subst hji; exact hxi
    ·cases hxj : xs listed j with
     | false => rfl
     | true =>
      rcases hpairs i j oi o (by omega) hoi' ho with ⟨e', he', hb', hon⟩ | hap
      ·have := hm.closed j o ho hxj e' he' hb'
       rw [hon, hxi] at this; cases this
      ·exact absurd hdm ((Oper.apart_spec hap).2.2 d hod)
  have hclosed : Closed l (listed.setIfInBounds i true) := by
   intro j oj hj hx e' he' hb'
   by_cases hji : i = j
   ·subst hji
    rw [hoi'] at hj; cases hj
    exact getD_set_true (hall e' he' hb')
   ·rw [getD_set_ne false hji] at hx
    exact getD_set_true (hm.closed j oj hj hx e' he' hb')
  have hcount : cnt l (listed.setIfInBounds i true) = fuel := by
   have := cnt_set hm.size hil hxi; omega
  have after : ∀ (M' : Mem) (ν' : Nu) (v : Value) (w' : World) (m' : Nat), M.ext κ M' → EnvOk M ν' a.tmps (envA l t (xs listed) env0 l.length) → (t i).rep M' ν' v → m' ≤ l.length →
    (∀ j, j < l.length → e j = true → ((listed.setIfInBounds i true).getD j false = true ↔ j < m')) → Sat κ M' ν' (b m') w' → (∀ k, pin ≤ k → ν' k = κ.nu k) →
    Mid κ M0 n l t b e env0 (listed.setIfInBounds i true) (a.put oi.dst v) w' := by
   intro M' ν' v w' m' hle h4 hr hm' hem hsat hpin
   refine ⟨by simpa using hm.size, hclosed, M', ν', m', h1.trans hle, by rw [Act.put_size]; exact h2, by rw [Act.put_defers']; exact h3, ?_, hm', hem, hsat, hpin⟩
   have hput := EnvOk.put (df := a.defers) (h4.mono hle.1) (dst := oi.dst) (v := v) (t := t i) (fun d he => by rw [h2]; exact dstOk_spec hd d he) hr
   intro k u hu
   refine hput k u ?_
   rw [putE_lookup]
   by_cases hk : oi.dst = some k
   ·rw [if_pos hk]
    have e1 := envA_skip l t (xs (listed.setIfInBounds i true)) env0 k (i + 1) l.length (by omega) (fun j o hj hjl ho hod => by
     cases hxj : xs (listed.setIfInBounds i true) j with
     | false => rfl
     | true =>
      have hne : i ≠ j := by omega
      have hxj' : listed.getD j false = true := by rw [← getD_set_ne false hne]; exact hxj
      rcases hpairs i j oi o (by omega) hoi' ho with ⟨e', he', hb', hon⟩ | hap
      ·have := hm.closed j o ho hxj' e' he' hb'
       rw [hon, hxi] at this; cases this
      ·exact absurd hod ((Oper.apart_spec hap).2.1 k hk))
    rw [e1] at hu
    have hself : xs (listed.setIfInBounds i true) i = true := by simp [xs, hisz]
    rw [envA, hself] at hu
    simp only [cond_true, putE_lookup, hoi', Option.bind_some, hk, if_true] at hu
    exact hu
   ·rw [if_neg hk]
    have e2 := envA_same l t (xs (listed.setIfInBounds i true)) (xs listed) env0 k l.length (fun j o hj ho hod => by
     have hne : i ≠ j := fun h => by subst h; rw [hoi'] at ho; cases ho; exact hk hod
     exact getD_set_ne false hne)
    rw [← e2]; exact hu
  have hon : EnvOn M ν a (envA l t (fun _ => true) env0 i) oi := by
   intro d u hdo hu
   refine h4 d u ?_
   rw [look d (looksAt_op hdo)]; exact hu
  have hgd : ∀ g want d u, oi.guard = some (g, want) → (l[g]?).bind (·.dst) = some d → (envA l t (fun _ => true) env0 i).lookup d = some u → u.rep M ν (a.tmps.getD d undef) := by
   intro g want d u hg hgd hu
   refine h4 d u ?_
   rw [look d (looksAt_guard hg hgd)]; exact hu
  have samem : e i = false → ∀ j, j < l.length → e j = true → ((listed.setIfInBounds i true).getD j false = true ↔ j < m) := by
   intro hei j hj hej
   have hne : i ≠ j := fun h => by subst h; rw [hei] at hej; cases hej
   rw [getD_set_ne false hne]; exact h6 j hj hej
  -- what an operation that turns boxes finds and leaves
  have effm : e i = true → b i = b m ∧ ∀ j, j < l.length → e j = true → ((listed.setIfInBounds i true).getD j false = true ↔ j < i + 1) := by
   intro hei
   have hmi : m ≤ i := by
    rcases Nat.lt_or_ge i m with h | h
    ·have := (h6 i hil hei).2 h; rw [hxi] at this; cases this
    ·exact h
   have prev : ∀ j, j < i → e j = true → listed.getD j false = true := by
    intro j hj hej
    have hself : (listed.setIfInBounds i true).getD i false = true := by simp [hisz]
    have := hord' _ hclosed j i hj hil hej hei hself
    rwa [getD_set_ne false (by omega)] at this
   refine ⟨const_b hbc m i hmi (by omega) (fun j hj1 hj2 => by
    cases hj : e j with
    | false => rfl
    | true => have := (h6 j (by omega) hj).1 (prev j hj2 hj); omega), fun j hj hej => ?_⟩
   by_cases hji : i = j
   ·subst hji; simp [hisz]
   ·rw [getD_set_ne false hji]
    constructor
    ·intro hx
     rcases Nat.lt_or_ge i j with h | h
     ·have := hord' _ hm.closed i j h hj hei hej hx
      rw [hxi] at this; cases this
     ·omega
    ·intro hx
     exact prev j (by omega) hej
  unfold wpOp
  rw [hoi]
  simp only []
  rcases hspec with ⟨hg, ⟨hei, hjn, hop, hbb⟩ | ⟨hei, hjn, hop⟩ | ⟨k, hei, hjn, hop, hkp, hfk⟩⟩ | ⟨hg, ht, hbb, hei, hjn⟩
  ·rw [if_pos (wanted_of hg hgd)]
   left
   refine Oper.wp_mono_Q (Oper.wp_mono ?_ (hop κ M ν a w (b m) (hf i m hil h5 (fun j hj hej => by
    cases hdp : depB l j i with
    | false => rfl
    | true =>
     have hjl : j < l.length := by omega
     have hlj := (h6 j hjl hej).2 hj
     have := dep_of hdp (List.getElem?_eq_getElem hjl) hm.closed (fun e' he' hb' => hm.closed j l[j] (List.getElem?_eq_getElem hjl) hlj e' he' hb')
     rw [hxi] at this; cases this)) hon h7))
   rintro a' w' ⟨v, M', rfl, hle, hr, hsat⟩
   exact ih _ _ _ hcount (after M' ν v w' m hle h4 hr h5 (samem hei) hsat h8)
  ·rw [if_pos (wanted_of hg hgd)]
   left
   obtain ⟨hbm, hem⟩ := effm hei
   refine Oper.wp_mono_Q (Oper.wp_mono ?_ (hop κ M ν a w hon (by rw [hbm]; exact h7)))
   rintro a' w' ⟨v, M', rfl, hle, hr, hsat⟩
   exact ih _ _ _ hcount (after M' ν v w' (i + 1) hle h4 hr hil hem hsat h8)
  ·rw [if_pos (wanted_of hg hgd)]
   left
   obtain ⟨hbm, hem⟩ := effm hei
   refine Oper.wp_mono_Q (Oper.wp_mono ?_ (hop κ M ν a w hon (by rw [hbm]; exact h7)))
   rintro a' w' ⟨v, M', ν', rfl, hle, hν, hr, hsat⟩
   obtain ⟨hf0, hft⟩ := fresh_envA i hfk
   have hfresh : Env.fresh k (envA l t (xs listed) env0 l.length) = true := by
    refine envA_fresh' hf0 l.length (fun q hq hx hdq => ?_)
    rcases Nat.lt_trichotomy q i with h | h | h
    ·exact hft q h hdq
    ·subst h; unfold xs at hx; rw [hxi] at hx; cases hx
    ·rcases hfr i q k hjn h hq with h' | h'
     ·exact h'
     ·exfalso
      have := dep_of h' (List.getElem?_eq_getElem hq) hm.closed (fun e' he' hb' => hm.closed q l[q] (List.getElem?_eq_getElem hq) hx e' he' hb')
      rw [hxi] at this; cases this
   exact ih _ _ _ hcount (after M' ν' v w' (i + 1) hle (h4.fresh hfresh hν) hr hil hem hsat (fun q hq => by rw [hν q (by omega)]; exact h8 q hq))
  ·rw [unwanted_of hg hgd]
   simp only [Bool.false_eq_true, if_false]
   refine ih _ _ _ hcount (after M ν undef w m (Mem.ext.refl κ M) h4 (by rw [ht]; simp [undefT, T.rep, Cell.rep, C.rep]) h5 (samem hei) h7 h8)
def earlyB (all : List Oper) (es : List Nat) (j0 i : Nat) : Bool := es.all fun e => Nat.blt e j0 || depB all e i
def fxOf (ear : List Nat) (fixB fixC : Bx) (i : Nat) : Bx := bif memN i ear then fixC else fixB
def genVC2 (P : Program) (all : List Oper) (es ear : List Nat) (fixB : Bx) (j0 : Nat) (fixC : Bx) : Nat → List (Nat × Nat) → List Oper → Env → Bx → (Env → Bx → Prop) → Prop
  | _, _, [], env, B, K => K env B
  | i, gs, o :: os, env, B, K => guardT all env o
      (bif memN i es then effVC P o env B fun t B' => bxSub B' fixB ∧ (bif decide (i < j0) then bxSub B' fixC else True) ∧ FreshOr all i t gs ∧ genVC2 P all es ear fixB j0 fixC (i + 1) (gsNext i o gs) os (putE env o.dst t) B' K
       else pureVC P o env (fxOf ear fixB fixC i) fun t => FreshOr all i t gs ∧ genVC2 P all es ear fixB j0 fixC (i + 1) gs os (putE env o.dst t) B K)
      (genVC2 P all es ear fixB j0 fixC (i + 1) gs os (putE env o.dst undefT) B K)
theorem gen_trace2 (all : List Oper) (es ear : List Nat) (fixB : Bx) (j0 : Nat) (fixC : Bx) (K : Env → Bx → Prop) : ∀ (l : List Oper) (i0 : Nat) (gs : List (Nat × Nat)) (env : Env) (B : Bx), dstsOk n l = true → (∀ x ∈ fixB, x ∈ B) → (i0 ≤ j0 → ∀ x ∈ fixC, x ∈ B) → genVC2 P all es ear fixB j0 fixC i0 gs l env B K →
  ∃ (t : Nat → T) (b : Nat → Bx) (e : Nat → Bool) (jn : Nat → Option Nat), b 0 = B ∧ (∀ i o, l[i]? = some o → OSpecG P n all (fxOf ear fixB fixC (i0 + i)) o (envA l t (fun _ => true) env i) (b i) (t i) (b (i + 1)) (e i) (jn i)) ∧
   (∀ i, i ≤ l.length → ∀ x ∈ fixB, x ∈ b i) ∧ (∀ i, i ≤ l.length → i0 + i ≤ j0 → ∀ x ∈ fixC, x ∈ b i) ∧ (∀ i, e i = true → memN (i0 + i) es = true) ∧ (∀ i, i < l.length → FreshOr all (i0 + i) (t i) gs) ∧
   (∀ g k j, jn g = some j → g < k → k < l.length → (t k).fresh j = true ∨ depB all (i0 + k) (i0 + g) = true) ∧ K (envA l t (fun _ => true) env l.length) (b l.length)
 | [], i0, gs, env, B, _, hB, hC, h => ⟨fun _ => undefT, fun _ => B, fun _ => false, fun _ => none, rfl, fun i o ho => by simp at ho, fun i _ => hB, fun i hi hx => hC (by omega), fun i h => (by cases h), fun i hi => by simp at hi, fun _ _ _ h => (by cases h), h⟩
 | o :: os, i0, gs, env, B, hd, hB, hC, h => by
  simp only [dstsOk, List.all_cons, Bool.and_eq_true] at hd
  obtain ⟨⟨hd1, hd2⟩, hd3⟩ := hd
  have step : ∃ (t0 : T) (B' : Bx) (e0 : Bool) (jz : Option Nat) (gs' : List (Nat × Nat)), OSpecG P n all (fxOf ear fixB fixC i0) o env B t0 B' e0 jz ∧ (∀ x ∈ fixB, x ∈ B') ∧ (i0 + 1 ≤ j0 → ∀ x ∈ fixC, x ∈ B') ∧ (e0 = true → memN i0 es = true) ∧ FreshOr all i0 t0 gs ∧
    (∀ p ∈ gs, p ∈ gs') ∧ (∀ j, jz = some j → (i0, j) ∈ gs') ∧ genVC2 P all es ear fixB j0 fixC (i0 + 1) gs' os (putE env o.dst t0) B' K := by
   rcases guardT_true h with ⟨hg, hx⟩ | ⟨hg, hx⟩
   ·cases hm : memN i0 es with
    | true =>
     rw [hm] at hx
     simp only [cond_true] at hx
     have hcx : ∀ {B' : Bx}, (bif decide (i0 < j0) then bxSub B' fixC else True) → i0 + 1 ≤ j0 → bxSub B' fixC := by
      intro B' hc hx
      have : decide (i0 < j0) = true := by simp; omega
      rw [this] at hc; exact hc
     have sub : ∀ p ∈ gs, p ∈ gsNext i0 o gs := fun p hp => by unfold gsNext; cases makes o <;> simp [hp]
     rcases effVC_makes hx with ⟨t, hop, h1, hc, h2, h3⟩ | ⟨t, B', hop, h1, hc, h2, h3⟩ | ⟨hmk, t, B', hop, hfr, h1, hc, h2, h3⟩
     ·refine ⟨t, B, true, none, _, ⟨hd1, .inl ⟨hg, .inr (.inl ⟨rfl, rfl, hop.e⟩)⟩⟩, hB, fun hx => hC (by omega), fun _ => rfl, h2, sub, fun j hj => (by cases hj), h3⟩
     ·exact ⟨t, B', true, none, _, ⟨hd1, .inl ⟨hg, .inr (.inl ⟨rfl, rfl, hop⟩)⟩⟩, bxSub_spec h1, fun hx => bxSub_spec (hcx hc hx), fun _ => rfl, h2, sub, fun j hj => (by cases hj), h3⟩
     ·refine ⟨t, B', true, some (dstN o), _, ⟨hd1, .inl ⟨hg, .inr (.inr ⟨dstN o, rfl, rfl, hop, Nat.le_of_ble_eq_true hd2, hfr⟩)⟩⟩, bxSub_spec h1, fun hx => bxSub_spec (hcx hc hx), fun _ => rfl, h2, sub, fun j hj => ?_, h3⟩
      cases hj
      unfold gsNext; rw [hmk]; simp
    | false =>
     rw [hm] at hx
     simp only [cond_false] at hx
     obtain ⟨t, hop, h2, h3⟩ := pureVC_sound hx
     exact ⟨t, B, false, none, gs, ⟨hd1, .inl ⟨hg, .inl ⟨rfl, rfl, hop, rfl⟩⟩⟩, hB, fun hx => hC (by omega), fun h => (by cases h), h2, fun _ h => h, fun j hj => (by cases hj), h3⟩
   ·exact ⟨undefT, B, false, none, gs, ⟨hd1, .inr ⟨hg, rfl, rfl, rfl, rfl⟩⟩, hB, fun hx => hC (by omega), fun h => (by cases h), FreshOr_un gs, fun _ h => h, fun j hj => (by cases hj), hx⟩
  obtain ⟨t0, B', e0, jz, gs', hspec, hfix, hfixC, he0, hfr0, hsub, hj0, hk⟩ := step
  obtain ⟨t, b, e, jn, hb0, hs, hf, hfC, he, hfr, hjj, hK⟩ := gen_trace2 all es ear fixB j0 fixC K os (i0 + 1) gs' _ B' hd3 hfix hfixC hk
  refine ⟨fun i => match i with | 0 => t0 | i + 1 => t i, fun i => match i with | 0 => B | i + 1 => b i, fun i => match i with | 0 => e0 | i + 1 => e i, fun i => match i with | 0 => jz | i + 1 => jn i, rfl, ?_, ?_, ?_, ?_, ?_, ?_, ?_⟩
  ·intro i o' ho
   cases i with
   | zero => simp at ho; subst ho; rw [← hb0] at hspec; exact hspec
   | succ i =>
    rw [envA_cons]
    have := hs i o' (by simpa using ho)
    rwa [show i0 + 1 + i = i0 + (i + 1) by omega] at this
  ·intro i hi
   cases i with
   | zero => exact hB
   | succ i => exact hf i (by simpa using hi)
  ·intro i hi hx
   cases i with
   | zero => exact hC (by omega)
   | succ i => exact hfC i (by simpa using hi) (by omega)
  ·intro i hi
   cases i with
   | zero => exact he0 hi
   | succ i => have := he i hi; rwa [show i0 + 1 + i = i0 + (i + 1) by omega] at this
  ·intro i hi
   cases i with
   | zero => exact hfr0
   | succ i =>
    have := hfr i (by simpa using hi)
    rw [show i0 + 1 + i = i0 + (i + 1) by omega] at this
    exact gen_trace.FreshOr_sub hsub this
  ·intro g k j hg hgk hk'
   cases k with
   | zero => omega
   | succ k =>
    cases g with
    | zero =>
     have := FreshOr_spec (hfr k (by simpa using hk')) (i0, j) (hj0 j hg)
     rwa [show i0 + 1 + k = i0 + (k + 1) by omega] at this
    | succ g =>
     have := hjj g k j hg (by omega) (by simpa using hk')
     rwa [show i0 + 1 + k = i0 + (k + 1) by omega, show i0 + 1 + g = i0 + (g + 1) by omega] at this
  ·rw [List.length_cons, envA_cons]; exact hK
theorem AWP.genR2 {id : Nat} {l : List Oper} {env : Env} {B : Bx} (es ks : List Nat) (ear : List Nat) (j0 : Nat) (ks' : List Nat) (hm : P.follows .mixedOrders = true) (hl : (genOk n l es && ear.all fun i => earlyB l es j0 i) = true)
  (h : ∀ K : Env → Bx → Prop, (∀ e b, Q .normal ⟨e, b⟩ → K e b) → genVC2 P l es ear (Bx.outs B ks) j0 (Bx.outs B ks') 0 [] l env B K) : AWP P n (.region id l.toArray true) ⟨env, B⟩ Q := by
 rw [Bool.and_eq_true] at hl
 obtain ⟨hl, hear⟩ := hl
 simp only [genOk, Bool.and_eq_true] at hl
 intro κ M0 a w hs
 obtain ⟨hback, hpairs, _⟩ := lex_pairs hl.1
 obtain ⟨t, b, e, jn, hb0, hsp, hf, hfC, he, _, hjj, hK⟩ := gen_trace2 l es ear (Bx.outs B ks) j0 (Bx.outs B ks') _ l 0 [] env B hl.2.1 (fun x hx => Bx.outs_sub hx) (fun _ x hx => Bx.outs_sub hx) (h (fun e b => Q .normal ⟨e, b⟩) (fun _ _ k => k))
 have hord : EffOrdG l e := fun i k hik hk hei hek => esOk_spec hl.2.2 i (memN_spec (by simpa using he i hei)) k (memN_spec (by simpa using he k hek)) hik
 refine wp_region_any hm ?_
 have hsz : l.toArray.size = l.length := by simp
 rw [hsz]
 have hrep : ∀ j, (Array.replicate l.length false).getD j false = false := fun j => rep_getD _ j
 have hbc : ∀ i, i < l.length → e i = false → b (i + 1) = b i := by
  intro i hi hei
  rcases (hsp i l[i] (by simp [hi])).2 with ⟨_, ⟨_, _, _, h⟩ | ⟨h, _⟩ | ⟨_, h, _⟩⟩ | ⟨_, _, h, _⟩
  ·exact h
  ·rw [hei] at h; cases h
  ·rw [hei] at h; cases h
  ·exact h
 refine gen_sound2 (fx := fun i => fxOf ear (Bx.outs B ks) (Bx.outs B ks') i) hback hpairs hord (fun i o ho => by have := hsp i o ho; rwa [Nat.zero_add] at this) ?_ (fun g k j hg hgk hk => by have := hjj g k j hg hgk hk; simpa using this) (fun a w s => ⟨_, s, hK⟩) l.length _ a _ ?_ (mid_start (σ := ⟨env, B⟩) hb0 hs)
 ·intro i m hi hm hdep x hx
  unfold fxOf at hx
  cases hE0 : memN i ear with
  | false => rw [hE0] at hx; exact hf m hm x hx
  | true =>
   have hE := List.all_eq_true.1 hear i (memN_spec hE0)
   rw [hE0] at hx
   simp only [cond_true] at hx
   rcases Nat.le_total m j0 with hmj | hmj
   ·exact hfC m hm (by omega) x hx
   ·have hno : ∀ j, j0 ≤ j → j < m → e j = false := by
     intro j hj1 hj2
     cases hej : e j with
     | false => rfl
     | true =>
      have hmem := memN_spec (he j hej)
      rw [Nat.zero_add] at hmem
      have h1 := List.all_eq_true.1 hE j hmem
      simp only [Bool.or_eq_true] at h1
      rcases h1 with h1 | h1
      ·have : j < j0 := by simpa using h1
       omega
      ·have := hdep j hj2 hej
       rw [h1] at this; cases this
    have hbb : b m = b j0 := by
     have := const_b hbc j0 m hmj hm (fun j hj1 hj2 => hno j hj1 hj2)
     first | exact this | exact this.symm
    rw [hbb]
    exact hfC j0 (by omega) (by omega) x hx
 ·unfold cnt
  have hfil : (List.range l.length).filter (fun i => !(Array.replicate l.length false).getD i false) = List.range l.length := by
   rw [List.filter_eq_self]
   intro x _
   simp only [hrep x, Bool.not_false]
  rw [hfil, List.length_range]
theorem gen2VC_nil {all : List Oper} {es ear : List Nat} {fixB : Bx} {j0 : Nat} {fixC : Bx} {i : Nat} {gs : List (Nat × Nat)} {env : Env} {B : Bx} {K : Env → Bx → Prop} (h : K env B) : genVC2 P all es ear fixB j0 fixC i gs [] env B K := h
def genOpVC2 (P : Program) (all : List Oper) (es ear : List Nat) (fixB : Bx) (j0 : Nat) (fixC : Bx) (i : Nat) (gs : List (Nat × Nat)) (o : Oper) (env : Env) (B : Bx) (K' : List (Nat × Nat) → Env → Bx → Prop) : Prop :=
  bif memN i es then effVC P o env B fun t B' => bxSub B' fixB ∧ (bif decide (i < j0) then bxSub B' fixC else True) ∧ FreshOr all i t gs ∧ K' (gsNext i o gs) (putE env o.dst t) B'
  else pureVC P o env (fxOf ear fixB fixC i) fun t => FreshOr all i t gs ∧ K' gs (putE env o.dst t) B
theorem gen2VC_stepN {all os : List Oper} {es ear : List Nat} {fixB : Bx} {j0 : Nat} {fixC : Bx} {i : Nat} {gs : List (Nat × Nat)} {o : Oper} {env : Env} {B : Bx} {K : Env → Bx → Prop} (hg : o.guard = none)
  (h : ∀ K' : List (Nat × Nat) → Env → Bx → Prop, (∀ gs e b, genVC2 P all es ear fixB j0 fixC (i + 1) gs os e b K → K' gs e b) → genOpVC2 P all es ear fixB j0 fixC i gs o env B K') : genVC2 P all es ear fixB j0 fixC i gs (o :: os) env B K :=
 guardT_none hg (h (fun gs e b => genVC2 P all es ear fixB j0 fixC (i + 1) gs os e b K) fun _ _ _ q => q)
theorem gen2VC_stepG {all os : List Oper} {es ear : List Nat} {fixB : Bx} {j0 : Nat} {fixC : Bx} {i : Nat} {gs : List (Nat × Nat)} {o : Oper} {env : Env} {B : Bx} {K : Env → Bx → Prop} {j d : Nat} {want : Bool} (hg : o.guard = some (j, want)) (hd : (all[j]?).bind (·.dst) = some d)
  (h : ∀ K' : List (Nat × Nat) → Env → Bx → Prop, (∀ gs e b, genVC2 P all es ear fixB j0 fixC (i + 1) gs os e b K → K' gs e b) → guardE (env.lookup d) want (genOpVC2 P all es ear fixB j0 fixC i gs o env B K') (K' gs (putE env o.dst undefT) B)) : genVC2 P all es ear fixB j0 fixC i gs (o :: os) env B K :=
 guardT_some hg hd (h (fun gs e b => genVC2 P all es ear fixB j0 fixC (i + 1) gs os e b K) fun _ _ _ q => q)
attribute [go_sem] genOpVC2 fxOf
def bxX (mk : Nat → Option (Nat × Res)) (B0 : Bx) (X : Nat → Bool) : Nat → Bx
 | 0 => B0
 | m + 1 => match X m, mk m with
  | true, some p => p :: bxX mk B0 X m
  | _, _ => bxX mk B0 X m
theorem mem_bxX {mk : Nat → Option (Nat × Res)} {B0 : Bx} {X : Nat → Bool} {x : Nat × Res} : ∀ {m : Nat}, x ∈ bxX mk B0 X m ↔ x ∈ B0 ∨ ∃ i, i < m ∧ X i = true ∧ mk i = some x
 | 0 => by simp [bxX]
 | m + 1 => by
  have ih := @mem_bxX mk B0 X x m
  unfold bxX
  constructor
  ·intro h
   split at h
   ·rename_i p hX hk
    rcases List.mem_cons.1 h with rfl | h
    ·exact .inr ⟨m, by omega, hX, hk⟩
    ·rcases ih.1 h with h | ⟨i, h1, h2⟩
     ·exact .inl h
     ·exact .inr ⟨i, by omega, h2⟩
   ·rcases ih.1 h with h | ⟨i, h1, h2⟩
    ·exact .inl h
    ·exact .inr ⟨i, by omega, h2⟩
  ·intro h
   have h' : x ∈ bxX mk B0 X m ∨ (X m = true ∧ mk m = some x) := by
    rcases h with h | ⟨i, h1, h2, h3⟩
    ·exact .inl (ih.2 (.inl h))
    ·by_cases him : i = m
     ·subst him; exact .inr ⟨h2, h3⟩
     ·exact .inl (ih.2 (.inr ⟨i, by omega, h2, h3⟩))
   split
   ·rename_i p hX hk
    rcases h' with h' | ⟨_, h'⟩
    ·exact List.mem_cons_of_mem _ h'
    ·rw [hk] at h'; cases h'; exact List.mem_cons_self
   ·rename_i hno
    rcases h' with h' | ⟨h1, h2⟩
    ·exact h'
    ·exact absurd h2 (hno x h1)
def Apart (mk : Nat → Option (Nat × Res)) (B0 : Bx) : Prop := (∀ i j p q, mk i = some p → mk j = some q → i ≠ j → p.1 ≠ q.1) ∧ ∀ i p, mk i = some p → ∀ x ∈ B0, x.1 ≠ p.1
theorem nodup_bxX {mk : Nat → Option (Nat × Res)} {B0 : Bx} {X : Nat → Bool} (ha : Apart mk B0) (h0 : (B0.map (·.1)).Nodup) : ∀ m, ((bxX mk B0 X m).map (·.1)).Nodup
 | 0 => h0
 | m + 1 => by
  have ih := nodup_bxX (X := X) ha h0 m
  unfold bxX
  split
  ·rename_i p hX hk
   simp only [List.map_cons, List.nodup_cons]
   refine ⟨fun hm => ?_, ih⟩
   obtain ⟨x, hx, e⟩ := List.mem_map.1 hm
   rcases mem_bxX.1 hx with h | ⟨i, h1, _, h3⟩
   ·exact ha.2 m p hk x h e
   ·exact ha.1 i m x p h3 hk (by omega) e
  ·exact ih
theorem nodup_B0 {mk : Nat → Option (Nat × Res)} {B0 : Bx} {X : Nat → Bool} : ∀ {m : Nat}, ((bxX mk B0 X m).map (·.1)).Nodup → (B0.map (·.1)).Nodup
 | 0, h => h
 | m + 1, h => by
  unfold bxX at h
  split at h
  ·simp only [List.map_cons, List.nodup_cons] at h; exact nodup_B0 h.2
  ·exact nodup_B0 h
structure MidM (κ : Kap) (M0 : Mem) (n : Nat) (l : List Oper) (t : Nat → T) (mk : Nat → Option (Nat × Res)) (B0 : Bx) (env0 : Env) (listed : Array Bool) (a : Act) (w : World) : Prop where
  size : listed.size = l.length
  closed : Closed l listed
  st : ∃ M ν, M0.ext κ M ∧ a.tmps.size = n ∧ a.defers = [] ∧ EnvOk M ν a.tmps (envA l t (xs listed) env0 l.length) ∧ Sat κ M ν (bxX mk B0 (xs listed) l.length) w ∧ ∀ k, pin ≤ k → ν k = κ.nu k
def OSpecM (P : Program) (n : Nat) (all : List Oper) (B0 : Bx) (o : Oper) (env : Env) (t : T) (j : Option (Nat × Res)) : Prop :=
  dstOk n o = true ∧
  ((guardT all env o True False ∧ ((j = none ∧ OpP P o env B0 t) ∨ (∃ k r, j = some (k, r) ∧ k < pin ∧ Env.fresh k env = true ∧ Bx.fresh k B0 = true ∧ ∀ B : Bx, (∀ x ∈ B0, x ∈ B) → Bx.fresh k B = true → OpG P o env B k t ((k, r) :: B)))) ∨
   (guardT all env o False True ∧ t = undefT ∧ j = none))
theorem bx_fresh_of {k : Nat} : ∀ {B : Bx}, (∀ x ∈ B, x.1 ≠ k ∧ ∀ cs, x.2 = .cells cs → Cell.freshs k cs = true) → Bx.fresh k B = true
 | [], _ => rfl
 | (j, r) :: B, h => by
  have h1 := h (j, r) List.mem_cons_self
  simp only [Bx.fresh, Bool.and_eq_true, bne_iff_ne, ne_eq]
  refine ⟨⟨h1.1, ?_⟩, bx_fresh_of fun y hy => h y (List.mem_cons_of_mem _ hy)⟩
  cases r with
  | cells cs => exact h1.2 cs rfl
  | row sz rows => rfl
  | mp ag es => rfl
def Res.plain (r : Res) : Prop := ∀ k cs, r = .cells cs → Cell.freshs k cs = true
theorem Res.plain_row (sz : Nat) (rows : List (List C)) : (Res.row sz rows).plain := fun _ _ e => by cases e
theorem Res.plain_dat (zs : List C) : (Res.cells (zs.map .dat)).plain := by
  intro k cs e
  cases e
  induction zs with
  | nil => rfl
  | cons z zs ih => simp only [List.map_cons, Cell.freshs, Cell.fresh, ih, Bool.and_self]
def RowsOnly (mk : Nat → Option (Nat × Res)) : Prop := ∀ i p, mk i = some p → p.2.plain
theorem genM_sound {κ : Kap} {M0 : Mem} {l : List Oper} {B0 : Bx} {t : Nat → T} {mk : Nat → Option (Nat × Res)} {env0 : Env} {Q' : Exit → Act → World → Prop}
  (hback : Back l) (hpairs : Pairs l) (hap : Apart mk B0) (hro : RowsOnly mk) (hlen : ∀ i p, mk i = some p → i < l.length)
  (hs : ∀ i o, l[i]? = some o → OSpecM P n l B0 o (envA l t (fun _ => true) env0 i) (t i) (mk i))
  (hfr : ∀ g k p, mk g = some p → g < k → k < l.length → (t k).fresh p.1 = true ∨ depB l k g = true)
  (hQ : ∀ a w, St κ M0 n ⟨envA l t (fun _ => true) env0 l.length, bxX mk B0 (fun _ => true) l.length⟩ a w → Q' .normal a w) :
  ∀ (fuel : Nat) (listed : Array Bool) (a : Act) (w : World), cnt l listed = fuel → MidM κ M0 n l t mk B0 env0 listed a w →
   wpAny P .any l.toArray Q' fuel listed a w := by
 have done : ∀ (listed : Array Bool) (a : Act) (w : World), MidM κ M0 n l t mk B0 env0 listed a w → (∀ i, i < l.length → listed.getD i false = true) → Q' .normal a w := by
  intro listed a w hm hall
  obtain ⟨M, ν, h1, h2, h3, h4, h7, h8⟩ := hm.st
  refine hQ a w ⟨M, ν, h1, h2, h3, ?_, ?_, h8⟩
  ·intro d u hu
   refine h4 d u ?_
   rw [envA_same l t (xs listed) (fun _ => true) env0 d l.length (fun j o hj _ _ => hall j hj)]
   exact hu
  ·refine h7.drop (fun x hx => ?_) (nodup_bxX hap (nodup_B0 h7.nodup) _)
   rcases mem_bxX.1 hx with h | ⟨i, hi, _, hk⟩
   ·exact mem_bxX.2 (.inl h)
   ·exact mem_bxX.2 (.inr ⟨i, hi, hall i hi, hk⟩)
 intro fuel
 induction fuel with
 | zero =>
  intro listed a w hfuel hm
  have hall := cnt_zero hfuel
  exact ⟨ready_none hm.size hall, done listed a w hm hall⟩
 | succ fuel ih =>
  intro listed a w hfuel hm
  refine ⟨fun hr => done listed a w hm (ready_least hback hm.size hr), fun i hi => ?_⟩
  obtain ⟨h0, oi, hoi, hall⟩ := mem_ready.1 hi
  have hil : i < l.length := by have := (Array.getElem?_eq_some_iff.1 hoi).1; simpa using this
  have hoi' : l[i]? = some oi := by simpa using hoi
  have hisz : i < listed.size := by rw [hm.size]; exact hil
  have hxi : listed.getD i false = false := by simp [hisz] at h0 ⊢; exact h0
  obtain ⟨M, ν, h1, h2, h3, h4, h7, h8⟩ := hm.st
  obtain ⟨hd, hspec⟩ := hs i oi hoi'
  have look : ∀ d, d ∈ oi.looksAt l.toArray → (envA l t (xs listed) env0 l.length).lookup d = (envA l t (fun _ => true) env0 i).lookup d := by
   intro d hdm
   rw [envA_skip l t (xs listed) env0 d i l.length (by omega) ?_, envA_same l t (xs listed) (fun _ => true) env0 d i ?_]
   ·intro j o hj ho hod
    rcases hpairs j i o oi hj ho hoi' with ⟨e', he', hb', hon⟩ | hap
    ·exact hon ▸ hall e' he' hb'
    ·exact absurd hdm ((Oper.apart_spec hap).1 d hod)
   ·intro j o hj hjl ho hod
    by_cases hji : i = j
    ·subst hji; exact hxi
    ·cases hxj : xs listed j with
     | false => rfl
     | true =>
      rcases hpairs i j oi o (by omega) hoi' ho with ⟨e', he', hb', hon⟩ | hap
      ·have := hm.closed j o ho hxj e' he' hb'
       rw [hon, hxi] at this; cases this
      ·exact absurd hdm ((Oper.apart_spec hap).2.2 d hod)
  have hclosed : Closed l (listed.setIfInBounds i true) := by
   intro j oj hj hx e' he' hb'
   by_cases hji : i = j
   ·subst hji
    rw [hoi'] at hj; cases hj
    exact getD_set_true (hall e' he' hb')
   ·rw [getD_set_ne false hji] at hx
    exact getD_set_true (hm.closed j oj hj hx e' he' hb')
  have hcount : cnt l (listed.setIfInBounds i true) = fuel := by
   have := cnt_set hm.size hil hxi; omega
  have after : ∀ (M' : Mem) (ν' : Nu) (v : Value) (w' : World), M.ext κ M' → EnvOk M ν' a.tmps (envA l t (xs listed) env0 l.length) → (t i).rep M' ν' v → Sat κ M' ν' (bxX mk B0 (xs (listed.setIfInBounds i true)) l.length) w' → (∀ k, pin ≤ k → ν' k = κ.nu k) →
    MidM κ M0 n l t mk B0 env0 (listed.setIfInBounds i true) (a.put oi.dst v) w' := by
   intro M' ν' v w' hle h4 hr hsat hpin
   refine ⟨by simpa using hm.size, hclosed, M', ν', h1.trans hle, by rw [Act.put_size]; exact h2, by rw [Act.put_defers']; exact h3, ?_, hsat, hpin⟩
   have hput := EnvOk.put (df := a.defers) (h4.mono hle.1) (dst := oi.dst) (v := v) (t := t i) (fun d he => by rw [h2]; exact dstOk_spec hd d he) hr
   intro k u hu
   refine hput k u ?_
   rw [putE_lookup]
   by_cases hk : oi.dst = some k
   ·rw [if_pos hk]
    have e1 := envA_skip l t (xs (listed.setIfInBounds i true)) env0 k (i + 1) l.length (by omega) (fun j o hj hjl ho hod => by
     cases hxj : xs (listed.setIfInBounds i true) j with
     | false => rfl
     | true =>
      have hne : i ≠ j := by omega
      have hxj' : listed.getD j false = true := by rw [← getD_set_ne false hne]; exact hxj
      rcases hpairs i j oi o (by omega) hoi' ho with ⟨e', he', hb', hon⟩ | hap
      ·have := hm.closed j o ho hxj' e' he' hb'
       rw [hon, hxi] at this; cases this
      ·exact absurd hod ((Oper.apart_spec hap).2.1 k hk))
    rw [e1] at hu
    have hself : xs (listed.setIfInBounds i true) i = true := by simp [xs, hisz]
    rw [envA, hself] at hu
    simp only [cond_true, putE_lookup, hoi', Option.bind_some, hk, if_true] at hu
    exact hu
   ·rw [if_neg hk]
    have e2 := envA_same l t (xs (listed.setIfInBounds i true)) (xs listed) env0 k l.length (fun j o hj ho hod => by
     have hne : i ≠ j := fun h => by subst h; rw [hoi'] at ho; cases ho; exact hk hod
     exact getD_set_ne false hne)
    rw [← e2]; exact hu
  have hon : EnvOn M ν a (envA l t (fun _ => true) env0 i) oi := by
   intro d u hdo hu
   refine h4 d u ?_
   rw [look d (looksAt_op hdo)]; exact hu
  have hgd : ∀ g want d u, oi.guard = some (g, want) → (l[g]?).bind (·.dst) = some d → (envA l t (fun _ => true) env0 i).lookup d = some u → u.rep M ν (a.tmps.getD d undef) := by
   intro g want d u hg hgd hu
   refine h4 d u ?_
   rw [look d (looksAt_guard hg hgd)]; exact hu
  have hself : xs (listed.setIfInBounds i true) i = true := by simp [xs, hisz]
  have hold : ∀ j, i ≠ j → xs (listed.setIfInBounds i true) j = xs listed j := fun j hj => getD_set_ne false hj
  have nod : ((bxX mk B0 (xs (listed.setIfInBounds i true)) l.length).map (·.1)).Nodup := nodup_bxX hap (nodup_B0 h7.nodup) _
  have same : mk i = none → ∀ x ∈ bxX mk B0 (xs (listed.setIfInBounds i true)) l.length, x ∈ bxX mk B0 (xs listed) l.length := by
   intro hk x hx
   rcases mem_bxX.1 hx with h | ⟨j, hj, hX, hkj⟩
   ·exact mem_bxX.2 (.inl h)
   ·have hne : i ≠ j := fun e => by subst e; rw [hk] at hkj; cases hkj
    exact mem_bxX.2 (.inr ⟨j, hj, by rw [← hold j hne]; exact hX, hkj⟩)
  unfold wpOp
  rw [hoi]
  simp only []
  rcases hspec with ⟨hg, ⟨hjn, hop⟩ | ⟨k, r, hjn, hkp, hfk, hfB0, hop⟩⟩ | ⟨hg, ht, hjn⟩
  ·rw [if_pos (wanted_of hg hgd)]
   left
   refine Oper.wp_mono_Q (Oper.wp_mono ?_ (hop κ M ν a w _ (fun x hx => mem_bxX.2 (.inl hx)) hon h7))
   rintro a' w' ⟨v, M', rfl, hle, hr, hsat⟩
   exact ih _ _ _ hcount (after M' ν v w' hle h4 hr (hsat.drop (same hjn) nod) h8)
  ·rw [if_pos (wanted_of hg hgd)]
   left
   have hfB : Bx.fresh k (bxX mk B0 (xs listed) l.length) = true := by
    refine bx_fresh_of fun x hx => ?_
    rcases mem_bxX.1 hx with h | ⟨j, hj, hX, hkj⟩
    ·exact Bx.fresh_spec (j := x.1) (r := x.2) hfB0 h
    ·have hne : j ≠ i := fun e => by subst e; unfold xs at hX; rw [hxi] at hX; cases hX
     refine ⟨hap.1 j i x _ hkj hjn hne, fun cs e => ?_⟩
     exact hro j x hkj k cs e
   refine Oper.wp_mono_Q (Oper.wp_mono ?_ (hop _ (fun x hx => mem_bxX.2 (.inl hx)) hfB κ M ν a w hon h7))
   rintro a' w' ⟨v, M', ν', rfl, hle, hν, hr, hsat⟩
   obtain ⟨hf0, hft⟩ := fresh_envA i hfk
   have hfresh : Env.fresh k (envA l t (xs listed) env0 l.length) = true := by
    refine envA_fresh' hf0 l.length (fun q hq hx hdq => ?_)
    rcases Nat.lt_trichotomy q i with h | h | h
    ·exact hft q h hdq
    ·subst h; unfold xs at hx; rw [hxi] at hx; cases hx
    ·rcases hfr i q _ hjn h hq with h' | h'
     ·exact h'
     ·exfalso
      have := dep_of h' (List.getElem?_eq_getElem hq) hm.closed (fun e' he' hb' => hm.closed q l[q] (List.getElem?_eq_getElem hq) hx e' he' hb')
      rw [hxi] at this; cases this
   refine ih _ _ _ hcount (after M' ν' v w' hle (h4.fresh hfresh hν) hr (hsat.drop ?_ nod) (fun q hq => by rw [hν q (by omega)]; exact h8 q hq))
   intro x hx
   rcases mem_bxX.1 hx with h | ⟨j, hj, hX, hkj⟩
   ·exact List.mem_cons_of_mem _ (mem_bxX.2 (.inl h))
   ·by_cases hne : i = j
    ·subst hne; rw [hjn] at hkj; cases hkj; exact List.mem_cons_self
    ·exact List.mem_cons_of_mem _ (mem_bxX.2 (.inr ⟨j, hj, by rw [← hold j hne]; exact hX, hkj⟩))
  ·rw [unwanted_of hg hgd]
   simp only [Bool.false_eq_true, if_false]
   refine ih _ _ _ hcount (after M ν undef w (Mem.ext.refl κ M) h4 (by rw [ht]; simp [undefT, T.rep, Cell.rep, C.rep]) (h7.drop (same hjn) nod) h8)
theorem Bx.fresh_sub {k : Nat} {B B' : Bx} (h : Bx.fresh k B = true) (hs : ∀ x ∈ B', x ∈ B) : Bx.fresh k B' = true :=
  bx_fresh_of fun x hx => Bx.fresh_spec (j := x.1) (r := x.2) h (hs x hx)
def vAppendM (P : Program) (j : Nat) (t1 t2 : TypeId) (s x : Option T) (K : T → Res → Prop) : Prop :=
 match bsT P t1, byT P t1 with
 | some (_, n), some (by_ + 1) => match srcRows n x with
  | some ys => notInt P t2 = true ∧ (match s with
   | some (.one (.dat (.nil _))) => (2 * ys.length + 192) * (by_ + 1) ≤ 281474976710656 ∧ K (.one (.own j ys.length)) (.row n ys)
   | _ => False)
  | none => False
 | _, _ => False
def mkOp (P : Program) (o : Oper) (env : Env) (K : T → Res → Prop) : Prop :=
 match o.op with
 | .alloc e => (match zeroT P e with
  | some zs => K (.one (.ptr (dstN o) 0)) (.cells (zs.map .dat))
  | none => False)
 | .call { callee := .builtin .append, args := ⟨[s, x]⟩, argTypes := ⟨[t1, t2]⟩ } => vAppendM P (dstN o) t1 t2 (ev P env t1 s) (softO (ev P env t2 x)) K
 | .call { callee := .value f, args := args, argTypes := ts } =>
  match calleeT (ev P env 0 f), evs P env args.toList ts.toList with
  | some (g, caps), some us => ∃ r sz rows, PCN P g (us ++ caps) r (.row sz rows) ∧ K (r.ren fun _ => dstN o) (.row sz rows)
  | _, _ => False
 | _ => False
theorem mkOp_sound {o : Oper} {env : Env} {K : T → Res → Prop} (h : mkOp P o env K) :
  ∃ t r, r.plain ∧ (∀ B : Bx, Env.fresh (dstN o) env = true → Bx.fresh (dstN o) B = true → OpG P o env B (dstN o) t ((dstN o, r) :: B)) ∧ K t r := by
 unfold mkOp at h
 split at h
 ·rename_i e ho
  split at h
  ·rename_i zs hz
   refine ⟨_, _, Res.plain_dat zs, fun B hfe hfb => ?_, h⟩
   obtain ⟨t, B', hop, _, rfl, rfl⟩ := vAlloc_sound (env := env) (B := B) (K := fun t B' => t = .one (.ptr (dstN o) 0) ∧ B' = (dstN o, .cells (zs.map .dat)) :: B) ho (by
    unfold vAlloc
    rw [hz]
    exact ⟨hfe, hfb, rfl, rfl⟩)
   exact hop
  ·exact h.elim
 ·rename_i s x t1 t2 ho
  unfold vAppendM at h
  split at h
  ·rename_i e n by_ hbs hbyt
   split at h
   ·rename_i ys hys
    obtain ⟨hni, h⟩ := h
    split at h
    ·rename_i sz hsv
     refine ⟨_, _, Res.plain_row _ _, fun B hfe hfb => ?_, h.2⟩
     obtain ⟨t, B', hop, _, rfl, rfl⟩ := vAppend_sound (ty1 := t1) (ty2 := t2) (env := env) (B := B) (K := fun t B' => t = .one (.own (dstN o) ys.length) ∧ B' = (dstN o, .row n ys) :: B) ho (by
      unfold vAppend
      rw [hbs, hbyt]
      simp only [hys, hsv]
      refine ⟨hni, hfe, hfb, h.1, ?_⟩
      first | trivial | exact ⟨trivial, rfl⟩ | exact ⟨rfl, rfl⟩ | exact ⟨rfl, trivial⟩)
     exact hop
    ·exact h.elim
   ·exact h.elim
  ·exact h.elim
 ·rename_i f args ts ho
  split at h
  ·rename_i g caps us hf hu
   obtain ⟨r, sz, rows, hpc, hK⟩ := h
   refine ⟨_, _, Res.plain_row _ _, fun B hfe hfb => ?_, hK⟩
   obtain ⟨t, B', hop, _, rfl, rfl⟩ := vCallN_sound (env := env) (B := B) (args := args.toList) (K := fun t B' => t = (r.ren fun _ => dstN o) ∧ B' = (dstN o, .row sz rows) :: B) (by rw [ho]) hf hu ⟨r, _, hpc, hfe, hfb, rfl, rfl⟩
   exact hop
  ·exact h.elim
 ·exact h.elim
def genVCM (P : Program) (all : List Oper) (es : List Nat) (B0 : Bx) : Nat → List (Nat × Nat) → List Oper → Env → Bx → (Env → Bx → Prop) → Prop
  | _, _, [], env, B, K => K env B
  | i, gs, o :: os, env, B, K => guardT all env o
      (bif memN i es then mkOp P o env fun t r => Env.fresh (dstN o) env = true ∧ Bx.fresh (dstN o) B = true ∧ FreshOr all i t gs ∧ genVCM P all es B0 (i + 1) ((i, dstN o) :: gs) os (putE env o.dst t) ((dstN o, r) :: B) K
       else pureVC P o env B0 fun t => FreshOr all i t gs ∧ genVCM P all es B0 (i + 1) gs os (putE env o.dst t) B K)
      (genVCM P all es B0 (i + 1) gs os (putE env o.dst undefT) B K)
theorem bxX_cons (mk : Nat → Option (Nat × Res)) (B : Bx) : ∀ m, bxX mk B (fun _ => true) (m + 1) = bxX (fun i => mk (i + 1)) (match mk 0 with | some p => p :: B | none => B) (fun _ => true) m
 | 0 => by
  simp only [bxX]
  cases mk 0 <;> rfl
 | m + 1 => by
  rw [bxX, bxX_cons mk B m]
  all_goals (first | rfl | (conv => rhs; rw [bxX]))
  all_goals (cases mk (m + 1) <;> rfl)
theorem genM_trace (all : List Oper) (es : List Nat) (B0 : Bx) (K : Env → Bx → Prop) : ∀ (l : List Oper) (i0 : Nat) (gs : List (Nat × Nat)) (env : Env) (B : Bx), dstsOk n l = true → (∀ x ∈ B0, x ∈ B) → genVCM P all es B0 i0 gs l env B K →
  ∃ (t : Nat → T) (mk : Nat → Option (Nat × Res)), (∀ i o, l[i]? = some o → OSpecM P n all B0 o (envA l t (fun _ => true) env i) (t i) (mk i)) ∧ (∀ i p, mk i = some p → i < l.length) ∧ RowsOnly mk ∧
   (∀ i p, mk i = some p → Bx.fresh p.1 B = true) ∧ (∀ i j p q, mk i = some p → mk j = some q → i ≠ j → p.1 ≠ q.1) ∧ (∀ i, i < l.length → FreshOr all (i0 + i) (t i) gs) ∧
   (∀ g k p, mk g = some p → g < k → k < l.length → (t k).fresh p.1 = true ∨ depB all (i0 + k) (i0 + g) = true) ∧ K (envA l t (fun _ => true) env l.length) (bxX mk B (fun _ => true) l.length)
 | [], i0, gs, env, B, _, hB, h => ⟨fun _ => undefT, fun _ => none, fun i o ho => by simp at ho, fun _ _ h => (by cases h), fun _ _ h => (by cases h), fun _ _ h => (by cases h), fun _ _ _ _ h => (by cases h), fun i hi => by simp at hi, fun _ _ _ h => (by cases h), h⟩
 | o :: os, i0, gs, env, B, hd, hB, h => by
  simp only [dstsOk, List.all_cons, Bool.and_eq_true] at hd
  obtain ⟨⟨hd1, hd2⟩, hd3⟩ := hd
  have step : ∃ (t0 : T) (B' : Bx) (j0 : Option (Nat × Res)) (gs' : List (Nat × Nat)), OSpecM P n all B0 o env t0 j0 ∧ (∀ x ∈ B, x ∈ B') ∧ B' = (match j0 with | some p => p :: B | none => B) ∧ (∀ p, j0 = some p → p.2.plain ∧ Bx.fresh p.1 B = true ∧ (i0, p.1) ∈ gs') ∧ FreshOr all i0 t0 gs ∧
    (∀ p ∈ gs, p ∈ gs') ∧ genVCM P all es B0 (i0 + 1) gs' os (putE env o.dst t0) B' K := by
   rcases guardT_true h with ⟨hg, hx⟩ | ⟨hg, hx⟩
   ·cases hm : memN i0 es with
    | true =>
     rw [hm] at hx
     simp only [cond_true] at hx
     obtain ⟨t, r, hpl, hop, hfe, hfb, h2, h3⟩ := mkOp_sound hx
     refine ⟨t, _, some (dstN o, r), _, ⟨hd1, .inl ⟨hg, .inr ⟨_, _, rfl, Nat.le_of_ble_eq_true hd2, hfe, Bx.fresh_sub hfb hB, fun B' hs hf => hop B' hfe hf⟩⟩⟩, fun x hx => List.mem_cons_of_mem _ hx, rfl, fun p hp => ?_, h2, fun p hp => List.mem_cons_of_mem _ hp, h3⟩
     cases hp
     exact ⟨hpl, hfb, List.mem_cons_self⟩
    | false =>
     rw [hm] at hx
     simp only [cond_false] at hx
     obtain ⟨t, hop, h2, h3⟩ := pureVC_sound hx
     exact ⟨t, B, none, gs, ⟨hd1, .inl ⟨hg, .inl ⟨rfl, hop⟩⟩⟩, fun _ h => h, rfl, fun p hp => (by cases hp), h2, fun _ h => h, h3⟩
   ·exact ⟨undefT, B, none, gs, ⟨hd1, .inr ⟨hg, rfl, rfl⟩⟩, fun _ h => h, rfl, fun p hp => (by cases hp), FreshOr_un gs, fun _ h => h, hx⟩
  obtain ⟨t0, B', j0, gs', hspec, hsubB, hBe, hj0, hfr0, hsub, hk⟩ := step
  obtain ⟨t, mk, hs, hlen, hro, hfb, hdis, hfr, hjj, hK⟩ := genM_trace all es B0 K os (i0 + 1) gs' _ B' hd3 (fun x hx => hsubB x (hB x hx)) hk
  have hmk : ∀ i p, (match i with | 0 => j0 | i + 1 => mk i) = some p → (i = 0 ∧ j0 = some p) ∨ ∃ i', i = i' + 1 ∧ mk i' = some p := by
   intro i p h
   cases i with
   | zero => exact .inl ⟨rfl, h⟩
   | succ i => exact .inr ⟨i, rfl, h⟩
  have ne0 : ∀ i p q, j0 = some p → mk i = some q → q.1 ≠ p.1 := by
   intro i p q h1 h2
   have h3 := hfb i q h2
   subst h1
   rw [hBe] at h3
   exact fun e => (Bx.fresh_spec (j := p.1) (r := p.2) h3 List.mem_cons_self).1 e.symm
  refine ⟨fun i => match i with | 0 => t0 | i + 1 => t i, fun i => match i with | 0 => j0 | i + 1 => mk i, ?_, ?_, ?_, ?_, ?_, ?_, ?_, ?_⟩
  ·intro i o' ho
   cases i with
   | zero => simp at ho; subst ho; exact hspec
   | succ i =>
    rw [envA_cons]
    exact hs i o' (by simpa using ho)
  ·intro i p h
   rcases hmk i p h with ⟨rfl, _⟩ | ⟨i', rfl, h⟩
   ·simp
   ·have := hlen i' p h; simp; omega
  ·intro i p h
   rcases hmk i p h with ⟨rfl, h⟩ | ⟨i', rfl, h⟩
   ·exact (hj0 p h).1
   ·exact hro i' p h
  ·intro i p h
   rcases hmk i p h with ⟨rfl, h⟩ | ⟨i', rfl, h⟩
   ·exact (hj0 p h).2.1
   ·exact Bx.fresh_sub (hfb i' p h) hsubB
  ·intro i j p q h1 h2 hij
   rcases hmk i p h1 with ⟨rfl, h1⟩ | ⟨i', rfl, h1⟩ <;> rcases hmk j q h2 with ⟨rfl, h2⟩ | ⟨j', rfl, h2⟩
   ·exact absurd rfl hij
   ·exact fun e => ne0 j' p q h1 h2 e.symm
   ·exact ne0 i' q p h2 h1
   ·exact hdis i' j' p q h1 h2 (by omega)
  ·intro i hi
   cases i with
   | zero => exact hfr0
   | succ i =>
    have := hfr i (by simpa using hi)
    rw [show i0 + 1 + i = i0 + (i + 1) by omega] at this
    exact gen_trace.FreshOr_sub hsub this
  ·intro g k p hg hgk hk'
   cases k with
   | zero => omega
   | succ k =>
    rcases hmk g p hg with ⟨rfl, hg⟩ | ⟨g', rfl, hg⟩
    ·have := FreshOr_spec (hfr k (by simpa using hk')) (i0, p.1) (hj0 p hg).2.2
     rwa [show i0 + 1 + k = i0 + (k + 1) by omega] at this
    ·have := hjj g' k p hg (by omega) (by simpa using hk')
     rwa [show i0 + 1 + k = i0 + (k + 1) by omega, show i0 + 1 + g' = i0 + (g' + 1) by omega] at this
  ·rw [List.length_cons, envA_cons, bxX_cons]
   rw [hBe] at hK
   exact hK
def genMOk (n : Nat) (l : List Oper) : Bool := Region.lexB .any l.toArray && dstsOk n l
theorem AWP.genM {id : Nat} {l : List Oper} {env : Env} {B : Bx} (es : List Nat) (hm : P.follows .mixedOrders = true) (hl : genMOk n l = true)
  (h : ∀ K : Env → Bx → Prop, (∀ e b, Q .normal ⟨e, b⟩ → K e b) → genVCM P l es B 0 [] l env B K) : AWP P n (.region id l.toArray true) ⟨env, B⟩ Q := by
 simp only [genMOk, Bool.and_eq_true] at hl
 intro κ M0 a w hs
 obtain ⟨hback, hpairs, _⟩ := lex_pairs hl.1
 obtain ⟨t, mk, hsp, hlen, hro, hfb, hdis, _, hjj, hK⟩ := genM_trace l es B _ l 0 [] env B hl.2 (fun x hx => hx) (h (fun e b => Q .normal ⟨e, b⟩) (fun _ _ k => k))
 refine wp_region_any hm ?_
 have hsz : l.toArray.size = l.length := by simp
 rw [hsz]
 have hrep : ∀ j, (Array.replicate l.length false).getD j false = false := fun j => rep_getD _ j
 have hxs : ∀ j, xs (Array.replicate l.length false) j = false := fun j => rep_getD _ j
 refine genM_sound hback hpairs ⟨hdis, fun i p hp x hx => (Bx.fresh_spec (j := x.1) (r := x.2) (hfb i p hp) hx).1⟩ hro hlen hsp (fun g k p hg hgk hk => by have := hjj g k p hg hgk hk; simpa using this) (fun a w s => ⟨_, s, hK⟩) l.length _ a _ ?_ ?_
 ·unfold cnt
  have hfil : (List.range l.length).filter (fun i => !(Array.replicate l.length false).getD i false) = List.range l.length := by
   rw [List.filter_eq_self]
   intro x _
   simp only [hrep x, Bool.not_false]
  rw [hfil, List.length_range]
 ·have hst := mid_start (σ := ⟨env, B⟩) (l := l) (t := t) (b := fun _ => B) (e := fun _ => false) rfl hs
  obtain ⟨M, ν, m, h1, h2, h3, h4, _, _, h7, h8⟩ := hst.st
  have hbx : ∀ m, bxX mk B (xs (Array.replicate l.length false)) m = B := by
   intro m
   induction m with
   | zero => rfl
   | succ m ih => unfold bxX; rw [hxs m]; simp only [ih]
  exact ⟨hst.size, hst.closed, M, ν, h1, h2, h3, h4, by rw [hbx]; exact h7, h8⟩
theorem genMVC_nil {all : List Oper} {es : List Nat} {B0 : Bx} {i : Nat} {gs : List (Nat × Nat)} {env : Env} {B : Bx} {K : Env → Bx → Prop} (h : K env B) : genVCM P all es B0 i gs [] env B K := h
def genOpVCM (P : Program) (all : List Oper) (es : List Nat) (B0 : Bx) (i : Nat) (gs : List (Nat × Nat)) (o : Oper) (env : Env) (B : Bx) (K' : List (Nat × Nat) → Env → Bx → Prop) : Prop :=
  bif memN i es then mkOp P o env fun t r => Env.fresh (dstN o) env = true ∧ Bx.fresh (dstN o) B = true ∧ FreshOr all i t gs ∧ K' ((i, dstN o) :: gs) (putE env o.dst t) ((dstN o, r) :: B)
  else pureVC P o env B0 fun t => FreshOr all i t gs ∧ K' gs (putE env o.dst t) B
theorem genMVC_stepN {all os : List Oper} {es : List Nat} {B0 : Bx} {i : Nat} {gs : List (Nat × Nat)} {o : Oper} {env : Env} {B : Bx} {K : Env → Bx → Prop} (hg : o.guard = none)
  (h : ∀ K' : List (Nat × Nat) → Env → Bx → Prop, (∀ gs e b, genVCM P all es B0 (i + 1) gs os e b K → K' gs e b) → genOpVCM P all es B0 i gs o env B K') : genVCM P all es B0 i gs (o :: os) env B K :=
 guardT_none hg (h (fun gs e b => genVCM P all es B0 (i + 1) gs os e b K) fun _ _ _ q => q)
theorem genMVC_stepG {all os : List Oper} {es : List Nat} {B0 : Bx} {i : Nat} {gs : List (Nat × Nat)} {o : Oper} {env : Env} {B : Bx} {K : Env → Bx → Prop} {j d : Nat} {want : Bool} (hg : o.guard = some (j, want)) (hd : (all[j]?).bind (·.dst) = some d)
  (h : ∀ K' : List (Nat × Nat) → Env → Bx → Prop, (∀ gs e b, genVCM P all es B0 (i + 1) gs os e b K → K' gs e b) → guardE (env.lookup d) want (genOpVCM P all es B0 i gs o env B K') (K' gs (putE env o.dst undefT) B)) : genVCM P all es B0 i gs (o :: os) env B K :=
 guardT_some hg hd (h (fun gs e b => genVCM P all es B0 (i + 1) gs os e b K) fun _ _ _ q => q)
attribute [go_sem] genOpVCM mkOp vAppendM
def lastVC (P : Program) : List Oper → Env → Bx → (Env → Bx → Prop) → Prop
 | [o], env, B, K => (match o.op with
  | .store t x y => vStore P t (ev P env 0 x) (ev P env t y) B (fun B' => K (putE env o.dst undefT) B')
  | _ => False)
 | _, _, _, _ => False
attribute [go_sem] lastVC
end Go.Sx

namespace Go.Sx
theorem AWP.condT {P : Program} {n : Nat} {σ : AS} {Q : Exit → AS → Prop} {c : Operand} {x y : Code} (hc : ev0 σ.env c = some (.one (.dat (.bool true)))) (h : AWP P n x σ Q) : AWP P n (.cond c x y) σ Q := AWP.cond hc (fun _ => h) fun e => absurd e (by decide)
theorem AWP.condF {P : Program} {n : Nat} {σ : AS} {Q : Exit → AS → Prop} {c : Operand} {x y : Code} (hc : ev0 σ.env c = some (.one (.dat (.bool false)))) (h : AWP P n y σ Q) : AWP P n (.cond c x y) σ Q := AWP.cond hc (fun e => absurd e (by decide)) fun _ => h
theorem AWP.cnd {P : Program} {n : Nat} {σ : AS} {Q : Exit → AS → Prop} {c : Operand} {x y : Code} {b : Bool} (ht : b = true → AWP P n x σ Q) (hf : b = false → AWP P n y σ Q) (hc : ev0 σ.env c = some (.one (.dat (.bool b))) := by with_unfolding_all rfl) : AWP P n (.cond c x y) σ Q := AWP.cond hc ht hf
theorem stp {P Q : Prop} (h : Q) (k : Q → P := by
 intro q
 with_reducible first
  | exact seqVC_stepN rfl q
  | exact AWP.seq q
  | exact AWP.seqR (by kernel_rfl) q
  | exact parVC_stepN rfl q
  | exact parEVC_stepN rfl q
  | exact genVC_stepN rfl q
  | exact gen2VC_stepN rfl q
  | exact genMVC_stepN rfl q
  | exact seqVC_stepG rfl (by with_unfolding_all rfl) q
  | exact parVC_stepG rfl (by with_unfolding_all rfl) q
  | exact parEVC_stepG rfl (by with_unfolding_all rfl) q
  | exact genVC_stepG rfl (by with_unfolding_all rfl) q
  | exact gen2VC_stepG rfl (by with_unfolding_all rfl) q
  | exact genMVC_stepG rfl (by with_unfolding_all rfl) q) : P := k h
theorem stn {P Q : Prop} (h : Q) (k : Q → P := by
 intro q
 with_reducible first
  | exact seqVC_nil q
  | exact parVC_nil q
  | exact parEVC_nil q
  | exact genVC_nil q
  | exact gen2VC_nil q
  | exact genMVC_nil q
  | exact AWP.block q
  | exact AWP.condT (by with_unfolding_all rfl) q
  | exact AWP.condF (by with_unfolding_all rfl) q
  | exact AWP.skip q
  | exact AWP.ret q
  | exact AWP.exit q) : P := k h
theorem stp' {P Q : Prop} (h : Q) (k : Q → P := by
  intro q
  with_reducible exact AWP.parR mixed (by kernel_rfl) q) : P := k h
theorem stq {P Q : Prop} (h : Q) (k : Q → P := by
 intro q
 with_reducible first
  | exact ⟨(by kernel_rfl : depB _ _ _ = true), q⟩
  | exact Or.inl q) : P := k h
theorem nf {P : Prop} (h : P) (k : P → P := by (fail_if_success guard_target =ₛ False → False); exact id) : P := k h
theorem sts {P Q : Prop} (h : Q) (k : Q → P := by intro q; simp only [go_sem, zA, zB, zC, zD, zE, zF, zG, reduceCtorEq, zH, zI, zJ, zK, zL]; exact q) : P := k h
theorem Gh.tt {n : Nat} {env : Env} {B : Bx} (l : List (Nat × Nat)) {τ : AS}
  (h1 : wkE l env τ.env := by (repeat (first | exact trivial | refine ⟨rfl, ?_⟩ | refine ⟨by (simp only [go_sem, zA, zB, zC, zD, zE, zF, zG, reduceCtorEq, zH, zI, zJ, zK, zL, List.length_append, List.length_map, List.length_cons, List.length_nil, Nat.zero_add]) <;> rfl, ?_⟩)))
  (h2 : wkB l B τ.B := by (repeat (first | exact trivial | refine ⟨rfl, ?_⟩ | refine ⟨by (simp only [go_sem, zA, zB, zC, zD, zE, zF, zG, reduceCtorEq, zH, zI, zJ, zK, zL, List.length_append, List.length_map, List.length_cons, List.length_nil, Nat.zero_add]) <;> rfl, ?_⟩)))
  (h3 : noDup (τ.B.map fun p => rn l p.1) = true := by rfl) (h4 : noDup (τ.B.map (·.1)) = true := by rfl) (h5 : rnLow l = true := by rfl) : Gh n ⟨env, B⟩ τ := Gh.to l h1 h2 h3 h4 h5
theorem lf {P : Prop} (h : P := by first | exact fun _ h => absurd h List.not_mem_nil | (refine fin0 ?_; first | rfl | (simp only [zb, cond_true, cond_false, decide_true, decide_false] <;> rfl))) : P := h
theorem PCB.ob {P : Program} {n : Nat} {f : FuncId} {fn : Func} {c : Code} {args : List T} {B B' : Bx} {r : T} (hf : P.funcs[f]? = some fn) (hnt : fn.ntmps = n) {rs : List ResultVar} (hres : fn.results = rs.toArray) (h : AWP P n c ⟨envOf 0 args, B⟩ (RetQ P rs r B'))
  (hb : fn.body = some c := by rfl) (hn : (fn.name == "runtime.NumGoroutine") = false := by decide) (hlen : Nat.ble args.length n = true := by rfl) (hpin : pinsOnly B = true := by rfl) (hk : B'.map (·.1) = B.map (·.1) := by rfl) (hpr : r.pins = true := by rfl) (hpB : bxPins B' = true := by rfl) : PCB P f args B r B' :=
 PCB.of_body hf hb hn hnt hres hlen hpin hk h hpr hpB
theorem Gh.fz {n : Nat} {env : Env} {B : Bx} (k : Nat) {sz : Nat} {rows : List (List C)} (hb : B.lookup k = some (.row sz rows) := by rfl) (hlow : lowN k = true := by rfl)
  (hE : Env.frOk k rows.length env := by simp only [go_sem, zA, zB, zC, zD, zE, zF, zG, reduceCtorEq, zH, zI, zJ, zK, zL, List.length_map]) (hB : Bx.frOk k rows.length B := by simp only [go_sem, zA, zB, zC, zD, zE, zF, zG, reduceCtorEq, zH, zI, zJ, zK, zL, List.length_map]) :
  Gh n ⟨env, B⟩ ⟨frE k sz rows env, frB k sz rows (Bx.drop k B)⟩ := Gh.freeze k hb hlow hE hB
end Go.Sx
namespace Go.Sx
variable {P : Program} {n : Nat} {Q : Exit → AS → Prop}
def Is {α : Type} (a b : α) : Prop := a = b
def keepB (B : Bx) : List Nat → Bx
 | [] => []
 | d :: ds => match B.lookup d with
  | some t => (d, t) :: keepB B ds
  | none => keepB B ds
attribute [go_sem] keepB
theorem AWP.loopF {c : Code} {env : Env} {B : Bx} {X : Type} (chg : X → Env) (chB : X → Bx) (ks kb : List Nat) (ok : X → Prop) (meas : X → Nat) (x₀ : X)
  (hs : Gh n ⟨env, B⟩ ⟨chg x₀ ++ keepL env ks, chB x₀ ++ keepB B kb⟩) (h₀ : ok x₀)
  (round : ∀ x, ok x → AWP P n c ⟨chg x ++ keepL env ks, chB x ++ keepB B kb⟩ (Then (fun σ' => ∃ x', meas x' < meas x ∧ ok x' ∧ Gh n σ' ⟨chg x' ++ keepL env ks, chB x' ++ keepB B kb⟩) Q)) : AWP P n (.loop c) ⟨env, B⟩ Q :=
 AWP.loopS (fun x => chg x ++ keepL env ks) (fun x => chB x ++ keepB B kb) ok meas x₀ hs h₀ round
theorem AWP.range {c : Code} {env : Env} {B : Bx} {α S : Type} (l : List α) (enc : α → List C) (chg : Nat → S → Env) (chB : Nat → S → Bx) (ks kb : List Nat) (ok : Nat → S → Prop) (s₀ : S)
  (hs : Gh n ⟨env, B⟩ ⟨chg 0 s₀ ++ keepL env ks, chB 0 s₀ ++ keepB B kb⟩) (h₀ : ok 0 s₀)
  (step : ∀ (k : Nat) (s : S) (x : α), k < l.length → l[k]? = some x → (l.map enc)[k]? = some (enc x) → decide ((k : Int) < (l.length : Int)) = true → ok k s →
   AWP P n c ⟨chg k s ++ keepL env ks, chB k s ++ keepB B kb⟩ (Then (fun σ' => ∃ s', ok (k + 1) s' ∧ Gh n σ' ⟨chg (k + 1) s' ++ keepL env ks, chB (k + 1) s' ++ keepB B kb⟩) Q))
  (done : ∀ s : S, decide ((l.length : Int) < (l.length : Int)) = false → ok l.length s → AWP P n c ⟨chg l.length s ++ keepL env ks, chB l.length s ++ keepB B kb⟩ (Then (fun _ => False) Q)) : AWP P n (.loop c) ⟨env, B⟩ Q := by
 refine AWP.loopF (X := Nat × S) (fun x => chg x.1 x.2) (fun x => chB x.1 x.2) ks kb (fun x => x.1 ≤ l.length ∧ ok x.1 x.2) (fun x => l.length - x.1) (0, s₀) hs ⟨Nat.zero_le _, h₀⟩ ?_
 rintro ⟨k, s⟩ ⟨hk, hok⟩
 simp only at hk hok ⊢
 by_cases hlt : k < l.length
 ·obtain ⟨x, hx, hx', hb, _⟩ := at_lt (enc := enc) hlt
  refine (step k s x hlt hx hx' hb hok).mono ?_
  intro e σ' hq
  cases e with
  | normal => obtain ⟨s', h1, h2⟩ := hq; exact ⟨(k + 1, s'), by simp only; omega, ⟨by simp only; omega, h1⟩, h2⟩
  | exit id => exact hq
  | goto l => exact hq
  | ret => exact hq
  | panic ch => exact hq
  | outgrown => exact hq
 ·have : k = l.length := by omega
  subst this
  refine (done s (by simp) hok).mono ?_
  intro e σ' hq
  cases e with
  | normal => exact hq.elim
  | exit id => exact hq
  | goto l => exact hq
  | ret => exact hq
  | panic ch => exact hq
  | outgrown => exact hq
theorem Cell.reps_get {M : Mem} {ν : Nu} : ∀ {cs : List Cell} {vs : List Value} {j : Nat} {c : Cell}, Cell.reps M ν cs vs → cs[j]? = some c → ∃ v, Cell.rep M ν c v
 | [], _, j, c, _, h => by simp at h
 | d :: cs, vs, 0, c, h, e => by
  simp only [Cell.reps] at h
  obtain ⟨v, vs', _, h1, _⟩ := h
  simp at e; subst e
  exact ⟨v, h1⟩
 | d :: cs, vs, j + 1, c, h, e => by
  simp only [Cell.reps] at h
  obtain ⟨v, vs', _, _, h2⟩ := h
  exact Cell.reps_get h2 (by simpa using e)
theorem AWP.lenB {c : Code} {env : Env} {B : Bx} (k j : Nat) {cs : List Cell} {sz : Nat} {rows : List (List C)} (hb : B.lookup k = some (.cells cs)) (hj : cs[j]? = some (.dat (.sl sz rows)))
  (h : rows.length ≤ 9223372036854775807 → AWP P n c ⟨env, B⟩ Q) : AWP P n c ⟨env, B⟩ Q := by
 intro κ M0 a w s
 refine h ?_ κ M0 a w s
 obtain ⟨M, ν, _, _, _, _, h5, _⟩ := s
 have := h5.res k _ (lookup_box hb)
 obtain ⟨b, c, et, _, _, hr⟩ := this
 obtain ⟨v, hv⟩ := Cell.reps_get hr hj
 simp only [Cell.rep, C.rep] at hv
 obtain ⟨_, cap, _, _, h1, h2, _⟩ := hv
 unfold maxLen at h2
 omega
end Go.Sx
namespace Go.Sx
variable {P : Program}
theorem AWP.join {n : Nat} {Q : Exit → AS → Prop} {S : Type} {id : Nat} {l : Array Oper} {d : Bool} {x y : Code} {env : Env} {B : Bx} (chg : S → Env) (chB : S → Bx) (ks kb : List Nat) (ok : S → Prop)
  (hx : AWP P n (.seq (.region id l d) x) ⟨env, B⟩ (Then (fun σ' => ∃ s, ok s ∧ Gh n σ' ⟨chg s ++ keepL env ks, chB s ++ keepB B kb⟩) Q))
  (hy : ∀ s, ok s → AWP P n y ⟨chg s ++ keepL env ks, chB s ++ keepB B kb⟩ Q) : AWP P n (.seq (.seq (.region id l d) x) y) ⟨env, B⟩ Q := by
 intro κ M0 a w hs
 refine wp_seq (wp_mono (hx κ M0 a w hs) ?_)
 rintro e a' w' ⟨σ', s, q⟩
 cases e with
 | normal =>
  obtain ⟨s', hok, hg⟩ := q
  exact hy s' hok κ M0 a' w' (hg κ M0 a' w' s)
 | _ => exact ⟨σ', s, q⟩
theorem stepGen {n : Nat} {all os : List Oper} {o : Oper} {env : Env} {B B' : Bx} {t : T} {K : AS → Prop} (hg : o.guard = none) (hd1 : dstOk n o = true) (hd2 : Nat.blt (dstN o) pin = true)
  (h1 : OpG P o env B (dstN o) t B') (hf : Env.fresh (dstN o) env = true) (h2 : seqSem P n all os ⟨putE env o.dst t, B'⟩ K) : seqSem P n all (o :: os) ⟨env, B⟩ K := by
 unfold seqSem guardT
 rw [hg]
 exact .gen (dstN o) t B' h1 (Nat.le_of_ble_eq_true hd2) hf hd1 (by rw [put_as]; exact h2)
end Go.Sx
namespace Go.Sx
variable {P : Program} {n : Nat} {Q : Exit → AS → Prop}
def mkB (P : Program) (t : TypeId) : Option TypeId :=
 match P.underlying t with
 | some (.slice e) => match P.info? e with
  | some i => match i.zero with
   | some (.bool false) => bif decide (i.size = 1) && decide (i.bytes ≤ 8) then some e else none
   | _ => none
  | none => none
 | _ => none
theorem mkB_spec {t : TypeId} {e : TypeId} (h : mkB P t = some e) : P.underlying t = some (.slice e) ∧ ∃ i, P.info? e = some i ∧ i.zero = some (.bool false) ∧ i.size = 1 ∧ i.bytes ≤ 8 := by
 unfold mkB at h
 split at h
 ·rename_i e' hu
  split at h
  ·rename_i i hi
   split at h
   ·rename_i hz
    cases hc : decide (i.size = 1) && decide (i.bytes ≤ 8) with
    | false => rw [hc] at h; cases h
    | true =>
     rw [hc] at h
     simp only [cond_true, Option.some.injEq] at h
     subst h
     simp only [Bool.and_eq_true, decide_eq_true_eq] at hc
     exact ⟨hu, i, hi, hz, hc.1, hc.2⟩
   ·cases h
  ·cases h
 ·cases h
def vMakeB (P : Program) (k : Nat) (x y : Option T) (env : Env) (B : Bx) (K : T → Bx → Prop) : Prop :=
  match x, y with
  | some (.one (.dat (.int _ m))), some (.one (.dat (.int _ n))) => m = n ∧ 0 ≤ n ∧ n ≤ 16777216 ∧ Env.fresh k env = true ∧ Bx.fresh k B = true ∧ K (.one (.own k n.toNat)) ((k, .row 1 (List.replicate n.toNat [.bool false])) :: B)
  | _, _ => False
theorem repRows_zeroB {M : Mem0} : ∀ n : Nat, repRows M 1 (List.replicate n [C.bool false]) (List.replicate n (Value.bool false))
 | 0 => by simp [repRows]
 | n + 1 => by
  simp only [List.replicate_succ, repRows]
  exact ⟨[.bool false], _, rfl, rfl, by simp only [repRow, C.rep]; exact ⟨_, _, rfl, rfl, rfl⟩, repRows_zeroB n⟩
theorem made_zeroB (n : Nat) : (madeCells (Value.bool false).cells n).toList = List.replicate n (Value.bool false) := by
  unfold madeCells
  have hc : (Value.bool false).cells = #[Value.bool false] := rfl
  rw [hc, Array.toList_map]
  rw [List.eq_replicate_iff]
  refine ⟨by simp, fun v hv => ?_⟩
  obtain ⟨j, _, rfl⟩ := List.mem_map.1 hv
  simp [Nat.mod_one]
theorem vMakeB_sound {t e : TypeId} {x y : Operand} {tx ty : TypeId} {env : Env} {B : Bx} {o : Oper} {K : T → Bx → Prop} (ho : o.op = .makeSlice t x y) (hm : mkB P t = some e)
  (h : vMakeB P (dstN o) (ev P env tx x) (ev P env ty y) env B K) : ∃ t B', OpG P o env B (dstN o) t B' ∧ Env.fresh (dstN o) env = true ∧ K t B' := by
 have hx : x ∈ o.op.operands := by rw [ho]; simp [Op.operands]
 have hy : y ∈ o.op.operands := by rw [ho]; simp [Op.operands]
 have hex : ∀ (a : Act), execOp a.eval o = (do pure (.value (← Instr.makeSlice t (a.eval x) (a.eval y)))) := by
  intro a; unfold execOp; rw [ho]
 unfold vMakeB at h
 split at h
 ·rename_i k1 m k2 nn ex ey
  obtain ⟨rfl, h0, hle, hf, hfB, hK⟩ := h
  obtain ⟨hu, i, hi, hz, hs1, hb8⟩ := mkB_spec hm
  refine ⟨_, _, OpG.of_run fun κ M ν ac w he hs => ?_, hf, hK⟩
  have e1 := rep_int.1 (ev_rep he hx ex)
  have e2 := rep_int.1 (ev_rep he hy ey)
  refine ⟨.slice (some ⟨w.heap.size, 0, none⟩) m.toNat m.toNat, _, M, ν.set (dstN o) ⟨some w.heap.size, m.toNat⟩, exec_v (hex ac) ?_, Mem.ext.refl κ M, Nu.set_other, ?_, hs.new_box (c := madeCells (Value.bool false).cells (m.toNat * i.size)) (et := e) hfB ?_⟩
  ·rw [e1, e2]
   have hb : (i.bytes : Int) * m ≤ 281474976710656 := by
    have h1 : (i.bytes : Int) * m ≤ 8 * m := Int.mul_le_mul_of_nonneg_right (by omega) h0
    omega
   exact run_makeSlice w t e i (.bool false) hu hi hz k1 k2 m m h0 (Int.le_refl _) (by rw [hs1]; omega) hb (by omega)
  ·simp only [T.rep, Cell.rep]
   rw [Nu.set_self]; rfl
  ·simp only [Res.ok, Nu.set_self]
   rw [hs1, Nat.mul_one]
   refine ⟨by simp, by unfold maxLen; omega, .inr ⟨w.heap.size, _, e, List.replicate m.toNat (Value.bool false), [], rfl, push_new, by simp [made_zeroB], repRows_zeroB _, by rw [size_madeCells]⟩⟩
 ·exact h.elim
theorem AWP.mkB {id : Nat} {l : List Oper} {env : Env} {B : Bx} (i : Nat) {o : Oper} {t : TypeId} {x y : Operand} (hi : l[i]? = some o) (ho : o.op = .makeSlice t x y) (hg : o.guard = none) (hd : dstsOk n l = true) (hm : (mkB P t).isSome = true)
  (h : ∀ K : Env → Bx → Prop, (∀ e b, Q .normal ⟨e, b⟩ → K e b) → seqVC P l (l.take i) env B fun env1 B1 => vMakeB P (dstN o) (ev P env1 0 x) (ev P env1 0 y) env1 B1 fun u B2 => seqVC P l (l.drop (i + 1)) (putE env1 o.dst u) B2 K) : AWP P n (.region id l.toArray false) ⟨env, B⟩ Q := by
 obtain ⟨et, hm⟩ := Option.isSome_iff_exists.1 hm
 refine AWP.region_seq fun K hK => ?_
 have hsub : ∀ l' : List Oper, (∀ x ∈ l', x ∈ l) → dstsOk n l' = true := fun l' hs => List.all_eq_true.2 fun x hx => List.all_eq_true.1 hd x (hs x hx)
 have hil : i < l.length := (List.getElem?_eq_some_iff.1 hi).1
 have hoi : l[i] = o := (List.getElem?_eq_some_iff.1 hi).2
 have e : l = l.take i ++ (o :: l.drop (i + 1)) := by
  conv => lhs; rw [← List.take_append_drop i l]
  rw [List.drop_eq_getElem_cons hil, hoi]
 have hv := h (fun e b => K ⟨e, b⟩) (fun e b q => hK _ q)
 have hs : seqSem P n l (l.take i) ⟨env, B⟩ (fun τ => seqSem P n l (o :: l.drop (i + 1)) τ K) := by
  refine seqSem_mn l ?_ _ _ (seqVC_sound l (fun τ => vMakeB P (dstN o) (ev P τ.env 0 x) (ev P τ.env 0 y) τ.env τ.B fun u B2 => seqVC P l (l.drop (i + 1)) (putE τ.env o.dst u) B2 fun e b => K ⟨e, b⟩) (l.take i) env B (hsub _ fun x hx => List.mem_of_mem_take hx) hv)
  rintro ⟨env1, B1⟩ hb
  obtain ⟨u, B2, hop, hf, hk⟩ := vMakeB_sound (B := B1) ho hm hb
  have hall := List.all_eq_true.1 hd o (List.mem_of_getElem? hi)
  simp only [Bool.and_eq_true] at hall
  exact stepGen hg hall.1 hall.2 hop hf (seqVC_sound l K (l.drop (i + 1)) _ B2 (hsub _ fun x hx => List.mem_of_mem_drop hx) hk)
 have := seqSem_ap l K (o :: l.drop (i + 1)) (l.take i) ⟨env, B⟩ hs
 rw [← e] at this
 exact this
attribute [go_sem] vMakeB
mutual
def Cell.rfOk (k len : Nat) : Cell → Prop
  | .ptr j o => (j == k) = true → o ≤ len
  | .clo _ caps => Cell.rfOks k len caps
  | _ => True
def Cell.rfOks (k len : Nat) : List Cell → Prop
  | [] => True
  | c :: cs => Cell.rfOk k len c ∧ Cell.rfOks k len cs
end
mutual
def Cell.rf (k : Nat) (row : List C) : Cell → Cell
  | .ptr j o => bif j == k then .ref (row.drop o) else .ptr j o
  | .clo f caps => .clo f (Cell.rfs k row caps)
  | .dat c => .dat c
  | .own j m => .own j m
  | .rp j s i f => .rp j s i f
  | .arr j n => .arr j n
  | .ref r => .ref r
  | .mp j => .mp j
def Cell.rfs (k : Nat) (row : List C) : List Cell → List Cell
  | [] => []
  | c :: cs => Cell.rf k row c :: Cell.rfs k row cs
end
mutual
def T.rfOk (k len : Nat) : T → Prop
  | .one c => c.rfOk k len
  | .agg cs => Cell.rfOks k len cs
  | .tup ts => T.rfOks k len ts
  | _ => True
def T.rfOks (k len : Nat) : List T → Prop
  | [] => True
  | t :: ts => T.rfOk k len t ∧ T.rfOks k len ts
end
mutual
def T.rf (k : Nat) (row : List C) : T → T
  | .one c => .one (c.rf k row)
  | .agg cs => mkAgg (Cell.rfs k row cs)
  | .tup ts => .tup (T.rfs k row ts)
  | .st r => .st r
  | .un => .un
def T.rfs (k : Nat) (row : List C) : List T → List T
  | [] => []
  | t :: ts => T.rf k row t :: T.rfs k row ts
end
theorem At.drop {M : Mem} {b : Nat} {mid : List Value} (h : At (M b) 0 mid) (o : Nat) (ho : o ≤ mid.length) : At (M b) o (mid.drop o) := by
  obtain ⟨c, et, fz, pre, post, e, h1, h2⟩ := h
  have : pre = [] := List.length_eq_zero_iff.1 h2
  subst this
  refine ⟨c, et, fz, mid.take o, post, e, ?_, by simp; omega⟩
  rw [h1, List.nil_append, ← List.append_assoc, List.take_append_drop]
def rfE (k : Nat) (row : List C) : Env → Env
  | [] => []
  | p :: env => (p.1, p.2.rf k row) :: rfE k row env
def Env.rfOk (k len : Nat) : Env → Prop
  | [] => True
  | p :: env => p.2.rfOk k len ∧ Env.rfOk k len env
def rfB (k : Nat) (row : List C) : Bx → Bx
 | [] => []
 | p :: B => (match p.2 with
  | .cells cs => (p.1, .cells (Cell.rfs k row cs))
  | r => (p.1, r)) :: rfB k row B
def Bx.rfOk (k len : Nat) : Bx → Prop
 | [] => True
 | p :: B => (match p.2 with
  | .cells cs => Cell.rfOks k len cs
  | _ => True) ∧ Bx.rfOk k len B
def datRow : List Cell → Option (List C)
 | [] => some []
 | .dat c :: cs => match datRow cs with
  | some r => some (c :: r)
  | none => none
 | _ => none
attribute [go_sem] rfE rfB Env.rfOk Bx.rfOk T.rf T.rfs Cell.rf Cell.rfs T.rfOk T.rfOks Cell.rfOk Cell.rfOks datRow List.drop_zero
end Go.Sx
namespace Go.Sx
variable {P : Program} {n : Nat} {σ : AS} {Q : Exit → AS → Prop}
def Res.flatB : Res → Bool
  | .cells cs => Cell.allInP (fun _ => false) cs
  | .row _ _ => true
  | .mp _ _ => true
def turnVC (P : Program) (o : Oper) (env : Env) (B : Bx) (K : T → Bx → Prop) : Prop :=
 match o.op with
 | .call { callee := .value f, args := args, argTypes := ts } =>
  match calleeT (ev P env 0 f), evs P env args.toList ts.toList with
  | some (g, caps), some us => ∃ k res r res', PCBk P g (us ++ caps) k res r res' ∧ B.lookup k = some res ∧ res.flatB = true ∧ K r (Bx.put k res' B)
  | _, _ => False
 | _ => False
attribute [go_sem] turnVC Res.flatB Cell.allInP Cell.inP
def effN (P : Program) (o : Oper) (env : Env) (B : Bx) (K : T → Bx → Prop) : Prop :=
 match o.op with
 | .call { callee := .value f, args := args, argTypes := ts } =>
  match calleeT (ev P env 0 f), evs P env args.toList ts.toList with
  | some (g, caps), some us => vCallN P (dstN o) g (us ++ caps) env B K
  | _, _ => False
 | _ => False
def genNOpVC (P : Program) (all : List Oper) (es ns : List Nat) (fixB : Bx) (i : Nat) (gs : List (Nat × Nat)) (o : Oper) (env : Env) (B : Bx) (K' : List (Nat × Nat) → Env → Bx → Prop) : Prop :=
  bif memN i ns then effN P o env B fun t B' => bxSub B' fixB ∧ FreshOr all i t gs ∧ K' ((i, dstN o) :: gs) (putE env o.dst t) B'
  else bif memN i es then effVC P o env B fun t B' => bxSub B' fixB ∧ FreshOr all i t gs ∧ K' (gsNext i o gs) (putE env o.dst t) B'
  else pureVC P o env fixB fun t => FreshOr all i t gs ∧ K' gs (putE env o.dst t) B
attribute [go_sem] effN genNOpVC
end Go.Sx

