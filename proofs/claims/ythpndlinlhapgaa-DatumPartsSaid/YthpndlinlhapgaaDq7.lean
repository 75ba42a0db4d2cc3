/- A part of the proof: lemmas about the walk of the program and about plain integers and lists. No conditions beyond those that each lemma states. -/
import Derived.Test.YthpndlinlhapgaaDq6
import Derived.Test.YthpndlinlhapgaaDq5
import Derived.Lib.SliceRun
import Derived.Test.YthpndlinlhapgaaDq4
set_option linter.unusedVariables false
set_option linter.unusedSimpArgs false
namespace Go.Sx
variable {P : Program} {n : Nat} {Q : Exit → AS → Prop}
mutual
/-- the row k, that has len elements, is spoken of at its full length -/
def Cell.frAOk (k len : Nat) : Cell → Prop
  | .arr j m => (j == k) = true → m = len
  | .clo _ caps => Cell.frAOks k len caps
  | _ => True
def Cell.frAOks (k len : Nat) : List Cell → Prop
  | [] => True
  | c :: cs => Cell.frAOk k len c ∧ Cell.frAOks k len cs
end
mutual
def Cell.frA (k sz : Nat) (rows : List (List C)) : Cell → Cell
  | .own j m => .own j m
  | .clo f caps => .clo f (Cell.frsA k sz rows caps)
  | .dat c => .dat c
  | .ptr j o => .ptr j o
  | .rp j s i f => .rp j s i f
  | .arr j m => bif j == k then .dat (.sl sz rows) else .arr j m
  | .ref r => .ref r
  | .mp j => .mp j
def Cell.frsA (k sz : Nat) (rows : List (List C)) : List Cell → List Cell
  | [] => []
  | c :: cs => Cell.frA k sz rows c :: Cell.frsA k sz rows cs
end
mutual
def T.frAOk (k len : Nat) : T → Prop
  | .one c => c.frAOk k len
  | .agg cs => Cell.frAOks k len cs
  | .tup ts => T.frAOks k len ts
  | _ => True
def T.frAOks (k len : Nat) : List T → Prop
  | [] => True
  | t :: ts => T.frAOk k len t ∧ T.frAOks k len ts
end
mutual
def T.frA (k sz : Nat) (rows : List (List C)) : T → T
  | .one c => .one (c.frA k sz rows)
  | .agg cs => mkAgg (Cell.frsA k sz rows cs)
  | .tup ts => .tup (T.frsA k sz rows ts)
  | .st r => .st r
  | .un => .un
def T.frsA (k sz : Nat) (rows : List (List C)) : List T → List T
  | [] => []
  | t :: ts => T.frA k sz rows t :: T.frsA k sz rows ts
end
/-- what is known of a frozen block -/
def FrArr (M M' : Mem) (ν : Nu) (k sz : Nat) (rows : List (List C)) : Prop :=
  M.le M' ∧ ∀ b, (ν k).blk = some b → (C.sl sz rows).rep M' (.slice (some ⟨b, 0, none⟩) rows.length rows.length)
mutual
theorem Cell.rep_frA {M M' : Mem} {ν : Nu} {k sz : Nat} {rows : List (List C)} (hF : FrArr M M' ν k sz rows) : ∀ (c : Cell) (v : Value), c.frAOk k rows.length → c.rep M ν v → (c.frA k sz rows).rep M' ν v
  | .own j m, v, _, h => by simp only [Cell.frA]; exact Cell.rep_mono hF.1 _ _ h
  | .clo f caps, v, hok, h => by
    simp only [Cell.frAOk] at hok
    simp only [Cell.rep] at h
    simp only [Cell.frA, Cell.rep]
    obtain ⟨vs, e, h⟩ := h
    exact ⟨vs, e, Cell.reps_frA hF caps vs hok h⟩
  | .dat c, v, _, h => by simp only [Cell.frA]; exact Cell.rep_mono hF.1 _ _ h
  | .ptr j o, v, _, h => by simp only [Cell.frA]; exact Cell.rep_mono hF.1 _ _ h
  | .rp j s i f, v, _, h => by simp only [Cell.frA]; exact Cell.rep_mono hF.1 _ _ h
  | .arr j m, v, hok, h => by
    simp only [Cell.frAOk] at hok
    simp only [Cell.frA]
    cases hj : (j == k) with
    | false => simp only [cond_false]; simpa only [Cell.rep] using h
    | true =>
      have hjk : j = k := by simpa using hj
      have hm := hok hj
      subst hm; subst hjk
      simp only [Cell.rep] at h
      obtain ⟨b, hb, e⟩ := h
      simp only [cond_true, Cell.rep]
      rw [e]; exact hF.2 b hb
  | .ref r, v, _, h => by simp only [Cell.frA]; exact Cell.rep_mono hF.1 _ _ h
  | .mp j, v, _, h => by simp only [Cell.frA]; exact Cell.rep_mono hF.1 _ _ h
theorem Cell.reps_frA {M M' : Mem} {ν : Nu} {k sz : Nat} {rows : List (List C)} (hF : FrArr M M' ν k sz rows) : ∀ (cs : List Cell) (vs : List Value), Cell.frAOks k rows.length cs → Cell.reps M ν cs vs → Cell.reps M' ν (Cell.frsA k sz rows cs) vs
  | [], vs, _, h => by simpa only [Cell.frsA, Cell.reps] using h
  | c :: cs, vs, hok, h => by
    simp only [Cell.frAOks] at hok
    simp only [Cell.reps] at h
    simp only [Cell.frsA, Cell.reps]
    obtain ⟨v, vs', e, h1, h2⟩ := h
    exact ⟨v, vs', e, Cell.rep_frA hF c v hok.1 h1, Cell.reps_frA hF cs vs' hok.2 h2⟩
end
mutual
theorem T.rep_frA {M M' : Mem} {ν : Nu} {k sz : Nat} {rows : List (List C)} (hF : FrArr M M' ν k sz rows) : ∀ (t : T) (v : Value), t.frAOk k rows.length → t.rep M ν v → (t.frA k sz rows).rep M' ν v
  | .one c, v, hok, h => by simp only [T.frAOk] at hok; simp only [T.frA, T.rep] at h ⊢; exact Cell.rep_frA hF c v hok h
  | .agg cs, v, hok, h => by
    simp only [T.frAOk] at hok
    simp only [T.rep] at h
    obtain ⟨a, e, h⟩ := h
    subst e
    simp only [T.frA]
    exact mkAgg_rep (Cell.reps_frA hF cs _ hok h)
  | .tup ts, v, hok, h => by
    simp only [T.frAOk] at hok
    simp only [T.rep] at h
    obtain ⟨a, e, h⟩ := h
    simp only [T.frA, T.rep]
    exact ⟨a, e, T.reps_frA hF ts a hok h⟩
  | .st r, v, _, h => by simp only [T.frA]; exact T.rep_mono hF.1 _ _ h
  | .un, v, _, h => by simp only [T.frA]; exact T.rep_mono hF.1 _ _ h
theorem T.reps_frA {M M' : Mem} {ν : Nu} {k sz : Nat} {rows : List (List C)} (hF : FrArr M M' ν k sz rows) : ∀ (ts : List T) (vs : List Value), T.frAOks k rows.length ts → T.reps M ν ts vs → T.reps M' ν (T.frsA k sz rows ts) vs
  | [], vs, _, h => by simpa only [T.frsA, T.reps] using h
  | t :: ts, vs, hok, h => by
    simp only [T.frAOks] at hok
    simp only [T.reps] at h
    simp only [T.frsA, T.reps]
    obtain ⟨v, vs', e, h1, h2⟩ := h
    exact ⟨v, vs', e, T.rep_frA hF t v hok.1 h1, T.reps_frA hF ts vs' hok.2 h2⟩
end
theorem repRows_of_flat {M : Mem} {sz : Nat} : ∀ {rows : List (List C)} {vs : List Value}, (∀ r ∈ rows, r.length = sz) → repRow M rows.flatten vs → repRows M sz rows vs
  | [], vs, _, h => by simp only [List.flatten_nil, repRow] at h; simp only [repRows]; exact h
  | r :: rows, vs, hl, h => by
    rw [List.flatten_cons] at h
    obtain ⟨v1, v2, e, h1, h2⟩ := repRow_split h
    simp only [repRows]
    exact ⟨v1, v2, e, hl r (by simp), h1, repRows_of_flat (fun x hx => hl x (List.mem_cons_of_mem _ hx)) h2⟩
theorem Sat.freezeA {κ : Kap} {M : Mem} {ν : Nu} {B : Bx} {w : World} {k sz : Nat} {cs : List Cell} {rows : List (List C)} (h : Sat κ M ν B w) (hk : (k, .cells cs) ∈ B) (hp : pureCs (cs.map Cell.soft) = some rows.flatten) (hl : ∀ r ∈ rows, r.length = sz) (hm : rows.length ≤ maxLen) (hlow : k < pin) :
    ∃ M', M.ext κ M' ∧ Sat κ M' ν (Bx.drop k B) w ∧ FrArr M M' ν k sz rows := by
  have hr := h.res k _ hk
  simp only [Res.ok] at hr
  obtain ⟨b, c, et, hb, hheap, hreps⟩ := hr
  have hreps := Cell.reps_soft hreps
  rw [pureCs_spec hp] at hreps
  have hrows := repRows_of_flat hl (Cell.reps_map_c.1 hreps)
  have hd := h.drop (B' := Bx.drop k B) (fun x hx => (Bx.mem_drop h.nodup hx).1) (Bx.drop_nodup k h.nodup)
  obtain ⟨ha1, ha2⟩ := h.away k _ b hk hb
  have hb2 : κ.w.heap.size ≤ b ∨ κ.D b := ha2
  have hle : M.le (M.add b (.cells c et (0, 0))) := by
    intro i x e
    rw [Mem.add_at ha1]
    split
    · rename_i hi; subst hi; rw [ha1] at e; cases e
    · exact e
  refine ⟨M.add b (.cells c et (0, 0)), ⟨hle, fun i x e => ?_⟩, ?_, hle, ?_⟩
  · rw [Mem.add_at ha1] at e
    split at e
    · rename_i hi; subst hi; exact .inr hb2
    · exact .inl e
  · refine ⟨hd.os, hd.tape, hd.output, Nat.zero_le _, hd.size, hd.unch, ?_, fun j r hm => Res.ok_mono hle (fun b x e _ => e) (hd.res j r hm), ?_, hd.inj, hd.nodup⟩
    · intro i x e
      rw [Mem.add_at ha1] at e
      split at e
      · rename_i hi; subst hi; cases e; exact hheap
      · exact h.fro _ _ e
    · intro j r b' hm hb'
      obtain ⟨hm', hne⟩ := Bx.mem_drop h.nodup hm
      obtain ⟨h1, h2⟩ := h.away j r b' hm' hb'
      refine ⟨?_, h2⟩
      rw [Mem.add_at ha1]
      rw [if_neg]
      · exact h1
      · intro e; subst e
        exact hne (h.inj j r k _ b' hm' hk hb' hb)
  · intro b' hb'
    rw [hb] at hb'; cases hb'
    simp only [C.rep]
    refine ⟨_, rows.length, c.toList, rfl, Nat.le_refl _, hm, repRows_mono hle sz rows _ hrows, .inr ⟨b, 0, rfl, ?_⟩⟩
    refine ⟨c, et, (0, 0), [], [], ?_, by simp, rfl⟩
    rw [Mem.add_at ha1, if_pos rfl]
def frAE (k sz : Nat) (rows : List (List C)) : Env → Env
  | [] => []
  | p :: env => (p.1, p.2.frA k sz rows) :: frAE k sz rows env
def Env.frAOk (k len : Nat) : Env → Prop
  | [] => True
  | p :: env => p.2.frAOk k len ∧ Env.frAOk k len env
def frAB (k sz : Nat) (rows : List (List C)) : Bx → Bx
  | [] => []
  | p :: B => (match p.2 with
    | .cells cs => (p.1, .cells (Cell.frsA k sz rows cs))
    | r => (p.1, r)) :: frAB k sz rows B
def Bx.frAOk (k len : Nat) : Bx → Prop
  | [] => True
  | p :: B => (match p.2 with
    | .cells cs => Cell.frAOks k len cs
    | _ => True) ∧ Bx.frAOk k len B
theorem frAE_lookup {k sz len d : Nat} {rows : List (List C)} {t : T} : ∀ {env : Env}, Env.frAOk k len env → (frAE k sz rows env).lookup d = some t → ∃ u, env.lookup d = some u ∧ t = u.frA k sz rows ∧ u.frAOk k len
  | [], _, h => by simp [frAE] at h
  | p :: env, ho, h => by
    obtain ⟨e, u⟩ := p
    simp only [Env.frAOk] at ho
    simp only [frAE, List.lookup_cons] at h ⊢
    cases hb : (d == e) with
    | true => rw [hb] at h; simp only [Option.some.injEq] at h; exact ⟨u, rfl, h.symm, ho.1⟩
    | false => rw [hb] at h; exact frAE_lookup ho.2 h
theorem frAB_mem {k sz len i : Nat} {rows : List (List C)} {r : Res} : ∀ {B : Bx}, Bx.frAOk k len B → (i, r) ∈ frAB k sz rows B → ∃ r0, (i, r0) ∈ B ∧ ((r = r0 ∧ ∀ cs, r0 ≠ .cells cs) ∨ ∃ cs, r0 = .cells cs ∧ r = .cells (Cell.frsA k sz rows cs) ∧ Cell.frAOks k len cs)
  | p :: B, ho, h => by
    obtain ⟨i', r'⟩ := p
    simp only [Bx.frAOk] at ho
    simp only [frAB] at h
    rcases List.mem_cons.1 h with h | h
    · cases r' with
      | cells cs => cases h; exact ⟨.cells cs, by simp, .inr ⟨cs, rfl, rfl, ho.1⟩⟩
      | row s rs => cases h; exact ⟨.row s rs, by simp, .inl ⟨rfl, by intro cs; simp⟩⟩
      | mp s rs => cases h; exact ⟨.mp s rs, by simp, .inl ⟨rfl, by intro cs; simp⟩⟩
    · obtain ⟨r0, hm, h⟩ := frAB_mem ho.2 h
      exact ⟨r0, List.mem_cons_of_mem _ hm, h⟩
theorem frAB_keys {k sz : Nat} {rows : List (List C)} : ∀ {B : Bx}, (frAB k sz rows B).map (·.1) = B.map (·.1)
  | [] => rfl
  | (i, .cells cs) :: B => by simp only [frAB, List.map_cons, frAB_keys]
  | (i, .row s rs) :: B => by simp only [frAB, List.map_cons, frAB_keys]
  | (i, .mp s rs) :: B => by simp only [frAB, List.map_cons, frAB_keys]
theorem Bx.frAOk_drop {k j len : Nat} : ∀ {B : Bx}, Bx.frAOk k len B → Bx.frAOk k len (Bx.drop j B)
  | [], _ => trivial
  | p :: B, h => by
    simp only [Bx.frAOk] at h
    unfold Bx.drop
    cases hp : (p.1 == j) with
    | true => exact h.2
    | false => exact ⟨h.1, Bx.frAOk_drop h.2⟩
theorem Gh.freezeA {env : Env} {B : Bx} (k sz : Nat) (rows : List (List C)) {cs : List Cell} (hb : B.lookup k = some (.cells cs)) (hp : pureCs (cs.map Cell.soft) = some rows.flatten) (hl : rows.all (fun r => lenIs sz r) = true) (hm : rows.length ≤ maxLen) (hlow : lowN k = true) (hE : Env.frAOk k rows.length env) (hB : Bx.frAOk k rows.length B) :
    Gh n ⟨env, B⟩ ⟨frAE k sz rows env, frAB k sz rows (Bx.drop k B)⟩ := by
  intro κ M0 a w s
  obtain ⟨M, ν, h1, h2, h3, h4, h5, h6⟩ := s
  obtain ⟨M', g1, g2, g3⟩ := h5.freezeA (lookup_box hb) hp (fun r hr => lenIs_spec (List.all_eq_true.1 hl r hr)) hm (lowN_spec hlow)
  have hB' := Bx.frAOk_drop (j := k) hB
  refine ⟨M', ν, h1.trans g1, h2, h3, ?_, ⟨g2.os, g2.tape, g2.output, Nat.zero_le _, g2.size, g2.unch, g2.fro, ?_, ?_, ?_, by rw [frAB_keys]; exact g2.nodup⟩, h6⟩
  · intro d t e
    obtain ⟨u, hu, rfl, hok⟩ := frAE_lookup hE e
    exact T.rep_frA g3 u _ hok (h4 d u hu)
  · intro i r hm
    obtain ⟨r0, hm0, ⟨rfl, _⟩ | ⟨cs, rfl, rfl, hok⟩⟩ := frAB_mem hB' hm
    · exact g2.res i r hm0
    · have h0 := h5.res i _ (Bx.mem_drop h5.nodup hm0).1
      simp only [Res.ok] at h0 ⊢
      obtain ⟨b, c, et, e1, e2, e3⟩ := h0
      exact ⟨b, c, et, e1, e2, Cell.reps_frA g3 cs _ hok e3⟩
  · intro i r b hm hb
    obtain ⟨r0, hm0, _⟩ := frAB_mem hB' hm
    exact g2.away i r0 b hm0 hb
  · intro i r i' r' b hm hm' hb hb'
    obtain ⟨r0, hm0, _⟩ := frAB_mem hB' hm
    obtain ⟨r1, hm1, _⟩ := frAB_mem hB' hm'
    exact g2.inj i r0 i' r1 b hm0 hm1 hb hb'
attribute [go_sem] Cell.frAOk Cell.frAOks T.frAOk T.frAOks Cell.frA Cell.frsA T.frA T.frsA frAE frAB Env.frAOk Bx.frAOk
end Go.Sx
set_option linter.unusedVariables false
namespace Go.Sx
variable {P : Program} {n : Nat} {Q : Exit → AS → Prop}
/-- the names that change: (theirs, ours) -/
def rn : List (Nat × Nat) → Nat → Nat
  | [], i => i
  | p :: l, i => bif i == p.1 then p.2 else rn l i
def rnLow : List (Nat × Nat) → Bool
  | [] => true
  | p :: l => Nat.blt p.1 pin && (Nat.blt p.2 pin && rnLow l)
theorem rn_pin : ∀ {l : List (Nat × Nat)}, rnLow l = true → ∀ k, pin ≤ k → rn l k = k
  | [], _, k, _ => rfl
  | p :: l, h, k, hk => by
    simp only [rnLow, Bool.and_eq_true] at h
    have h1 : p.1 < pin := by simpa using h.1
    unfold rn
    have : (k == p.1) = false := by simp; omega
    rw [this]; exact rn_pin h.2.2 k hk
theorem rn_low : ∀ {l : List (Nat × Nat)}, rnLow l = true → ∀ k, k < pin → rn l k < pin
  | [], _, k, hk => hk
  | p :: l, h, k, hk => by
    simp only [rnLow, Bool.and_eq_true] at h
    have h2 : p.2 < pin := by simpa using h.2.1
    unfold rn
    cases (k == p.1)
    · exact rn_low h.2.2 k hk
    · exact h2
def wkE (l : List (Nat × Nat)) (env : Env) : Env → Prop
  | [] => True
  | p :: τ => env.lookup p.1 = some (p.2.ren (rn l)) ∧ wkE l env τ
def wkB (l : List (Nat × Nat)) (B : Bx) : Bx → Prop
  | [] => True
  | p :: τ => B.lookup (rn l p.1) = some (p.2.ren (rn l)) ∧ wkB l B τ
theorem wkE_spec {l : List (Nat × Nat)} {env : Env} : ∀ {τ : Env}, wkE l env τ → ∀ p ∈ τ, env.lookup p.1 = some (p.2.ren (rn l))
  | q :: τ, h, p, hm => by
    rcases List.mem_cons.1 hm with rfl | hm
    · exact h.1
    · exact wkE_spec h.2 p hm
theorem wkB_spec {l : List (Nat × Nat)} {B : Bx} : ∀ {τ : Bx}, wkB l B τ → ∀ p ∈ τ, (rn l p.1, p.2.ren (rn l)) ∈ B
  | q :: τ, h, p, hm => by
    rcases List.mem_cons.1 hm with rfl | hm
    · exact lookup_box h.1
    · exact wkB_spec h.2 p hm
theorem Gh.to {env : Env} {B : Bx} (l : List (Nat × Nat)) {τ : AS} (h1 : wkE l env τ.env) (h2 : wkB l B τ.B) (h3 : noDup (τ.B.map fun p => rn l p.1) = true) (h4 : noDup (τ.B.map (·.1)) = true) (h5 : rnLow l = true) : Gh n ⟨env, B⟩ τ := by
  intro κ M0 a w s
  exact s.weak (ρ := rn l) ⟨wkE_spec h1, wkB_spec h2, noDup_spec h3, noDup_spec h4, rn_pin h5, rn_low h5⟩
/-- a loop whose states are told by data -/
theorem AWP.loopS {c : Code} {σ : AS} {X : Type} (env : X → Env) (box : X → Bx) (ok : X → Prop) (meas : X → Nat) (x₀ : X) (hs : Gh n σ ⟨env x₀, box x₀⟩) (h₀ : ok x₀)
    (round : ∀ x, ok x → AWP P n c ⟨env x, box x⟩ (Then (fun σ' => ∃ x', meas x' < meas x ∧ ok x' ∧ Gh n σ' ⟨env x', box x'⟩) Q)) : AWP P n (.loop c) σ Q := by
  refine AWP.gh hs ?_
  refine AWP.loop (fun k σ => ∃ x, σ = ⟨env x, box x⟩ ∧ ok x ∧ meas x = k) (meas x₀) ⟨x₀, rfl, h₀, rfl⟩ ?_
  rintro k _ ⟨x, rfl, hx, rfl⟩ κ M0 a w s
  refine wp_mono (round x hx κ M0 a w s) ?_
  rintro e a' w' ⟨σ', s', q⟩
  cases e with
  | normal => obtain ⟨x', h1, h2, h3⟩ := q; exact ⟨_, h3 κ M0 a' w' s', meas x', h1, x', rfl, h2, rfl⟩
  | exit id => exact ⟨σ', s', q⟩
  | goto l => exact ⟨σ', s', q⟩
  | ret => exact ⟨σ', s', q⟩
  | panic ch => exact ⟨σ', s', q⟩
  | outgrown => exact ⟨σ', s', q⟩
theorem PCBk.mk {f : FuncId} {args0 : List T} {res0 res0' : Res} {r0 : T} (k : Nat) (h : PCB P f args0 [(pin, res0)] r0 [(pin, res0')]) :
    PCBk P f (T.rens (fun _ => k) args0) k (res0.ren fun _ => k) (r0.ren fun _ => k) (res0'.ren fun _ => k) := ⟨_, _, _, _, h, rfl, rfl, rfl, rfl⟩
/-- at the end a step of the proof's own may be taken (freezing) -/
def GhQ (n : Nat) (Q : Exit → AS → Prop) (e : Exit) (σ : AS) : Prop := ∃ τ, Gh n σ τ ∧ Q e τ
theorem AWP.ghQ {c : Code} {σ : AS} (h : AWP P n c σ (GhQ n Q)) : AWP P n c σ Q := by
  intro κ M0 a w s
  refine wp_mono (h κ M0 a w s) ?_
  rintro e a' w' ⟨σ', s', τ, g, q⟩
  exact ⟨τ, g κ M0 a' w' s', q⟩
theorem GhQ.step {Q : Exit → AS → Prop} {e : Exit} {σ τ : AS} (h : Gh n σ τ) (k : GhQ n Q e τ) : GhQ n Q e σ := by
  obtain ⟨ρ, h2, q⟩ := k
  exact ⟨ρ, h.trans h2, q⟩
theorem fin0 {A : Prop} {B : Bx} (h : A) : A ∧ ∀ x ∈ ([] : Bx), x ∈ B := ⟨h, fun _ h => by cases h⟩
theorem wrap_succ {k m : Nat} (h : k < m) (hm : m ≤ 9223372036854775807) : IntKind.i64.wrap ((k : Int) + 1) = ((k + 1 : Nat) : Int) := by rw [w64 (by omega)]; rfl
/-- the loop's test, the element at it -/
theorem at_lt {α : Type} {enc : α → List C} {l : List α} {k : Nat} (h : k < l.length) : ∃ d, l[k]? = some d ∧ (l.map enc)[k]? = some (enc d) ∧ decide ((k : Int) < (l.length : Int)) = true ∧ l.drop k = d :: l.drop (k + 1) :=
  ⟨l[k], by simp [h], by simp [h], by simpa using h, List.drop_eq_getElem_cons h⟩
@[go_sem] theorem frOks_map (k n : Nat) : ∀ r : List C, Cell.frOks k n (r.map .dat) = True
  | [] => by simp [Cell.frOks]
  | c :: r => by simp only [List.map_cons, Cell.frOks, Cell.frOk, frOks_map k n r, and_true]
@[go_sem] theorem frs_map (k sz : Nat) (rows : List (List C)) : ∀ r : List C, Cell.frs k sz rows (r.map .dat) = r.map .dat
  | [] => rfl
  | c :: r => by simp only [List.map_cons, Cell.frs, Cell.fr, frs_map k sz rows r]
@[go_sem] theorem rens_map (ρ : Nat → Nat) : ∀ r : List C, Cell.rens ρ (r.map .dat) = r.map .dat
  | [] => rfl
  | c :: r => by simp only [List.map_cons, Cell.rens, Cell.ren, rens_map ρ r]
@[go_sem] theorem frAOks_map (k n : Nat) : ∀ r : List C, Cell.frAOks k n (r.map .dat) = True
  | [] => by simp [Cell.frAOks]
  | c :: r => by simp only [List.map_cons, Cell.frAOks, Cell.frAOk, frAOks_map k n r, and_true]
@[go_sem] theorem frsA_map (k sz : Nat) (rows : List (List C)) : ∀ r : List C, Cell.frsA k sz rows (r.map .dat) = r.map .dat
  | [] => rfl
  | c :: r => by simp only [List.map_cons, Cell.frsA, Cell.frA, frsA_map k sz rows r]
attribute [go_sem] rn rnLow wkE wkB
end Go.Sx
set_option linter.unusedVariables false
namespace Go.Sx
variable {P : Program} {n : Nat}
theorem Gh.soft {env : Env} {B : Bx} (j : Nat) {cs : List Cell} (hb : B.lookup j = some (.cells cs)) : Gh n ⟨env, B⟩ ⟨env, Bx.put j (.cells (cs.map Cell.soft)) B⟩ := by
  intro κ M0 a w s
  obtain ⟨M, ν, h1, h2, h3, h4, h5, h6⟩ := s
  have hmem := lookup_box hb
  have hkeys : ∀ i r, (i, r) ∈ Bx.put j (.cells (cs.map Cell.soft)) B → ∃ r0, (i, r0) ∈ B := by
    intro i r hm
    rcases Bx.mem_put h5.nodup hm with e | ⟨hm, _⟩
    · cases e; exact ⟨_, hmem⟩
    · exact ⟨r, hm⟩
  refine ⟨M, ν, h1, h2, h3, h4, ⟨h5.os, h5.tape, h5.output, Nat.zero_le _, h5.size, h5.unch, h5.fro, ?_, ?_, ?_, ?_⟩, h6⟩
  · intro i r hm
    rcases Bx.mem_put h5.nodup hm with e | ⟨hm, _⟩
    · cases e
      have h0 := h5.res j _ hmem
      simp only [Res.ok] at h0 ⊢
      obtain ⟨b, c, et, g1, g2, g3⟩ := h0
      exact ⟨b, c, et, g1, g2, Cell.reps_soft g3⟩
    · exact h5.res i r hm
  · intro i r b hm hbk
    obtain ⟨r0, h0⟩ := hkeys i r hm
    exact h5.away i r0 b h0 hbk
  · intro i r i' r' b hm hm' hbk hbk'
    obtain ⟨r0, h0⟩ := hkeys i r hm
    obtain ⟨r1, h1⟩ := hkeys i' r' hm'
    exact h5.inj i r0 i' r1 b h0 h1 hbk hbk'
  · rw [Bx.put_keys]; exact h5.nodup
/-- two parts; in the first the box j is turned, in the second the box j2 -/
theorem AWP.segEE {Q : Exit → AS → Prop} {id : Nat} {l : List Oper} {env : Env} {B : Bx} (k j j2 : Nat) (hm : P.follows .mixedOrders = true) (hl : segsOk n l [(k, .eff), (l.length - k, .eff)] = true)
    (h : ∀ K : Env → Bx → Prop, (∀ e b, Q .normal ⟨e, b⟩ → K e b) → parEVC P l (Bx.drop j B) (l.take k) env B fun env B => parEVC P l (Bx.drop j2 B) (l.drop k) env B K) : AWP P n (.region id l.toArray true) ⟨env, B⟩ Q := by
  simp only [segsOk, Bool.and_eq_true] at hl
  refine AWP.region_parts [(k, .eff), (l.length - k, .eff)] hm hl.1 hl.2.2 fun K hK => ?_
  simp only [segSem]
  refine ⟨Bx.drop j B, fun x hx => Bx.drop_sub hx, parSem_mono (fun e b k2 => ?_) _ _ _ (parEVC_sound l (Bx.drop j B) (fun e b => parEVC P l (Bx.drop j2 b) (l.drop k) e b fun e b => K ⟨e, b⟩) _ env B (fun x hx => Bx.drop_sub hx) (dstsOk_take hl.2.1 0 k) (h _ fun e b q => hK _ q))⟩
  have e2 : (l.drop (0 + k)).take (l.length - k) = l.drop k := by rw [Nat.zero_add]; exact List.take_of_length_le (by simp)
  refine ⟨Bx.drop j2 b, fun x hx => Bx.drop_sub hx, parEVC_sound l (Bx.drop j2 b) (fun e b => K ⟨e, b⟩) _ e b (fun x hx => Bx.drop_sub hx) (dstsOk_take hl.2.1 (0 + k) (l.length - k)) ?_⟩
  rw [e2]; exact k2
/-- l == nil, at a row whose cells alone are known -/
theorem AWP.nilR {Q : Exit → AS → Prop} {id d x b k : Nat} {ty t1 t2 : TypeId} {p1 p2 : String} {af1 af2 : Array Edge} {e : TypeId} {rows : List (List C)} {env : Env} {B : Bx} (hd : env.lookup d = some (.one (.dat (.sl k rows)))) (hx : x < n) (hb : b < n)
    (hty : P.underlying ty = some (.slice e)) (ht : rows = [] → Q .normal ⟨(b, Bo true) :: (x, .one (.dat (.sl k rows))) :: env, B⟩) (hf : Q .normal ⟨(b, Bo false) :: (x, .one (.dat (.sl k rows))) :: env, B⟩) :
    AWP P n (.region id #[⟨some x, .move (.tmp d), t1, p1, af1, none⟩, ⟨some b, .binOp .eql ty (.tmp x) (.const (.slice none 0 0)) ty, t2, p2, af2, none⟩] false) ⟨env, B⟩ Q := by
  intro κ M0 a w hs
  refine wp_region_lit (l := [_, _]) ?_
  obtain ⟨M, ν, h1, h2, h3, h4, h5, h6⟩ := hs
  have hv := h4 d _ hd
  simp only [T.rep, Cell.rep, C.rep] at hv
  obtain ⟨ad, cap, mid, ev, hc1, hc2, hc3, hc4⟩ := hv
  have hrep : (T.one (.dat (.sl k rows))).rep M ν (a.tmps.getD d undef) := h4 d _ hd
  have hst1 := put_St (t := .one (.dat (.sl k rows))) (v := a.eval (.tmp d)) (dst := some x) h1 h2 h3 h4 (Mem.ext.refl κ M) (by intro d' e'; cases e'; exact hx) hrep h5 h6
  unfold wpList
  rw [if_pos (by rfl)]
  left
  have er1 : (execOp a.eval ⟨some x, .move (.tmp d), t1, p1, af1, none⟩).run P w = .ok (.value (a.eval (.tmp d))) w := rfl
  unfold Oper.wp
  rw [er1]
  simp only [Oper.upon]
  unfold wpList
  rw [if_pos (by rfl)]
  left
  obtain ⟨a1, ea1⟩ : ∃ a1, a1 = a.put (some x) (a.eval (.tmp d)) := ⟨_, rfl⟩
  rw [← ea1] at hst1 ⊢
  obtain ⟨M1, ν1, g1, g2, g3, g4, g5, g6⟩ := hst1
  have hx1 := g4 x (.one (.dat (.sl k rows))) (by simp [AS.put])
  have hv := hx1
  simp only [T.rep, Cell.rep, C.rep] at hv
  obtain ⟨ad, cap, mid, ev, hc1, hc2, hc3, hc4⟩ := hv
  have ex : a1.eval (.tmp x) = .slice ad rows.length cap := ev
  have er2 : (execOp a1.eval ⟨some b, .binOp .eql ty (.tmp x) (.const (.slice none 0 0)) ty, t2, p2, af2, none⟩).run P w = .ok (.value (.bool ad.isNone)) w := by
    have hrun : (execOp a1.eval ⟨some b, .binOp .eql ty (.tmp x) (.const (.slice none 0 0)) ty, t2, p2, af2, none⟩).run P w = ((eqGuard .eql ty (.tmp x) (.const (.slice none 0 0)) (a1.eval (.tmp x)) (a1.eval (.const (.slice none 0 0)))).run P w).andThen fun _ w => ((binOp .eql ty (a1.eval (.tmp x)) (a1.eval (.const (.slice none 0 0)))).run P w).andThen fun v w => .ok (.value v) w := by
      unfold execOp
      simp only [Sem.run_bind, Sem.run_pure]
      cases (eqGuard .eql ty (.tmp x) (.const (.slice none 0 0)) (a1.eval (.tmp x)) (a1.eval (.const (.slice none 0 0)))).run P w <;> rfl
    rw [hrun, run_guard .eql ty _ _ w (by rw [ex]; simp) (by intro c; rw [ex]; simp), ex]
    have : a1.eval (.const (.slice none 0 0)) = .slice none 0 0 := rfl
    rw [this]
    simp only [Result.andThen_ok, Lib.run_eql_slice_nil w ty e ad _ _ _ _ hty]
  unfold Oper.wp
  rw [er2]
  simp only [Oper.upon]
  have hst2 := put_St (t := Bo ad.isNone) (v := .bool ad.isNone) (dst := some b) g1 g2 g3 g4 (Mem.ext.refl κ M1) (by intro d' e'; cases e'; exact hb) (rep_bool.2 rfl) g5 g6
  unfold wpList
  refine ⟨_, hst2, ?_⟩
  cases ad with
  | none =>
    refine ht ?_
    rcases hc4 with h | ⟨_, _, h, _⟩
    · exact h
    · cases h
  | some _ => exact hf
end Go.Sx
set_option linter.unusedVariables false
set_option linter.unusedSimpArgs false
namespace Go.Sx
variable {P : Program} {n : Nat} {σ : AS} {Q : Exit → AS → Prop}
theorem gen_sound2 {κ : Kap} {M0 : Mem} {l : List Oper} {fx : Nat → Bx} {t : Nat → T} {b : Nat → Bx} {e : Nat → Bool} {jn : Nat → Option Nat} {env0 : Env} {Q' : Exit → Act → World → Prop}
    (hback : Back l) (hpairs : Pairs l) (hord : EffOrdG l e)
    (hs : ∀ i o, l[i]? = some o → OSpecG P n l (fx i) o (envA l t (fun _ => true) env0 i) (b i) (t i) (b (i + 1)) (e i) (jn i)) (hf : ∀ i m, i < l.length → m ≤ l.length → (∀ j, j < m → e j = true → depB l j i = false) → ∀ x ∈ fx i, x ∈ b m)
    (hfr : ∀ g k j, jn g = some j → g < k → k < l.length → (t k).fresh j = true ∨ depB l k g = true)
    (hQ : ∀ a w, St κ M0 n ⟨envA l t (fun _ => true) env0 l.length, b l.length⟩ a w → Q' .normal a w) :
    ∀ (fuel : Nat) (listed : Array Bool) (a : Act) (w : World), cnt l listed = fuel → Mid κ M0 n l t b e env0 listed a w →
      wpAny P .any l.toArray Q' fuel listed a w := by
  have hbc : ∀ i, i < l.length → e i = false → b (i + 1) = b i := by
    intro i hi he
    rcases (hs i l[i] (by simp [hi])).2 with ⟨_, ⟨_, _, _, h⟩ | ⟨h, _⟩ | ⟨_, h, _⟩⟩ | ⟨_, _, h, _⟩
    · exact h
    · rw [he] at h; cases h
    · rw [he] at h; cases h
    · exact h
  have done : ∀ (listed : Array Bool) (a : Act) (w : World), Mid κ M0 n l t b e env0 listed a w → (∀ i, i < l.length → listed.getD i false = true) → Q' .normal a w := by
    intro listed a w hm hall
    obtain ⟨M, ν, m, h1, h2, h3, h4, h5, h6, h7, h8⟩ := hm.st
    refine hQ a w ⟨M, ν, h1, h2, h3, ?_, ?_⟩
    · intro d u hu
      refine h4 d u ?_
      rw [envA_same l t (xs listed) (fun _ => true) env0 d l.length (fun j o hj _ _ => hall j hj)]
      exact hu
    · have : b l.length = b m := const_b hbc m l.length h5 (Nat.le_refl _) (fun j hj1 hj2 => by
        cases hj : e j with
        | false => rfl
        | true => have := (h6 j hj2 hj).1 (hall j hj2); omega)
      simp only [this]
      exact ⟨h7, h8⟩
  have hord' : ∀ listed : Array Bool, Closed l listed → ∀ i j, i < j → j < l.length → e i = true → e j = true → listed.getD j false = true → listed.getD i false = true := by
    intro listed hc i j hij hj hei hej hx
    exact dep_of (hord i j hij hj hei hej) (List.getElem?_eq_getElem hj) hc (fun e' he' hb' => hc j l[j] (List.getElem?_eq_getElem hj) hx e' he' hb')
  intro fuel
  induction fuel with
  | zero =>
    intro listed a w hfuel hm
    have hall := cnt_zero hfuel
    exact ⟨ready_none hm.size hall, done listed a w hm hall⟩
  | succ fuel ih =>
    intro listed a w hfuel hm
    refine ⟨fun hr => done listed a w hm (ready_least hback hm.size hr), fun i hi => ?_⟩
    obtain ⟨h0, oi, hoi, hall⟩ := mem_ready.1 hi
    have hil : i < l.length := by have := (Array.getElem?_eq_some_iff.1 hoi).1; simpa using this
    have hoi' : l[i]? = some oi := by simpa using hoi
    have hisz : i < listed.size := by rw [hm.size]; exact hil
    have hxi : listed.getD i false = false := by simp [hisz] at h0 ⊢; exact h0
    obtain ⟨M, ν, m, h1, h2, h3, h4, h5, h6, h7, h8⟩ := hm.st
    obtain ⟨hd, hspec⟩ := hs i oi hoi'
    have look : ∀ d, d ∈ oi.looksAt l.toArray → (envA l t (xs listed) env0 l.length).lookup d = (envA l t (fun _ => true) env0 i).lookup d := by
      intro d hdm
      rw [envA_skip l t (xs listed) env0 d i l.length (by omega) ?_, envA_same l t (xs listed) (fun _ => true) env0 d i ?_]
      · intro j o hj ho hod
        rcases hpairs j i o oi hj ho hoi' with ⟨e', he', hb', hon⟩ | hap
        · exact hon ▸ hall e' he' hb'
        · exact absurd hdm ((Oper.apart_spec hap).1 d hod)
      · intro j o hj hjl ho hod
        by_cases hji : i = j
        · subst hji; exact hxi
        · cases hxj : xs listed j with
          | false => rfl
          | true =>
            rcases hpairs i j oi o (by omega) hoi' ho with ⟨e', he', hb', hon⟩ | hap
            · have := hm.closed j o ho hxj e' he' hb'
              rw [hon, hxi] at this; cases this
            · exact absurd hdm ((Oper.apart_spec hap).2.2 d hod)
    have hclosed : Closed l (listed.setIfInBounds i true) := by
      intro j oj hj hx e' he' hb'
      by_cases hji : i = j
      · subst hji
        rw [hoi'] at hj; cases hj
        exact getD_set_true (hall e' he' hb')
      · rw [getD_set_ne false hji] at hx
        exact getD_set_true (hm.closed j oj hj hx e' he' hb')
    have hcount : cnt l (listed.setIfInBounds i true) = fuel := by
      have := cnt_set hm.size hil hxi; omega
    have after : ∀ (M' : Mem) (ν' : Nu) (v : Value) (w' : World) (m' : Nat), M.ext κ M' → EnvOk M ν' a.tmps (envA l t (xs listed) env0 l.length) → (t i).rep M' ν' v → m' ≤ l.length →
        (∀ j, j < l.length → e j = true → ((listed.setIfInBounds i true).getD j false = true ↔ j < m')) → Sat κ M' ν' (b m') w' → (∀ k, pin ≤ k → ν' k = κ.nu k) →
        Mid κ M0 n l t b e env0 (listed.setIfInBounds i true) (a.put oi.dst v) w' := by
      intro M' ν' v w' m' hle h4 hr hm' hem hsat hpin
      refine ⟨by simpa using hm.size, hclosed, M', ν', m', h1.trans hle, by rw [Act.put_size]; exact h2, by rw [Act.put_defers']; exact h3, ?_, hm', hem, hsat, hpin⟩
      have hput := EnvOk.put (df := a.defers) (h4.mono hle.1) (dst := oi.dst) (v := v) (t := t i) (fun d he => by rw [h2]; exact dstOk_spec hd d he) hr
      intro k u hu
      refine hput k u ?_
      rw [putE_lookup]
      by_cases hk : oi.dst = some k
      · rw [if_pos hk]
        have e1 := envA_skip l t (xs (listed.setIfInBounds i true)) env0 k (i + 1) l.length (by omega) (fun j o hj hjl ho hod => by
          cases hxj : xs (listed.setIfInBounds i true) j with
          | false => rfl
          | true =>
            have hne : i ≠ j := by omega
            have hxj' : listed.getD j false = true := by rw [← getD_set_ne false hne]; exact hxj
            rcases hpairs i j oi o (by omega) hoi' ho with ⟨e', he', hb', hon⟩ | hap
            · have := hm.closed j o ho hxj' e' he' hb'
              rw [hon, hxi] at this; cases this
            · exact absurd hod ((Oper.apart_spec hap).2.1 k hk))
        rw [e1] at hu
        have hself : xs (listed.setIfInBounds i true) i = true := by simp [xs, hisz]
        rw [envA, hself] at hu
        simp only [cond_true, putE_lookup, hoi', Option.bind_some, hk, if_true] at hu
        exact hu
      · rw [if_neg hk]
        have e2 := envA_same l t (xs (listed.setIfInBounds i true)) (xs listed) env0 k l.length (fun j o hj ho hod => by
          have hne : i ≠ j := fun h => by subst h; rw [hoi'] at ho; cases ho; exact hk hod
          exact getD_set_ne false hne)
        rw [← e2]; exact hu
    have hon : EnvOn M ν a (envA l t (fun _ => true) env0 i) oi := by
      intro d u hdo hu
      refine h4 d u ?_
      rw [look d (looksAt_op hdo)]; exact hu
    have hgd : ∀ g want d u, oi.guard = some (g, want) → (l[g]?).bind (·.dst) = some d → (envA l t (fun _ => true) env0 i).lookup d = some u → u.rep M ν (a.tmps.getD d undef) := by
      intro g want d u hg hgd hu
      refine h4 d u ?_
      rw [look d (looksAt_guard hg hgd)]; exact hu
    have samem : e i = false → ∀ j, j < l.length → e j = true → ((listed.setIfInBounds i true).getD j false = true ↔ j < m) := by
      intro hei j hj hej
      have hne : i ≠ j := fun h => by subst h; rw [hei] at hej; cases hej
      rw [getD_set_ne false hne]; exact h6 j hj hej
    -- what an operation that turns boxes finds and leaves
    have effm : e i = true → b i = b m ∧ ∀ j, j < l.length → e j = true → ((listed.setIfInBounds i true).getD j false = true ↔ j < i + 1) := by
      intro hei
      have hmi : m ≤ i := by
        rcases Nat.lt_or_ge i m with h | h
        · have := (h6 i hil hei).2 h; rw [hxi] at this; cases this
        · exact h
      have prev : ∀ j, j < i → e j = true → listed.getD j false = true := by
        intro j hj hej
        have hself : (listed.setIfInBounds i true).getD i false = true := by simp [hisz]
        have := hord' _ hclosed j i hj hil hej hei hself
        rwa [getD_set_ne false (by omega)] at this
      refine ⟨const_b hbc m i hmi (by omega) (fun j hj1 hj2 => by
        cases hj : e j with
        | false => rfl
        | true => have := (h6 j (by omega) hj).1 (prev j hj2 hj); omega), fun j hj hej => ?_⟩
      by_cases hji : i = j
      · subst hji; simp [hisz]
      · rw [getD_set_ne false hji]
        constructor
        · intro hx
          rcases Nat.lt_or_ge i j with h | h
          · have := hord' _ hm.closed i j h hj hei hej hx
            rw [hxi] at this; cases this
          · omega
        · intro hx
          exact prev j (by omega) hej
    unfold wpOp
    rw [hoi]
    simp only []
    rcases hspec with ⟨hg, ⟨hei, hjn, hop, hbb⟩ | ⟨hei, hjn, hop⟩ | ⟨k, hei, hjn, hop, hkp, hfk⟩⟩ | ⟨hg, ht, hbb, hei, hjn⟩
    · rw [if_pos (wanted_of hg hgd)]
      left
      refine Oper.wp_mono_Q (Oper.wp_mono ?_ (hop κ M ν a w (b m) (hf i m hil h5 (fun j hj hej => by
        cases hdp : depB l j i with
        | false => rfl
        | true =>
          have hjl : j < l.length := by omega
          have hlj := (h6 j hjl hej).2 hj
          have := dep_of hdp (List.getElem?_eq_getElem hjl) hm.closed (fun e' he' hb' => hm.closed j l[j] (List.getElem?_eq_getElem hjl) hlj e' he' hb')
          rw [hxi] at this; cases this)) hon h7))
      rintro a' w' ⟨v, M', rfl, hle, hr, hsat⟩
      exact ih _ _ _ hcount (after M' ν v w' m hle h4 hr h5 (samem hei) hsat h8)
    · rw [if_pos (wanted_of hg hgd)]
      left
      obtain ⟨hbm, hem⟩ := effm hei
      refine Oper.wp_mono_Q (Oper.wp_mono ?_ (hop κ M ν a w hon (by rw [hbm]; exact h7)))
      rintro a' w' ⟨v, M', rfl, hle, hr, hsat⟩
      exact ih _ _ _ hcount (after M' ν v w' (i + 1) hle h4 hr hil hem hsat h8)
    · rw [if_pos (wanted_of hg hgd)]
      left
      obtain ⟨hbm, hem⟩ := effm hei
      refine Oper.wp_mono_Q (Oper.wp_mono ?_ (hop κ M ν a w hon (by rw [hbm]; exact h7)))
      rintro a' w' ⟨v, M', ν', rfl, hle, hν, hr, hsat⟩
      obtain ⟨hf0, hft⟩ := fresh_envA i hfk
      have hfresh : Env.fresh k (envA l t (xs listed) env0 l.length) = true := by
        refine envA_fresh' hf0 l.length (fun q hq hx hdq => ?_)
        rcases Nat.lt_trichotomy q i with h | h | h
        · exact hft q h hdq
        · subst h; unfold xs at hx; rw [hxi] at hx; cases hx
        · rcases hfr i q k hjn h hq with h' | h'
          · exact h'
          · exfalso
            have := dep_of h' (List.getElem?_eq_getElem hq) hm.closed (fun e' he' hb' => hm.closed q l[q] (List.getElem?_eq_getElem hq) hx e' he' hb')
            rw [hxi] at this; cases this
      exact ih _ _ _ hcount (after M' ν' v w' (i + 1) hle (h4.fresh hfresh hν) hr hil hem hsat (fun q hq => by rw [hν q (by omega)]; exact h8 q hq))
    · rw [unwanted_of hg hgd]
      simp only [Bool.false_eq_true, if_false]
      refine ih _ _ _ hcount (after M ν undef w m (Mem.ext.refl κ M) h4 (by rw [ht]; simp [undefT, T.rep, Cell.rep, C.rep]) h5 (samem hei) h7 h8)
/-- all that is done from j0 on waits for the operation i -/
def earlyB (all : List Oper) (es : List Nat) (j0 i : Nat) : Bool := es.all fun e => Nat.blt e j0 || depB all e i
def fxOf (ear : List Nat) (fixB fixC : Bx) (i : Nat) : Bx := bif memN i ear then fixC else fixB
def genVC2 (P : Program) (all : List Oper) (es ear : List Nat) (fixB : Bx) (j0 : Nat) (fixC : Bx) : Nat → List (Nat × Nat) → List Oper → Env → Bx → (Env → Bx → Prop) → Prop
  | _, _, [], env, B, K => K env B
  | i, gs, o :: os, env, B, K => guardT all env o
      (bif memN i es then effVC P o env B fun t B' => bxSub B' fixB ∧ (bif decide (i < j0) then bxSub B' fixC else True) ∧ FreshOr all i t gs ∧ genVC2 P all es ear fixB j0 fixC (i + 1) (gsNext i o gs) os (putE env o.dst t) B' K
       else pureVC P o env (fxOf ear fixB fixC i) fun t => FreshOr all i t gs ∧ genVC2 P all es ear fixB j0 fixC (i + 1) gs os (putE env o.dst t) B K)
      (genVC2 P all es ear fixB j0 fixC (i + 1) gs os (putE env o.dst undefT) B K)
theorem gen_trace2 (all : List Oper) (es ear : List Nat) (fixB : Bx) (j0 : Nat) (fixC : Bx) (K : Env → Bx → Prop) : ∀ (l : List Oper) (i0 : Nat) (gs : List (Nat × Nat)) (env : Env) (B : Bx), dstsOk n l = true → (∀ x ∈ fixB, x ∈ B) → (i0 ≤ j0 → ∀ x ∈ fixC, x ∈ B) → genVC2 P all es ear fixB j0 fixC i0 gs l env B K →
    ∃ (t : Nat → T) (b : Nat → Bx) (e : Nat → Bool) (jn : Nat → Option Nat), b 0 = B ∧ (∀ i o, l[i]? = some o → OSpecG P n all (fxOf ear fixB fixC (i0 + i)) o (envA l t (fun _ => true) env i) (b i) (t i) (b (i + 1)) (e i) (jn i)) ∧
      (∀ i, i ≤ l.length → ∀ x ∈ fixB, x ∈ b i) ∧ (∀ i, i ≤ l.length → i0 + i ≤ j0 → ∀ x ∈ fixC, x ∈ b i) ∧ (∀ i, e i = true → memN (i0 + i) es = true) ∧ (∀ i, i < l.length → FreshOr all (i0 + i) (t i) gs) ∧
      (∀ g k j, jn g = some j → g < k → k < l.length → (t k).fresh j = true ∨ depB all (i0 + k) (i0 + g) = true) ∧ K (envA l t (fun _ => true) env l.length) (b l.length)
  | [], i0, gs, env, B, _, hB, hC, h => ⟨fun _ => undefT, fun _ => B, fun _ => false, fun _ => none, rfl, fun i o ho => by simp at ho, fun i _ => hB, fun i hi hx => hC (by omega), fun i h => (by cases h), fun i hi => by simp at hi, fun _ _ _ h => (by cases h), h⟩
  | o :: os, i0, gs, env, B, hd, hB, hC, h => by
    simp only [dstsOk, List.all_cons, Bool.and_eq_true] at hd
    obtain ⟨⟨hd1, hd2⟩, hd3⟩ := hd
    have step : ∃ (t0 : T) (B' : Bx) (e0 : Bool) (jz : Option Nat) (gs' : List (Nat × Nat)), OSpecG P n all (fxOf ear fixB fixC i0) o env B t0 B' e0 jz ∧ (∀ x ∈ fixB, x ∈ B') ∧ (i0 + 1 ≤ j0 → ∀ x ∈ fixC, x ∈ B') ∧ (e0 = true → memN i0 es = true) ∧ FreshOr all i0 t0 gs ∧
        (∀ p ∈ gs, p ∈ gs') ∧ (∀ j, jz = some j → (i0, j) ∈ gs') ∧ genVC2 P all es ear fixB j0 fixC (i0 + 1) gs' os (putE env o.dst t0) B' K := by
      rcases guardT_true h with ⟨hg, hx⟩ | ⟨hg, hx⟩
      · cases hm : memN i0 es with
        | true =>
          rw [hm] at hx
          simp only [cond_true] at hx
          have hcx : ∀ {B' : Bx}, (bif decide (i0 < j0) then bxSub B' fixC else True) → i0 + 1 ≤ j0 → bxSub B' fixC := by
            intro B' hc hx
            have : decide (i0 < j0) = true := by simp; omega
            rw [this] at hc; exact hc
          have sub : ∀ p ∈ gs, p ∈ gsNext i0 o gs := fun p hp => by unfold gsNext; cases makes o <;> simp [hp]
          rcases effVC_makes hx with ⟨t, hop, h1, hc, h2, h3⟩ | ⟨t, B', hop, h1, hc, h2, h3⟩ | ⟨hmk, t, B', hop, hfr, h1, hc, h2, h3⟩
          · refine ⟨t, B, true, none, _, ⟨hd1, .inl ⟨hg, .inr (.inl ⟨rfl, rfl, hop.e⟩)⟩⟩, hB, fun hx => hC (by omega), fun _ => rfl, h2, sub, fun j hj => (by cases hj), h3⟩
          · exact ⟨t, B', true, none, _, ⟨hd1, .inl ⟨hg, .inr (.inl ⟨rfl, rfl, hop⟩)⟩⟩, bxSub_spec h1, fun hx => bxSub_spec (hcx hc hx), fun _ => rfl, h2, sub, fun j hj => (by cases hj), h3⟩
          · refine ⟨t, B', true, some (dstN o), _, ⟨hd1, .inl ⟨hg, .inr (.inr ⟨dstN o, rfl, rfl, hop, Nat.le_of_ble_eq_true hd2, hfr⟩)⟩⟩, bxSub_spec h1, fun hx => bxSub_spec (hcx hc hx), fun _ => rfl, h2, sub, fun j hj => ?_, h3⟩
            cases hj
            unfold gsNext; rw [hmk]; simp
        | false =>
          rw [hm] at hx
          simp only [cond_false] at hx
          obtain ⟨t, hop, h2, h3⟩ := pureVC_sound hx
          exact ⟨t, B, false, none, gs, ⟨hd1, .inl ⟨hg, .inl ⟨rfl, rfl, hop, rfl⟩⟩⟩, hB, fun hx => hC (by omega), fun h => (by cases h), h2, fun _ h => h, fun j hj => (by cases hj), h3⟩
      · exact ⟨undefT, B, false, none, gs, ⟨hd1, .inr ⟨hg, rfl, rfl, rfl, rfl⟩⟩, hB, fun hx => hC (by omega), fun h => (by cases h), FreshOr_un gs, fun _ h => h, fun j hj => (by cases hj), hx⟩
    obtain ⟨t0, B', e0, jz, gs', hspec, hfix, hfixC, he0, hfr0, hsub, hj0, hk⟩ := step
    obtain ⟨t, b, e, jn, hb0, hs, hf, hfC, he, hfr, hjj, hK⟩ := gen_trace2 all es ear fixB j0 fixC K os (i0 + 1) gs' _ B' hd3 hfix hfixC hk
    refine ⟨fun i => match i with | 0 => t0 | i + 1 => t i, fun i => match i with | 0 => B | i + 1 => b i, fun i => match i with | 0 => e0 | i + 1 => e i, fun i => match i with | 0 => jz | i + 1 => jn i, rfl, ?_, ?_, ?_, ?_, ?_, ?_, ?_⟩
    · intro i o' ho
      cases i with
      | zero => simp at ho; subst ho; rw [← hb0] at hspec; exact hspec
      | succ i =>
        rw [envA_cons]
        have := hs i o' (by simpa using ho)
        rwa [show i0 + 1 + i = i0 + (i + 1) by omega] at this
    · intro i hi
      cases i with
      | zero => exact hB
      | succ i => exact hf i (by simpa using hi)
    · intro i hi hx
      cases i with
      | zero => exact hC (by omega)
      | succ i => exact hfC i (by simpa using hi) (by omega)
    · intro i hi
      cases i with
      | zero => exact he0 hi
      | succ i => have := he i hi; rwa [show i0 + 1 + i = i0 + (i + 1) by omega] at this
    · intro i hi
      cases i with
      | zero => exact hfr0
      | succ i =>
        have := hfr i (by simpa using hi)
        rw [show i0 + 1 + i = i0 + (i + 1) by omega] at this
        exact gen_trace.FreshOr_sub hsub this
    · intro g k j hg hgk hk'
      cases k with
      | zero => omega
      | succ k =>
        cases g with
        | zero =>
          have := FreshOr_spec (hfr k (by simpa using hk')) (i0, j) (hj0 j hg)
          rwa [show i0 + 1 + k = i0 + (k + 1) by omega] at this
        | succ g =>
          have := hjj g k j hg (by omega) (by simpa using hk')
          rwa [show i0 + 1 + k = i0 + (k + 1) by omega, show i0 + 1 + g = i0 + (g + 1) by omega] at this
    · rw [List.length_cons, envA_cons]; exact hK
/-- THE RULE: es: the operations that turn or make boxes; ks: the names of the boxes that they turn; of these, ks' before j0 -/
theorem AWP.genR2 {id : Nat} {l : List Oper} {env : Env} {B : Bx} (es ks : List Nat) (ear : List Nat) (j0 : Nat) (ks' : List Nat) (hm : P.follows .mixedOrders = true) (hl : (genOk n l es && ear.all fun i => earlyB l es j0 i) = true)
    (h : ∀ K : Env → Bx → Prop, (∀ e b, Q .normal ⟨e, b⟩ → K e b) → genVC2 P l es ear (Bx.outs B ks) j0 (Bx.outs B ks') 0 [] l env B K) : AWP P n (.region id l.toArray true) ⟨env, B⟩ Q := by
  rw [Bool.and_eq_true] at hl
  obtain ⟨hl, hear⟩ := hl
  simp only [genOk, Bool.and_eq_true] at hl
  intro κ M0 a w hs
  obtain ⟨hback, hpairs, _⟩ := lex_pairs hl.1
  obtain ⟨t, b, e, jn, hb0, hsp, hf, hfC, he, _, hjj, hK⟩ := gen_trace2 l es ear (Bx.outs B ks) j0 (Bx.outs B ks') _ l 0 [] env B hl.2.1 (fun x hx => Bx.outs_sub hx) (fun _ x hx => Bx.outs_sub hx) (h (fun e b => Q .normal ⟨e, b⟩) (fun _ _ k => k))
  have hord : EffOrdG l e := fun i k hik hk hei hek => esOk_spec hl.2.2 i (memN_spec (by simpa using he i hei)) k (memN_spec (by simpa using he k hek)) hik
  refine wp_region_any hm ?_
  have hsz : l.toArray.size = l.length := by simp
  rw [hsz]
  have hrep : ∀ j, (Array.replicate l.length false).getD j false = false := fun j => rep_getD _ j
  have hbc : ∀ i, i < l.length → e i = false → b (i + 1) = b i := by
    intro i hi hei
    rcases (hsp i l[i] (by simp [hi])).2 with ⟨_, ⟨_, _, _, h⟩ | ⟨h, _⟩ | ⟨_, h, _⟩⟩ | ⟨_, _, h, _⟩
    · exact h
    · rw [hei] at h; cases h
    · rw [hei] at h; cases h
    · exact h
  refine gen_sound2 (fx := fun i => fxOf ear (Bx.outs B ks) (Bx.outs B ks') i) hback hpairs hord (fun i o ho => by have := hsp i o ho; rwa [Nat.zero_add] at this) ?_ (fun g k j hg hgk hk => by have := hjj g k j hg hgk hk; simpa using this) (fun a w s => ⟨_, s, hK⟩) l.length _ a _ ?_ (mid_start (σ := ⟨env, B⟩) hb0 hs)
  · intro i m hi hm hdep x hx
    unfold fxOf at hx
    cases hE0 : memN i ear with
    | false => rw [hE0] at hx; exact hf m hm x hx
    | true =>
      have hE := List.all_eq_true.1 hear i (memN_spec hE0)
      rw [hE0] at hx
      simp only [cond_true] at hx
      rcases Nat.le_total m j0 with hmj | hmj
      · exact hfC m hm (by omega) x hx
      · have hno : ∀ j, j0 ≤ j → j < m → e j = false := by
          intro j hj1 hj2
          cases hej : e j with
          | false => rfl
          | true =>
            have hmem := memN_spec (he j hej)
            rw [Nat.zero_add] at hmem
            have h1 := List.all_eq_true.1 hE j hmem
            simp only [Bool.or_eq_true] at h1
            rcases h1 with h1 | h1
            · have : j < j0 := by simpa using h1
              omega
            · have := hdep j hj2 hej
              rw [h1] at this; cases this
        have hbb : b m = b j0 := by
          have := const_b hbc j0 m hmj hm (fun j hj1 hj2 => hno j hj1 hj2)
          first | exact this | exact this.symm
        rw [hbb]
        exact hfC j0 (by omega) (by omega) x hx
  · unfold cnt
    have hfil : (List.range l.length).filter (fun i => !(Array.replicate l.length false).getD i false) = List.range l.length := by
      rw [List.filter_eq_self]
      intro x _
      simp only [hrep x, Bool.not_false]
    rw [hfil, List.length_range]
theorem gen2VC_nil {all : List Oper} {es ear : List Nat} {fixB : Bx} {j0 : Nat} {fixC : Bx} {i : Nat} {gs : List (Nat × Nat)} {env : Env} {B : Bx} {K : Env → Bx → Prop} (h : K env B) : genVC2 P all es ear fixB j0 fixC i gs [] env B K := h
def genOpVC2 (P : Program) (all : List Oper) (es ear : List Nat) (fixB : Bx) (j0 : Nat) (fixC : Bx) (i : Nat) (gs : List (Nat × Nat)) (o : Oper) (env : Env) (B : Bx) (K' : List (Nat × Nat) → Env → Bx → Prop) : Prop :=
  bif memN i es then effVC P o env B fun t B' => bxSub B' fixB ∧ (bif decide (i < j0) then bxSub B' fixC else True) ∧ FreshOr all i t gs ∧ K' (gsNext i o gs) (putE env o.dst t) B'
  else pureVC P o env (fxOf ear fixB fixC i) fun t => FreshOr all i t gs ∧ K' gs (putE env o.dst t) B
theorem gen2VC_stepN {all os : List Oper} {es ear : List Nat} {fixB : Bx} {j0 : Nat} {fixC : Bx} {i : Nat} {gs : List (Nat × Nat)} {o : Oper} {env : Env} {B : Bx} {K : Env → Bx → Prop} (hg : o.guard = none)
    (h : ∀ K' : List (Nat × Nat) → Env → Bx → Prop, (∀ gs e b, genVC2 P all es ear fixB j0 fixC (i + 1) gs os e b K → K' gs e b) → genOpVC2 P all es ear fixB j0 fixC i gs o env B K') : genVC2 P all es ear fixB j0 fixC i gs (o :: os) env B K :=
  guardT_none hg (h (fun gs e b => genVC2 P all es ear fixB j0 fixC (i + 1) gs os e b K) fun _ _ _ q => q)
theorem gen2VC_stepG {all os : List Oper} {es ear : List Nat} {fixB : Bx} {j0 : Nat} {fixC : Bx} {i : Nat} {gs : List (Nat × Nat)} {o : Oper} {env : Env} {B : Bx} {K : Env → Bx → Prop} {j d : Nat} {want : Bool} (hg : o.guard = some (j, want)) (hd : (all[j]?).bind (·.dst) = some d)
    (h : ∀ K' : List (Nat × Nat) → Env → Bx → Prop, (∀ gs e b, genVC2 P all es ear fixB j0 fixC (i + 1) gs os e b K → K' gs e b) → guardE (env.lookup d) want (genOpVC2 P all es ear fixB j0 fixC i gs o env B K') (K' gs (putE env o.dst undefT) B)) : genVC2 P all es ear fixB j0 fixC i gs (o :: os) env B K :=
  guardT_some hg hd (h (fun gs e b => genVC2 P all es ear fixB j0 fixC (i + 1) gs os e b K) fun _ _ _ q => q)
attribute [go_sem] genOpVC2 fxOf
def vAppendM (P : Program) (j : Nat) (t1 t2 : TypeId) (s x : Option T) (K : T → Res → Prop) : Prop :=
  match bsT P t1, byT P t1 with
  | some (_, n), some (by_ + 1) => match srcRows n x with
    | some ys => notInt P t2 = true ∧ (match s with
      | some (.one (.dat (.nil _))) => (2 * ys.length + 192) * (by_ + 1) ≤ 281474976710656 ∧ K (.one (.own j ys.length)) (.row n ys)
      | _ => False)
    | none => False
  | _, _ => False
/-- what is to be shown of an operation that makes a row -/
def mkOp (P : Program) (o : Oper) (env : Env) (K : T → Res → Prop) : Prop :=
  match o.op with
  | .alloc e => (match zeroT P e with
    | some zs => K (.one (.ptr (dstN o) 0)) (.cells (zs.map .dat))
    | none => False)
  | .call { callee := .builtin .append, args := ⟨[s, x]⟩, argTypes := ⟨[t1, t2]⟩ } => vAppendM P (dstN o) t1 t2 (ev P env t1 s) (softO (ev P env t2 x)) K
  | .call { callee := .value f, args := args, argTypes := ts } =>
    match calleeT (ev P env 0 f), evs P env args.toList ts.toList with
    | some (g, caps), some us => ∃ r sz rows, PCN P g (us ++ caps) r (.row sz rows) ∧ K (r.ren fun _ => dstN o) (.row sz rows)
    | _, _ => False
  | _ => False
def genVCM (P : Program) (all : List Oper) (es : List Nat) (B0 : Bx) : Nat → List (Nat × Nat) → List Oper → Env → Bx → (Env → Bx → Prop) → Prop
  | _, _, [], env, B, K => K env B
  | i, gs, o :: os, env, B, K => guardT all env o
      (bif memN i es then mkOp P o env fun t r => Env.fresh (dstN o) env = true ∧ Bx.fresh (dstN o) B = true ∧ FreshOr all i t gs ∧ genVCM P all es B0 (i + 1) ((i, dstN o) :: gs) os (putE env o.dst t) ((dstN o, r) :: B) K
       else pureVC P o env B0 fun t => FreshOr all i t gs ∧ genVCM P all es B0 (i + 1) gs os (putE env o.dst t) B K)
      (genVCM P all es B0 (i + 1) gs os (putE env o.dst undefT) B K)
theorem genMVC_nil {all : List Oper} {es : List Nat} {B0 : Bx} {i : Nat} {gs : List (Nat × Nat)} {env : Env} {B : Bx} {K : Env → Bx → Prop} (h : K env B) : genVCM P all es B0 i gs [] env B K := h
def genOpVCM (P : Program) (all : List Oper) (es : List Nat) (B0 : Bx) (i : Nat) (gs : List (Nat × Nat)) (o : Oper) (env : Env) (B : Bx) (K' : List (Nat × Nat) → Env → Bx → Prop) : Prop :=
  bif memN i es then mkOp P o env fun t r => Env.fresh (dstN o) env = true ∧ Bx.fresh (dstN o) B = true ∧ FreshOr all i t gs ∧ K' ((i, dstN o) :: gs) (putE env o.dst t) ((dstN o, r) :: B)
  else pureVC P o env B0 fun t => FreshOr all i t gs ∧ K' gs (putE env o.dst t) B
theorem genMVC_stepN {all os : List Oper} {es : List Nat} {B0 : Bx} {i : Nat} {gs : List (Nat × Nat)} {o : Oper} {env : Env} {B : Bx} {K : Env → Bx → Prop} (hg : o.guard = none)
    (h : ∀ K' : List (Nat × Nat) → Env → Bx → Prop, (∀ gs e b, genVCM P all es B0 (i + 1) gs os e b K → K' gs e b) → genOpVCM P all es B0 i gs o env B K') : genVCM P all es B0 i gs (o :: os) env B K :=
  guardT_none hg (h (fun gs e b => genVCM P all es B0 (i + 1) gs os e b K) fun _ _ _ q => q)
theorem genMVC_stepG {all os : List Oper} {es : List Nat} {B0 : Bx} {i : Nat} {gs : List (Nat × Nat)} {o : Oper} {env : Env} {B : Bx} {K : Env → Bx → Prop} {j d : Nat} {want : Bool} (hg : o.guard = some (j, want)) (hd : (all[j]?).bind (·.dst) = some d)
    (h : ∀ K' : List (Nat × Nat) → Env → Bx → Prop, (∀ gs e b, genVCM P all es B0 (i + 1) gs os e b K → K' gs e b) → guardE (env.lookup d) want (genOpVCM P all es B0 i gs o env B K') (K' gs (putE env o.dst undefT) B)) : genVCM P all es B0 i gs (o :: os) env B K :=
  guardT_some hg hd (h (fun gs e b => genVCM P all es B0 (i + 1) gs os e b K) fun _ _ _ q => q)
attribute [go_sem] genOpVCM mkOp vAppendM
def lastVC (P : Program) : List Oper → Env → Bx → (Env → Bx → Prop) → Prop
  | [o], env, B, K => (match o.op with
    | .store t x y => vStore P t (ev P env 0 x) (ev P env t y) B (fun B' => K (putE env o.dst undefT) B')
    | _ => False)
  | _, _, _, _ => False
attribute [go_sem] lastVC
end Go.Sx

set_option linter.unusedVariables false
set_option linter.unusedSimpArgs false
namespace Go.Sx
variable {P : Program} {n : Nat} {σ : AS} {Q : Exit → AS → Prop}
/-- the call is given a row of the caller's own -/
def anyOwn : List T → Bool
  | [] => false
  | .one (.own _ _) :: _ => true
  | _ :: ts => anyOwn ts
/-- a call that takes one own row for good and gives another -/
def vCallI (P : Program) (j : Nat) (g : FuncId) (us : List T) (env : Env) (B : Bx) (K : T → Bx → Prop) : Prop :=
  ∃ r k res res', PCX P g us [(k, res)] r [(j, res')] ∧ B.lookup k = some res ∧ newNames [j] env B = true ∧ r.inP [j].contains = true ∧ bxInP [j].contains [(j, res')] = true ∧ K r ((j, res') :: Bx.drop k B)
theorem vCallI.mk {g : FuncId} {us : List T} {env : Env} {B : Bx} {K : T → Bx → Prop} {r : T} {j k : Nat} {res res' : Res} (h : PCX P g us [(k, res)] r [(j, res')]) (h1 : B.lookup k = some res) (h3 : newNames [j] env B = true)
    (h4 : r.inP [j].contains = true) (h5 : bxInP [j].contains [(j, res')] = true) (hK : K r ((j, res') :: Bx.drop k B)) : vCallI P j g us env B K := ⟨r, k, res, res', h, h1, h3, h4, h5, hK⟩
/-- what is to be shown of a call that gives a row of its own -/
def effN (P : Program) (o : Oper) (env : Env) (B : Bx) (K : T → Bx → Prop) : Prop :=
  match o.op with
  | .call { callee := .value f, args := args, argTypes := ts } =>
    match calleeT (ev P env 0 f), evs P env args.toList ts.toList with
    | some (g, caps), some us => bif anyOwn us then (∃ uh, evsH P env args.toList ts.toList = some uh ∧ vCallI P (dstN o) g (uh ++ caps) env B K) else vCallN P (dstN o) g (us ++ caps) env B K
    | _, _ => False
  | _ => False
theorem effN_sound {o : Oper} {env : Env} {B : Bx} {K : T → Bx → Prop} (h : effN P o env B K) : ∃ t B', OpG P o env B (dstN o) t B' ∧ Env.fresh (dstN o) env = true ∧ K t B' := by
  unfold effN at h
  split at h
  · rename_i f args ts ho
    split at h
    · rename_i g caps us hf hu
      cases hp : anyOwn us with
      | false => rw [hp] at h; exact vCallN_sound (args := args.toList) (by rw [ho]) hf hu h
      | true =>
        rw [hp] at h
        obtain ⟨uh, huh, r, k, res, res', hpc, hk, hnew, hr, hb, hK⟩ := h
        have hnw : ∀ j ∈ ([(dstN o, res')] : Bx).map (·.1), j < pin ∧ Env.fresh j env = true ∧ Bx.fresh j B = true := by
          intro j hj
          have := List.all_eq_true.1 hnew j hj
          simp only [Bool.and_eq_true] at this
          exact ⟨Nat.le_of_ble_eq_true this.1.1, this.1.2, this.2⟩
        have hX := vCallX_op (args := args.toList) (B1 := [(k, res)]) (B1' := [(dstN o, res')]) (by rw [ho]) hf huh hpc ⟨hk, trivial⟩ rfl hnw hr hb
        refine ⟨r, _, fun κ M ν a w he hs => ?_, (hnw _ (List.mem_singleton.2 rfl)).2.1, hK⟩
        refine Oper.wp_mono ?_ (hX κ M ν a w he hs)
        rintro a' w' ⟨v, M', ν', e, h1, h2, h3, h4⟩
        exact ⟨v, M', ν', e, h1, fun i hi => h2 i (fun hm => hi (List.mem_singleton.1 hm)), h3, h4⟩
    · exact h.elim
  · exact h.elim
def genVN (P : Program) (all : List Oper) (es ns : List Nat) (fixB : Bx) : Nat → List (Nat × Nat) → List Oper → Env → Bx → (Env → Bx → Prop) → Prop
  | _, _, [], env, B, K => K env B
  | i, gs, o :: os, env, B, K => guardT all env o
      (bif memN i ns then effN P o env B fun t B' => bxSub B' fixB ∧ FreshOr all i t gs ∧ genVN P all es ns fixB (i + 1) ((i, dstN o) :: gs) os (putE env o.dst t) B' K
       else bif memN i es then effVC P o env B fun t B' => bxSub B' fixB ∧ FreshOr all i t gs ∧ genVN P all es ns fixB (i + 1) (gsNext i o gs) os (putE env o.dst t) B' K
       else pureVC P o env fixB fun t => FreshOr all i t gs ∧ genVN P all es ns fixB (i + 1) gs os (putE env o.dst t) B K)
      (genVN P all es ns fixB (i + 1) gs os (putE env o.dst undefT) B K)
theorem genNVC_nil {all : List Oper} {es ns : List Nat} {fixB : Bx} {i : Nat} {gs : List (Nat × Nat)} {env : Env} {B : Bx} {K : Env → Bx → Prop} (h : K env B) : genVN P all es ns fixB i gs [] env B K := h
def genNOpVC (P : Program) (all : List Oper) (es ns : List Nat) (fixB : Bx) (i : Nat) (gs : List (Nat × Nat)) (o : Oper) (env : Env) (B : Bx) (K' : List (Nat × Nat) → Env → Bx → Prop) : Prop :=
  bif memN i ns then effN P o env B fun t B' => bxSub B' fixB ∧ FreshOr all i t gs ∧ K' ((i, dstN o) :: gs) (putE env o.dst t) B'
  else bif memN i es then effVC P o env B fun t B' => bxSub B' fixB ∧ FreshOr all i t gs ∧ K' (gsNext i o gs) (putE env o.dst t) B'
  else pureVC P o env fixB fun t => FreshOr all i t gs ∧ K' gs (putE env o.dst t) B
theorem genNVC_stepN {all os : List Oper} {es ns : List Nat} {fixB : Bx} {i : Nat} {gs : List (Nat × Nat)} {o : Oper} {env : Env} {B : Bx} {K : Env → Bx → Prop} (hg : o.guard = none)
    (h : ∀ K' : List (Nat × Nat) → Env → Bx → Prop, (∀ gs e b, genVN P all es ns fixB (i + 1) gs os e b K → K' gs e b) → genNOpVC P all es ns fixB i gs o env B K') : genVN P all es ns fixB i gs (o :: os) env B K :=
  guardT_none hg (h (fun gs e b => genVN P all es ns fixB (i + 1) gs os e b K) fun _ _ _ q => q)
theorem genNVC_stepG {all os : List Oper} {es ns : List Nat} {fixB : Bx} {i : Nat} {gs : List (Nat × Nat)} {o : Oper} {env : Env} {B : Bx} {K : Env → Bx → Prop} {j d : Nat} {want : Bool} (hg : o.guard = some (j, want)) (hd : (all[j]?).bind (·.dst) = some d)
    (h : ∀ K' : List (Nat × Nat) → Env → Bx → Prop, (∀ gs e b, genVN P all es ns fixB (i + 1) gs os e b K → K' gs e b) → guardE (env.lookup d) want (genNOpVC P all es ns fixB i gs o env B K') (K' gs (putE env o.dst undefT) B)) : genVN P all es ns fixB i gs (o :: os) env B K :=
  guardT_some hg hd (h (fun gs e b => genVN P all es ns fixB (i + 1) gs os e b K) fun _ _ _ q => q)
attribute [go_sem] effN genNOpVC anyOwn
def genVL (P : Program) (all : List Oper) (es ns ear : List Nat) (fixB : Bx) (j0 : Nat) (fixC : Bx) : Nat → List (Nat × Nat) → List Oper → Env → Bx → (Env → Bx → Prop) → Prop
  | _, _, [], env, B, K => K env B
  | i, gs, o :: os, env, B, K => guardT all env o
      (bif memN i ns then effN P o env B fun t B' => bxSub B' fixB ∧ (bif decide (i < j0) then bxSub B' fixC else True) ∧ FreshOr all i t gs ∧ genVL P all es ns ear fixB j0 fixC (i + 1) ((i, dstN o) :: gs) os (putE env o.dst t) B' K
       else bif memN i es then effVC P o env B fun t B' => bxSub B' fixB ∧ (bif decide (i < j0) then bxSub B' fixC else True) ∧ FreshOr all i t gs ∧ genVL P all es ns ear fixB j0 fixC (i + 1) (gsNext i o gs) os (putE env o.dst t) B' K
       else pureVC P o env (fxOf ear fixB fixC i) fun t => FreshOr all i t gs ∧ genVL P all es ns ear fixB j0 fixC (i + 1) gs os (putE env o.dst t) B K)
      (genVL P all es ns ear fixB j0 fixC (i + 1) gs os (putE env o.dst undefT) B K)
theorem genL_trace (all : List Oper) (es ns ear : List Nat) (hns : ∀ i, memN i ns = true → memN i es = true) (fixB : Bx) (j0 : Nat) (fixC : Bx) (K : Env → Bx → Prop) : ∀ (l : List Oper) (i0 : Nat) (gs : List (Nat × Nat)) (env : Env) (B : Bx), dstsOk n l = true → (∀ x ∈ fixB, x ∈ B) → (i0 ≤ j0 → ∀ x ∈ fixC, x ∈ B) → genVL P all es ns ear fixB j0 fixC i0 gs l env B K →
    ∃ (t : Nat → T) (b : Nat → Bx) (e : Nat → Bool) (jn : Nat → Option Nat), b 0 = B ∧ (∀ i o, l[i]? = some o → OSpecG P n all (fxOf ear fixB fixC (i0 + i)) o (envA l t (fun _ => true) env i) (b i) (t i) (b (i + 1)) (e i) (jn i)) ∧
      (∀ i, i ≤ l.length → ∀ x ∈ fixB, x ∈ b i) ∧ (∀ i, i ≤ l.length → i0 + i ≤ j0 → ∀ x ∈ fixC, x ∈ b i) ∧ (∀ i, e i = true → memN (i0 + i) es = true) ∧ (∀ i, i < l.length → FreshOr all (i0 + i) (t i) gs) ∧
      (∀ g k j, jn g = some j → g < k → k < l.length → (t k).fresh j = true ∨ depB all (i0 + k) (i0 + g) = true) ∧ K (envA l t (fun _ => true) env l.length) (b l.length)
  | [], i0, gs, env, B, _, hB, hC, h => ⟨fun _ => undefT, fun _ => B, fun _ => false, fun _ => none, rfl, fun i o ho => by simp at ho, fun i _ => hB, fun i hi hx => hC (by omega), fun i h => (by cases h), fun i hi => by simp at hi, fun _ _ _ h => (by cases h), h⟩
  | o :: os, i0, gs, env, B, hd, hB, hC, h => by
    simp only [dstsOk, List.all_cons, Bool.and_eq_true] at hd
    obtain ⟨⟨hd1, hd2⟩, hd3⟩ := hd
    have step : ∃ (t0 : T) (B' : Bx) (e0 : Bool) (jz : Option Nat) (gs' : List (Nat × Nat)), OSpecG P n all (fxOf ear fixB fixC i0) o env B t0 B' e0 jz ∧ (∀ x ∈ fixB, x ∈ B') ∧ (i0 + 1 ≤ j0 → ∀ x ∈ fixC, x ∈ B') ∧ (e0 = true → memN i0 es = true) ∧ FreshOr all i0 t0 gs ∧
        (∀ p ∈ gs, p ∈ gs') ∧ (∀ j, jz = some j → (i0, j) ∈ gs') ∧ genVL P all es ns ear fixB j0 fixC (i0 + 1) gs' os (putE env o.dst t0) B' K := by
      rcases guardT_true h with ⟨hg, hx⟩ | ⟨hg, hx⟩
      · have hcx : ∀ {B' : Bx}, (bif decide (i0 < j0) then bxSub B' fixC else True) → i0 + 1 ≤ j0 → bxSub B' fixC := by
          intro B' hc hx
          have : decide (i0 < j0) = true := by simp; omega
          rw [this] at hc; exact hc
        cases hmn : memN i0 ns with
        | true =>
          rw [hmn] at hx
          simp only [cond_true] at hx
          obtain ⟨t, B', hop, hfr, h1, hc, h2, h3⟩ := effN_sound hx
          exact ⟨t, B', true, some (dstN o), _, ⟨hd1, .inl ⟨hg, .inr (.inr ⟨dstN o, rfl, rfl, hop, Nat.le_of_ble_eq_true hd2, hfr⟩)⟩⟩, bxSub_spec h1, fun hx => bxSub_spec (hcx hc hx), fun _ => hns _ hmn, h2, fun p hp => List.mem_cons_of_mem _ hp, fun j hj => (by cases hj; exact List.mem_cons_self), h3⟩
        | false =>
        rw [hmn] at hx
        simp only [cond_false] at hx
        cases hm : memN i0 es with
        | true =>
          rw [hm] at hx
          simp only [cond_true] at hx
          have sub : ∀ p ∈ gs, p ∈ gsNext i0 o gs := fun p hp => by unfold gsNext; cases makes o <;> simp [hp]
          rcases effVC_makes hx with ⟨t, hop, h1, hc, h2, h3⟩ | ⟨t, B', hop, h1, hc, h2, h3⟩ | ⟨hmk, t, B', hop, hfr, h1, hc, h2, h3⟩
          · refine ⟨t, B, true, none, _, ⟨hd1, .inl ⟨hg, .inr (.inl ⟨rfl, rfl, hop.e⟩)⟩⟩, hB, fun hx => hC (by omega), fun _ => rfl, h2, sub, fun j hj => (by cases hj), h3⟩
          · exact ⟨t, B', true, none, _, ⟨hd1, .inl ⟨hg, .inr (.inl ⟨rfl, rfl, hop⟩)⟩⟩, bxSub_spec h1, fun hx => bxSub_spec (hcx hc hx), fun _ => rfl, h2, sub, fun j hj => (by cases hj), h3⟩
          · refine ⟨t, B', true, some (dstN o), _, ⟨hd1, .inl ⟨hg, .inr (.inr ⟨dstN o, rfl, rfl, hop, Nat.le_of_ble_eq_true hd2, hfr⟩)⟩⟩, bxSub_spec h1, fun hx => bxSub_spec (hcx hc hx), fun _ => rfl, h2, sub, fun j hj => ?_, h3⟩
            cases hj
            unfold gsNext; rw [hmk]; simp
        | false =>
          rw [hm] at hx
          simp only [cond_false] at hx
          obtain ⟨t, hop, h2, h3⟩ := pureVC_sound hx
          exact ⟨t, B, false, none, gs, ⟨hd1, .inl ⟨hg, .inl ⟨rfl, rfl, hop, rfl⟩⟩⟩, hB, fun hx => hC (by omega), fun h => (by cases h), h2, fun _ h => h, fun j hj => (by cases hj), h3⟩
      · exact ⟨undefT, B, false, none, gs, ⟨hd1, .inr ⟨hg, rfl, rfl, rfl, rfl⟩⟩, hB, fun hx => hC (by omega), fun h => (by cases h), FreshOr_un gs, fun _ h => h, fun j hj => (by cases hj), hx⟩
    obtain ⟨t0, B', e0, jz, gs', hspec, hfix, hfixC, he0, hfr0, hsub, hj0, hk⟩ := step
    obtain ⟨t, b, e, jn, hb0, hs, hf, hfC, he, hfr, hjj, hK⟩ := genL_trace all es ns ear hns fixB j0 fixC K os (i0 + 1) gs' _ B' hd3 hfix hfixC hk
    refine ⟨fun i => match i with | 0 => t0 | i + 1 => t i, fun i => match i with | 0 => B | i + 1 => b i, fun i => match i with | 0 => e0 | i + 1 => e i, fun i => match i with | 0 => jz | i + 1 => jn i, rfl, ?_, ?_, ?_, ?_, ?_, ?_, ?_⟩
    · intro i o' ho
      cases i with
      | zero => simp at ho; subst ho; rw [← hb0] at hspec; exact hspec
      | succ i =>
        rw [envA_cons]
        have := hs i o' (by simpa using ho)
        rwa [show i0 + 1 + i = i0 + (i + 1) by omega] at this
    · intro i hi
      cases i with
      | zero => exact hB
      | succ i => exact hf i (by simpa using hi)
    · intro i hi hx
      cases i with
      | zero => exact hC (by omega)
      | succ i => exact hfC i (by simpa using hi) (by omega)
    · intro i hi
      cases i with
      | zero => exact he0 hi
      | succ i => have := he i hi; rwa [show i0 + 1 + i = i0 + (i + 1) by omega] at this
    · intro i hi
      cases i with
      | zero => exact hfr0
      | succ i =>
        have := hfr i (by simpa using hi)
        rw [show i0 + 1 + i = i0 + (i + 1) by omega] at this
        exact gen_trace.FreshOr_sub hsub this
    · intro g k j hg hgk hk'
      cases k with
      | zero => omega
      | succ k =>
        cases g with
        | zero =>
          have := FreshOr_spec (hfr k (by simpa using hk')) (i0, j) (hj0 j hg)
          rwa [show i0 + 1 + k = i0 + (k + 1) by omega] at this
        | succ g =>
          have := hjj g k j hg (by omega) (by simpa using hk')
          rwa [show i0 + 1 + k = i0 + (k + 1) by omega, show i0 + 1 + g = i0 + (g + 1) by omega] at this
    · rw [List.length_cons, envA_cons]; exact hK
/-- THE RULE: es: the operations that turn or make boxes; ks: the names of the boxes that they turn; of these, ks' before j0 -/
theorem AWP.genL {id : Nat} {l : List Oper} {env : Env} {B : Bx} (es ns ks : List Nat) (ear : List Nat) (j0 : Nat) (ks' : List Nat) (hm : P.follows .mixedOrders = true) (hl : ((genOk n l es && ear.all fun i => earlyB l es j0 i) && ns.all fun i => memN i es) = true)
    (h : ∀ K : Env → Bx → Prop, (∀ e b, Q .normal ⟨e, b⟩ → K e b) → genVL P l es ns ear (Bx.outs B ks) j0 (Bx.outs B ks') 0 [] l env B K) : AWP P n (.region id l.toArray true) ⟨env, B⟩ Q := by
  rw [Bool.and_eq_true, Bool.and_eq_true] at hl
  obtain ⟨⟨hl, hear⟩, hns⟩ := hl
  have hns' : ∀ i, memN i ns = true → memN i es = true := fun i hi => List.all_eq_true.1 hns i (memN_spec hi)
  simp only [genOk, Bool.and_eq_true] at hl
  intro κ M0 a w hs
  obtain ⟨hback, hpairs, _⟩ := lex_pairs hl.1
  obtain ⟨t, b, e, jn, hb0, hsp, hf, hfC, he, _, hjj, hK⟩ := genL_trace l es ns ear hns' (Bx.outs B ks) j0 (Bx.outs B ks') _ l 0 [] env B hl.2.1 (fun x hx => Bx.outs_sub hx) (fun _ x hx => Bx.outs_sub hx) (h (fun e b => Q .normal ⟨e, b⟩) (fun _ _ k => k))
  have hord : EffOrdG l e := fun i k hik hk hei hek => esOk_spec hl.2.2 i (memN_spec (by simpa using he i hei)) k (memN_spec (by simpa using he k hek)) hik
  refine wp_region_any hm ?_
  have hsz : l.toArray.size = l.length := by simp
  rw [hsz]
  have hrep : ∀ j, (Array.replicate l.length false).getD j false = false := fun j => rep_getD _ j
  have hbc : ∀ i, i < l.length → e i = false → b (i + 1) = b i := by
    intro i hi hei
    rcases (hsp i l[i] (by simp [hi])).2 with ⟨_, ⟨_, _, _, h⟩ | ⟨h, _⟩ | ⟨_, h, _⟩⟩ | ⟨_, _, h, _⟩
    · exact h
    · rw [hei] at h; cases h
    · rw [hei] at h; cases h
    · exact h
  refine gen_sound2 (fx := fun i => fxOf ear (Bx.outs B ks) (Bx.outs B ks') i) hback hpairs hord (fun i o ho => by have := hsp i o ho; rwa [Nat.zero_add] at this) ?_ (fun g k j hg hgk hk => by have := hjj g k j hg hgk hk; simpa using this) (fun a w s => ⟨_, s, hK⟩) l.length _ a _ ?_ (mid_start (σ := ⟨env, B⟩) hb0 hs)
  · intro i m hi hm hdep x hx
    unfold fxOf at hx
    cases hE0 : memN i ear with
    | false => rw [hE0] at hx; exact hf m hm x hx
    | true =>
      have hE := List.all_eq_true.1 hear i (memN_spec hE0)
      rw [hE0] at hx
      simp only [cond_true] at hx
      rcases Nat.le_total m j0 with hmj | hmj
      · exact hfC m hm (by omega) x hx
      · have hno : ∀ j, j0 ≤ j → j < m → e j = false := by
          intro j hj1 hj2
          cases hej : e j with
          | false => rfl
          | true =>
            have hmem := memN_spec (he j hej)
            rw [Nat.zero_add] at hmem
            have h1 := List.all_eq_true.1 hE j hmem
            simp only [Bool.or_eq_true] at h1
            rcases h1 with h1 | h1
            · have : j < j0 := by simpa using h1
              omega
            · have := hdep j hj2 hej
              rw [h1] at this; cases this
        have hbb : b m = b j0 := by
          have := const_b hbc j0 m hmj hm (fun j hj1 hj2 => hno j hj1 hj2)
          first | exact this | exact this.symm
        rw [hbb]
        exact hfC j0 (by omega) (by omega) x hx
  · unfold cnt
    have hfil : (List.range l.length).filter (fun i => !(Array.replicate l.length false).getD i false) = List.range l.length := by
      rw [List.filter_eq_self]
      intro x _
      simp only [hrep x, Bool.not_false]
    rw [hfil, List.length_range]
theorem genLVC_nil {all : List Oper} {es ns ear : List Nat} {fixB : Bx} {j0 : Nat} {fixC : Bx} {i : Nat} {gs : List (Nat × Nat)} {env : Env} {B : Bx} {K : Env → Bx → Prop} (h : K env B) : genVL P all es ns ear fixB j0 fixC i gs [] env B K := h
def genLOpVC (P : Program) (all : List Oper) (es ns ear : List Nat) (fixB : Bx) (j0 : Nat) (fixC : Bx) (i : Nat) (gs : List (Nat × Nat)) (o : Oper) (env : Env) (B : Bx) (K' : List (Nat × Nat) → Env → Bx → Prop) : Prop :=
  bif memN i ns then effN P o env B fun t B' => bxSub B' fixB ∧ (bif decide (i < j0) then bxSub B' fixC else True) ∧ FreshOr all i t gs ∧ K' ((i, dstN o) :: gs) (putE env o.dst t) B'
  else bif memN i es then effVC P o env B fun t B' => bxSub B' fixB ∧ (bif decide (i < j0) then bxSub B' fixC else True) ∧ FreshOr all i t gs ∧ K' (gsNext i o gs) (putE env o.dst t) B'
  else pureVC P o env (fxOf ear fixB fixC i) fun t => FreshOr all i t gs ∧ K' gs (putE env o.dst t) B
theorem genLVC_stepN {all os : List Oper} {es ns ear : List Nat} {fixB : Bx} {j0 : Nat} {fixC : Bx} {i : Nat} {gs : List (Nat × Nat)} {o : Oper} {env : Env} {B : Bx} {K : Env → Bx → Prop} (hg : o.guard = none)
    (h : ∀ K' : List (Nat × Nat) → Env → Bx → Prop, (∀ gs e b, genVL P all es ns ear fixB j0 fixC (i + 1) gs os e b K → K' gs e b) → genLOpVC P all es ns ear fixB j0 fixC i gs o env B K') : genVL P all es ns ear fixB j0 fixC i gs (o :: os) env B K :=
  guardT_none hg (h (fun gs e b => genVL P all es ns ear fixB j0 fixC (i + 1) gs os e b K) fun _ _ _ q => q)
theorem genLVC_stepG {all os : List Oper} {es ns ear : List Nat} {fixB : Bx} {j0 : Nat} {fixC : Bx} {i : Nat} {gs : List (Nat × Nat)} {o : Oper} {env : Env} {B : Bx} {K : Env → Bx → Prop} {j d : Nat} {want : Bool} (hg : o.guard = some (j, want)) (hd : (all[j]?).bind (·.dst) = some d)
    (h : ∀ K' : List (Nat × Nat) → Env → Bx → Prop, (∀ gs e b, genVL P all es ns ear fixB j0 fixC (i + 1) gs os e b K → K' gs e b) → guardE (env.lookup d) want (genLOpVC P all es ns ear fixB j0 fixC i gs o env B K') (K' gs (putE env o.dst undefT) B)) : genVL P all es ns ear fixB j0 fixC i gs (o :: os) env B K :=
  guardT_some hg hd (h (fun gs e b => genVL P all es ns ear fixB j0 fixC (i + 1) gs os e b K) fun _ _ _ q => q)
attribute [go_sem] genLOpVC fxOf
end Go.Sx
namespace Go.Sx
attribute [go_sem] Nat.reduceBEq Nat.reduceBNe Nat.reduceAdd Nat.reduceSub Nat.reduceMul Nat.reduceLeDiff Nat.reduceLT Nat.reduceEqDiff Int.reduceToNat Int.reduceLE Int.reduceLT Int.reduceEq reduceCtorEq
theorem AWP.condT {P : Program} {n : Nat} {σ : AS} {Q : Exit → AS → Prop} {c : Operand} {x y : Code} (hc : ev0 σ.env c = some (.one (.dat (.bool true)))) (h : AWP P n x σ Q) : AWP P n (.cond c x y) σ Q := AWP.cond hc (fun _ => h) fun e => absurd e (by decide)
theorem AWP.condF {P : Program} {n : Nat} {σ : AS} {Q : Exit → AS → Prop} {c : Operand} {x y : Code} (hc : ev0 σ.env c = some (.one (.dat (.bool false)))) (h : AWP P n y σ Q) : AWP P n (.cond c x y) σ Q := AWP.cond hc (fun e => absurd e (by decide)) fun _ => h
theorem AWP.cnd {P : Program} {n : Nat} {σ : AS} {Q : Exit → AS → Prop} {c : Operand} {x y : Code} {b : Bool} (ht : b = true → AWP P n x σ Q) (hf : b = false → AWP P n y σ Q) (hc : ev0 σ.env c = some (.one (.dat (.bool b))) := by with_unfolding_all rfl) : AWP P n (.cond c x y) σ Q := AWP.cond hc ht hf
/-- one step of the walk -/
theorem stp {P Q : Prop} (h : Q) (k : Q → P := by
  intro q
  with_reducible first
    | exact seqVC_stepN rfl q
    | exact AWP.seq q
    | exact AWP.seqR (by kernel_rfl) q
    | exact parVC_stepN rfl q
    | exact parEVC_stepN rfl q
    | exact genVC_stepN rfl q
    | exact gen2VC_stepN rfl q
    | exact genMVC_stepN rfl q
    | exact genNVC_stepN rfl q
    | exact genLVC_stepN rfl q
    | exact seqVC_stepG rfl (by with_unfolding_all rfl) q
    | exact parVC_stepG rfl (by with_unfolding_all rfl) q
    | exact parEVC_stepG rfl (by with_unfolding_all rfl) q
    | exact genVC_stepG rfl (by with_unfolding_all rfl) q
    | exact gen2VC_stepG rfl (by with_unfolding_all rfl) q
    | exact genMVC_stepG rfl (by with_unfolding_all rfl) q
    | exact genNVC_stepG rfl (by with_unfolding_all rfl) q
    | exact genLVC_stepG rfl (by with_unfolding_all rfl) q) : P := k h
/-- one step that binds nothing -/
theorem stn {P Q : Prop} (h : Q) (k : Q → P := by
  intro q
  with_reducible first
    | exact seqVC_nil q
    | exact parVC_nil q
    | exact parEVC_nil q
    | exact genVC_nil q
    | exact gen2VC_nil q
    | exact genMVC_nil q
    | exact genNVC_nil q
    | exact genLVC_nil q
    | exact AWP.block q
    | exact AWP.condT (by with_unfolding_all rfl) q
    | exact AWP.condF (by with_unfolding_all rfl) q
    | exact AWP.skip q
    | exact AWP.ret q
    | exact AWP.exit q) : P := k h
/-- a region of readings -/
theorem stp' {P Q : Prop} (h : Q) (k : Q → P := by
  intro q
  with_reducible exact AWP.parR mixed (by kernel_rfl) q) : P := k h
/-- one step that is tried last -/
theorem stq {P Q : Prop} (h : Q) (k : Q → P := by
  intro q
  with_reducible first
    | exact ⟨(by kernel_rfl : depB _ _ _ = true), q⟩
    | exact Or.inl q) : P := k h
/-- the goal is not false -/
theorem nf {P : Prop} (h : P) (k : P → P := by (fail_if_success guard_target =ₛ False → False); exact id) : P := k h
theorem sts {P Q : Prop} (h : Q) (k : Q → P := by intro q; simp only [go_sem]; exact q) : P := k h
theorem Gh.tt {n : Nat} {env : Env} {B : Bx} (l : List (Nat × Nat)) {τ : AS}
    (h1 : wkE l env τ.env := by (repeat (first | exact trivial | refine ⟨rfl, ?_⟩ | refine ⟨by (simp only [go_sem, List.length_append, List.length_map, List.length_cons, List.length_nil, Nat.zero_add]) <;> rfl, ?_⟩)))
    (h2 : wkB l B τ.B := by (repeat (first | exact trivial | refine ⟨rfl, ?_⟩ | refine ⟨by (simp only [go_sem, List.length_append, List.length_map, List.length_cons, List.length_nil, Nat.zero_add]) <;> rfl, ?_⟩)))
    (h3 : noDup (τ.B.map fun p => rn l p.1) = true := by rfl) (h4 : noDup (τ.B.map (·.1)) = true := by rfl) (h5 : rnLow l = true := by rfl) : Gh n ⟨env, B⟩ τ := Gh.to l h1 h2 h3 h4 h5
theorem lf {P : Prop} (h : P := by first | exact fun _ h => absurd h List.not_mem_nil | (refine fin0 ?_; first | rfl | (simp only [zb, cond_true, cond_false, decide_true, decide_false] <;> rfl))) : P := h
theorem PCB.ob {P : Program} {n : Nat} {f : FuncId} {fn : Func} {c : Code} {args : List T} {B B' : Bx} {r : T} (hf : P.funcs[f]? = some fn) (hnt : fn.ntmps = n) {rs : List ResultVar} (hres : fn.results = rs.toArray) (h : AWP P n c ⟨envOf 0 args, B⟩ (RetQ P rs r B'))
    (hb : fn.body = some c := by rfl) (hn : (fn.name == "runtime.NumGoroutine") = false := by decide) (hlen : Nat.ble args.length n = true := by rfl) (hpin : pinsOnly B = true := by rfl) (hk : B'.map (·.1) = B.map (·.1) := by rfl) (hpr : r.pins = true := by rfl) (hpB : bxPins B' = true := by rfl) : PCB P f args B r B' :=
  PCB.of_body hf hb hn hnt hres hlen hpin hk h hpr hpB
theorem Gh.fz {n : Nat} {env : Env} {B : Bx} (k : Nat) {sz : Nat} {rows : List (List C)} (hb : B.lookup k = some (.row sz rows) := by rfl) (hlow : lowN k = true := by rfl)
    (hE : Env.frOk k rows.length env := by simp only [go_sem, List.length_map]) (hB : Bx.frOk k rows.length B := by simp only [go_sem, List.length_map]) :
    Gh n ⟨env, B⟩ ⟨frE k sz rows env, frB k sz rows (Bx.drop k B)⟩ := Gh.freeze k hb hlow hE hB
end Go.Sx
set_option linter.unusedSimpArgs false
set_option linter.unusedVariables false
set_option maxRecDepth 20000
set_option maxHeartbeats 4000000
namespace Go.Proofs.Ythpndlinlhapgaa
open Go Go.Sx
open Bool renaming not_eq_true' → zM, not_eq_false' → zN
abbrev Dt (d : Dat) : T := .st (encDat d)
def sTrue : List UInt8 := [116, 114, 117, 101]
def sFalse : List UInt8 := [102, 97, 108, 115, 101]
def sZero : List UInt8 := [122, 101, 114, 111]
def sOver : List UInt8 := [111, 118, 101, 114, 102, 108, 111, 119]
def boolDat (b : Bool) : Dat := atomDat (bif b then sTrue else sFalse)
theorem atom_c (b : Bool) : PC Try.prog 44 [Bo b] (Dt (boolDat b)) := by
  refine PCB.ob Try.func44 Try.ntmps44 Try.results44 ?_
  repeat' (first | (simp only [go_sem]; all_goals refine nf ?_) | (refine stp ?_; intro K hK) | (apply hK; clear hK K) | refine stn ?_ | (refine AWP.cnd ?_ ?_ <;> intro h <;> (try simp only [zM, zN] at h)) | (refine ⟨fun h => ?_, fun h => ?_⟩ <;> (try simp only [zM, zN] at h) <;> try simp only [h]) | refine stq ?_ | (clear hK K))
  all_goals (subst h; refine ⟨rfl, fun _ h => by cases h⟩)
def sizeS (a : Int) : Int := if a < 0 then IntKind.u64.wrap (0 - IntKind.u64.wrap a) else IntKind.u64.wrap a
theorem size_c (a : Int) : PC Try.prog 71 [I .i64 a] (I .u64 (sizeS a)) := by
  refine PCB.ob Try.func71 Try.ntmps71 Try.results71 ?_
  repeat' (first | (simp only [go_sem]; all_goals refine nf ?_) | (refine stp ?_; intro K hK) | (apply hK; clear hK K) | refine stn ?_ | (refine AWP.cnd ?_ ?_ <;> intro h <;> (try simp only [zM, zN] at h)) | (refine ⟨fun h => ?_, fun h => ?_⟩ <;> (try simp only [zM, zN] at h) <;> try simp only [h]) | refine stq ?_ | (clear hK K))
  all_goals (simp only [decide_eq_true_eq, decide_eq_false_iff_not] at h; refine ⟨by simp only [sizeS, h, if_true, if_false], fun _ h => h⟩)
abbrev andU (a b : Int) : Int := IntKind.u64.wrap (BitVec.ofInt IntKind.u64.bits a &&& BitVec.ofInt IntKind.u64.bits b).toNat
abbrev shrU (a : Int) : Int := a.fdiv (2 ^ min (Int.toNat 32) IntKind.u64.bits)
/-- the words of math/bits.Mul64 -/
def mulHi (x y : Int) : Int :=
  let x0 := andU x 4294967295
  let x1 := shrU x
  let y0 := andU y 4294967295
  let y1 := shrU y
  let w0 := IntKind.u64.wrap (x0 * y0)
  let t := IntKind.u64.wrap (IntKind.u64.wrap (x1 * y0) + shrU w0)
  let w1 := andU t 4294967295
  let w2 := shrU t
  let w1' := IntKind.u64.wrap (w1 + IntKind.u64.wrap (x0 * y1))
  IntKind.u64.wrap (IntKind.u64.wrap (IntKind.u64.wrap (x1 * y1) + w2) + shrU w1')
theorem mul64_c (x y : Int) : PC Try.prog 70 [I .u64 x, I .u64 y] (.tup [I .u64 (mulHi x y), I .u64 (IntKind.u64.wrap (x * y))]) := by
  refine PCB.ob Try.func70 Try.ntmps70 Try.results70 ?_
  repeat' (first | (simp only [go_sem]; all_goals refine nf ?_) | (refine stp ?_; intro K hK) | (apply hK; clear hK K) | refine stn ?_ | (refine AWP.cnd ?_ ?_ <;> intro h <;> (try simp only [zM, zN] at h)) | (refine ⟨fun h => ?_, fun h => ?_⟩ <;> (try simp only [zM, zN] at h) <;> try simp only [h]) | (with_reducible refine ⟨by decide, ?_⟩) | refine stq ?_ | (clear hK K))
  all_goals exact ⟨rfl, fun _ h => h⟩
def mulN (a b : Int) : Int :=
  if (!(decide (a < 0) == decide (b < 0))) = true then IntKind.i64.wrap (0 - IntKind.i64.wrap (IntKind.u64.wrap (sizeS a * sizeS b))) else IntKind.i64.wrap (IntKind.u64.wrap (sizeS a * sizeS b))
def mulOk (a b : Int) : Bool :=
  decide (mulHi (sizeS a) (sizeS b) = 0) && (if (!(decide (a < 0) == decide (b < 0))) = true then decide (IntKind.u64.wrap (sizeS a * sizeS b) ≤ 9223372036854775808) else decide (IntKind.u64.wrap (sizeS a * sizeS b) < 9223372036854775808))
theorem multiply_c (a b : Int) : PC Try.prog 62 [I .i64 a, I .i64 b] (.tup [I .i64 (mulN a b), Bo (mulOk a b)]) := by
  refine PCB.ob Try.func62 Try.ntmps62 Try.results62 ?_
  repeat' (first | (simp only [go_sem]; all_goals refine nf ?_) | (refine stp ?_; intro K hK) | (apply hK; clear hK K) | refine stn ?_ | (refine AWP.cnd ?_ ?_ <;> intro h <;> (try simp only [zM, zN] at h)) | (refine ⟨fun h => ?_, fun h => ?_⟩ <;> (try simp only [zM, zN] at h) <;> try simp only [h]) | (with_reducible first | refine ⟨_, size_c _, ?_⟩ | refine ⟨_, mul64_c _ _, ?_⟩) | refine stq ?_ | (clear hK K))
  all_goals exact ⟨by simp only [mulN, mulOk, *, Bool.not_true, Bool.not_false, if_true, if_false, Bool.true_and, Bool.false_and, reduceCtorEq], fun _ h => h⟩
def intRes (op : List UInt8) (a b : Int) : Dat × List UInt8 :=
  bif decide (op = [60]) then (boolDat (decide (a < b)), []) else bif decide (op = [61, 60]) then (boolDat (decide (a ≤ b)), []) else
  bif decide (op = [43]) then (bif !(decide (a < IntKind.i64.wrap (a + b)) == decide (0 < b)) then (zeroDat, sOver) else (intDat (IntKind.i64.wrap (a + b)), [])) else
  bif decide (op = [45]) then (bif !(decide (IntKind.i64.wrap (a - b) < a) == decide (0 < b)) then (zeroDat, sOver) else (intDat (IntKind.i64.wrap (a - b)), [])) else
  bif decide (op = [42]) then (bif !mulOk a b then (zeroDat, sOver) else (intDat (mulN a b), [])) else
  bif decide (b = 0) then (zeroDat, sZero) else
  bif decide (b = -1) && (decide (a = IntKind.i64.wrap (0 - a)) && !decide (a = 0)) then (zeroDat, sOver) else
  bif decide (op = [114, 101, 109]) then (intDat (a.tmod b), []) else (intDat (IntKind.i64.wrap (a.tdiv b)), [])
theorem integers_c (op : List UInt8) (a b : Int) : PC Try.prog 43 [S op, I .i64 a, I .i64 b] (.tup [Dt (intRes op a b).1, I .i64 0, S (intRes op a b).2]) := by
  refine PCB.ob Try.func43 Try.ntmps43 Try.results43 ?_
  repeat' (first | (simp only [go_sem]; all_goals refine nf ?_) | (refine stp ?_; intro K hK) | (apply hK; clear hK K) | refine stn ?_ | (refine AWP.cnd ?_ ?_ <;> intro h <;> (try simp only [zM, zN] at h)) | (refine ⟨fun h => ?_, fun h => ?_⟩ <;> (try simp only [zM, zN] at h) <;> try simp only [h]) | (with_reducible first | refine ⟨_, atom_c _, ?_⟩ | refine ⟨_, multiply_c _ _, ?_⟩ | refine ⟨by simpa using ‹decide (b = 0) = false›, ?_⟩) | refine stq ?_ | (clear hK K))
  all_goals (refine ⟨?_, fun _ h => by cases h⟩)
  all_goals simp only [intRes, *, cond_true, cond_false, encDat_eq, Bool.true_and, Bool.and_true, Bool.false_and, Bool.and_false]
  all_goals first | rfl | (exact absurd h (by decide)) | trace_state
end Go.Proofs.Ythpndlinlhapgaa
set_option linter.unusedSimpArgs false
set_option linter.unusedVariables false
set_option maxRecDepth 20000
namespace Go.Proofs.Ythpndlinlhapgaa
open Go Go.Sx
open Bool renaming not_eq_true' → zM, not_eq_false' → zN
/-- the place of the first that meets p, or -1 -/
def findI {α : Type} (p : α → Bool) : Nat → List α → Int
  | _, [] => -1
  | k, d :: l => bif p d then k else findI p (k + 1) l
def ixEnv (g : FuncId) (ds : List Dat) (k : Nat) : Env := [(8, I .i64 k), (7, I .i64 ds.length), (1, .one (.dat (.fn g))), (0, .one (.dat (.sl 13 (ds.map encDat))))]
theorem findI_drop {α : Type} (p : α → Bool) (l : List α) (k : Nat) (d : α) (h : l[k]? = some d) : findI p k (l.drop k) = bif p d then (k : Int) else findI p (k + 1) (l.drop (k + 1)) := by
  have hlt := (List.getElem?_eq_some_iff.1 h).1
  have hv := (List.getElem?_eq_some_iff.1 h).2
  rw [List.drop_eq_getElem_cons hlt, hv]
  rfl
theorem findI_any {α : Type} (p : α → Bool) : ∀ (l : List α) (k : Nat), (findI p k l ≥ 0) ↔ l.any p = true
  | [], k => by simp [findI]
  | d :: l, k => by
    have := findI_any p l (k + 1)
    simp only [findI, List.any_cons]
    cases p d <;> simp [this]
theorem indexFunc_c (g : FuncId) (p : Dat → Bool) (ds : List Dat) (hp : ∀ d ∈ ds, PC Try.prog g [.st (encDat d)] (Bo (p d))) :
    PC Try.prog 64 [.one (.dat (.sl 13 (ds.map encDat))), .one (.dat (.fn g))] (I .i64 (findI p 0 ds)) := by
  refine PCB.ob Try.func64 Try.ntmps64 Try.results64 ?_
  refine AWP.len 0 rfl fun hlen => ?_
  rw [List.length_map] at hlen
  repeat' (first | (simp only [go_sem, List.length_map]; all_goals refine nf ?_) | (refine stp ?_; intro K hK) | (apply hK; clear hK K) | refine stn ?_ | (refine AWP.cnd ?_ ?_ <;> intro h <;> (try simp only [zM, zN] at h)) | (refine ⟨fun h => ?_, fun h => ?_⟩ <;> (try simp only [zM, zN] at h) <;> try simp only [h]) | refine stq ?_ | (clear hK K))
  refine AWP.loopE (fun m e b => ∃ k, k ≤ ds.length ∧ m = ds.length - k ∧ findI p 0 ds = findI p k (ds.drop k) ∧ e = ixEnv g ds k ∧ b = []) ds.length (ixEnv g ds 0) ⟨rfl, rfl, rfl, rfl, trivial⟩ ⟨0, Nat.zero_le _, rfl, rfl, rfl, rfl⟩ ?_
  rintro m e b ⟨k, hk, rfl, hfind, rfl, rfl⟩
  unfold ixEnv
  by_cases hlt : k < ds.length
  · have hb : decide ((k : Int) < (ds.length : Int)) = true := by simpa using hlt
    obtain ⟨d, hd⟩ : ∃ d, ds[k]? = some d := ⟨ds[k], by simp [hlt]⟩
    have hd' : (ds.map encDat)[k]? = some (encDat d) := by rw [List.getElem?_map, hd]; rfl
    have hmem : d ∈ ds := List.mem_of_getElem? hd
    have hdrop := findI_drop p ds k d hd
    repeat' (first | (simp only [go_sem, List.length_map, hb]; all_goals refine nf ?_) | (refine stp ?_; intro K hK) | (apply hK; clear hK K) | refine stn ?_ | (refine AWP.cnd ?_ ?_ <;> intro h <;> (try simp only [zM, zN] at h)) | (refine ⟨fun h => ?_, fun h => ?_⟩ <;> (try simp only [zM, zN] at h) <;> try simp only [h]) | (with_reducible first | refine ⟨_, hp d hmem, ?_⟩ | refine ⟨by omega, encDat d, hd', ?_⟩) | refine stq ?_ | (clear hK K))
    · exact ⟨by rw [hfind, hdrop, h]; rfl, fun _ h => h⟩
    · refine ⟨ds.length - (k + 1), ixEnv g ds (k + 1), by omega, ?_, k + 1, by omega, rfl, by rw [hfind, hdrop, h]; rfl, rfl⟩
      rw [w64 (by omega)]; exact ⟨rfl, rfl, rfl, rfl, trivial⟩
  · have hb : decide ((k : Int) < (ds.length : Int)) = false := by simpa using hlt
    have hk2 : k = ds.length := by omega
    repeat' (first | (simp only [go_sem, List.length_map, hb]; all_goals refine nf ?_) | (refine stp ?_; intro K hK) | (apply hK; clear hK K) | refine stn ?_ | (refine AWP.cnd ?_ ?_ <;> intro h <;> (try simp only [zM, zN] at h)) | (refine ⟨fun h => ?_, fun h => ?_⟩ <;> (try simp only [zM, zN] at h) <;> try simp only [h]) | refine stq ?_ | (clear hK K))
    all_goals exact ⟨by rw [hfind, hk2, List.drop_length]; rfl, fun _ h => h⟩
theorem contains_c (g : FuncId) (p : Dat → Bool) (ds : List Dat) (hp : ∀ d ∈ ds, PC Try.prog g [.st (encDat d)] (Bo (p d))) :
    PC Try.prog 47 [.one (.dat (.sl 13 (ds.map encDat))), .one (.dat (.fn g))] (Bo (ds.any p)) := by
  refine PCB.ob Try.func47 Try.ntmps47 Try.results47 ?_
  repeat' (first | (simp only [go_sem]; all_goals refine nf ?_) | (refine stp ?_; intro K hK) | (apply hK; clear hK K) | refine stn ?_ | (refine AWP.cnd ?_ ?_ <;> intro h <;> (try simp only [zM, zN] at h)) | (refine ⟨fun h => ?_, fun h => ?_⟩ <;> (try simp only [zM, zN] at h) <;> try simp only [h]) | (with_reducible refine ⟨_, indexFunc_c g p ds hp, ?_⟩) | refine stq ?_ | (clear hK K))
  all_goals (refine ⟨?_, fun _ h => h⟩; rw [show decide (0 ≤ findI p 0 ds) = ds.any p from by rw [← Bool.coe_iff_coe]; simpa using findI_any p ds 0])
mutual
def hasFun : Dat → Bool
  | ⟨kind, _, _, kids, _, _, _, _, _, _, _, _, _⟩ => decide (kind = 9) || hasFuns kids
def hasFuns : List Dat → Bool
  | [] => false
  | d :: l => hasFun d || hasFuns l
end
theorem hasFuns_any : ∀ l : List Dat, hasFuns l = l.any hasFun
  | [] => rfl
  | d :: l => by simp only [hasFuns, List.any_cons, hasFuns_any l]
theorem hasFun_eq (d : Dat) : hasFun d = (decide (d.kind = 9) || d.kids.any hasFun) := by cases d; simp only [hasFun, hasFuns_any]
theorem hasFunction_c (d : Dat) : PC Try.prog 29 [.st (encDat d)] (Bo (hasFun d)) := by
    have ih : ∀ k ∈ d.kids, PC Try.prog 29 [.st (encDat k)] (Bo (hasFun k)) := fun k hk => hasFunction_c k
    refine PCB.ob Try.func29 Try.ntmps29 Try.results29 ?_
    repeat' (first | (simp only [go_sem, encDat_eq]; all_goals refine nf ?_) | (refine stp ?_; intro K hK) | (apply hK; clear hK K) | refine stn ?_ | (refine AWP.cnd ?_ ?_ <;> intro h <;> (try simp only [zM, zN] at h)) | (refine ⟨fun h => ?_, fun h => ?_⟩ <;> (try simp only [zM, zN] at h) <;> try simp only [h]) | (with_reducible refine ⟨_, contains_c 29 hasFun d.kids ih, ?_⟩) | refine stq ?_ | (clear hK K))
    all_goals (rw [hasFun_eq]; refine ⟨by simp only [h, Bool.true_or, Bool.false_or], fun _ h => by cases h⟩)
termination_by SizeOf.sizeOf d
decreasing_by
  cases d; simp only at hk; have := List.sizeOf_lt_of_mem hk; simp; omega
end Go.Proofs.Ythpndlinlhapgaa
set_option linter.unusedSimpArgs false
set_option linter.unusedVariables false
set_option maxRecDepth 20000
set_option maxHeartbeats 400000
namespace Go.Proofs.Ythpndlinlhapgaa
open Go Go.Sx
open Bool renaming not_eq_true' → zM, not_eq_false' → zN
/-- the source of numbers -/
structure Src where
  l : List Int
  pos : Nat
def Src.ok (s : Src) : Prop := (∀ x ∈ s.l, -9223372036854775808 ≤ x ∧ x ≤ 9223372036854775807) ∧ s.l.length ≤ 1000000
abbrev srcB (s : Src) : Res := .cells [.dat (.sl 1 (s.l.map encInt)), .dat (.int .i64 s.pos)]
abbrev Sp (k : Nat) : T := .one (.ptr k 0)
def emptyS (s : Src) (n : Int) : Bool := decide (n < 1) || decide ((s.l.length : Int) ≤ (s.pos : Int))
def nextV (s : Src) (n : Int) : Int := bif emptyS s n then 0 else bif decide (((s.l[s.pos]?).getD 0).tmod n < 0) then ((s.l[s.pos]?).getD 0).tmod n + n else ((s.l[s.pos]?).getD 0).tmod n
def nextS (s : Src) (n : Int) : Src := bif emptyS s n then s else { s with pos := s.pos + 1 }
theorem ok_next {s : Src} (h : s.ok) (n : Int) : (nextS s n).ok := by
  unfold nextS; cases emptyS s n <;> exact h
theorem nextV_in (s : Src) {n : Int} (hn : 1 ≤ n) : 0 ≤ nextV s n ∧ nextV s n < n := by
  unfold nextV
  cases emptyS s n with
  | true => simp only [cond_true]; omega
  | false =>
    simp only [cond_false]
    generalize (s.l[s.pos]?).getD 0 = x
    have h1 : (x.tmod n) < n := Int.tmod_lt_of_pos x (by omega)
    have h2 : -n < x.tmod n := by
      have := Int.lt_tmod_of_pos x (show 0 < n by omega)
      omega
    cases hc : decide (x.tmod n < 0) with
    | true => simp only [decide_eq_true_eq] at hc; simp only [cond_true]; omega
    | false => simp only [decide_eq_false_iff_not] at hc; simp only [cond_false]; omega
theorem next_c (s : Src) (hs : s.ok) (n : Int) (hn : 1 ≤ n ∧ n ≤ 1000000) : PCB Try.prog 14 [Sp pin, I .i64 n] [(pin, srcB s)] (I .i64 (nextV s n)) [(pin, srcB (nextS s n))] := by
  refine PCB.ob Try.func14 Try.ntmps14 Try.results14 ?_
  have h1 : decide (n < 1) = false := by simp; omega
  by_cases hp : s.pos < s.l.length
  · have h2 : decide ((s.l.length : Int) ≤ (s.pos : Int)) = false := by simp; omega
    have hx : s.l[s.pos]? = some s.l[s.pos] := by simp [hp]
    have hx' : (s.l.map encInt)[s.pos]? = some (encInt s.l[s.pos]) := by simp [hp]
    have hn0 : ¬ n = 0 := by omega
    have hw : IntKind.i64.wrap ((s.pos : Int) + 1) = ((s.pos + 1 : Nat) : Int) := wrap_succ hp (by have := hs.2; omega)
    have hb1 := Int.tmod_lt_of_pos s.l[s.pos] (show 0 < n by omega)
    have hb2 := Int.lt_tmod_of_pos s.l[s.pos] (show 0 < n by omega)
    have hw2 : IntKind.i64.wrap (s.l[s.pos].tmod n + n) = s.l[s.pos].tmod n + n := by rw [w64 (by omega)]
    have he : emptyS s n = false := by unfold emptyS; rw [h1, h2]; rfl
    repeat' (first | (simp only [go_sem, pin, List.length_map, h1, h2, hw, hw2]; all_goals refine nf ?_) | (refine stp ?_; intro K hK) | (apply hK; clear hK K) | refine stn ?_ | (refine AWP.cnd ?_ ?_ <;> intro h <;> (try simp only [zM, zN] at h)) | (refine ⟨fun h => ?_, fun h => ?_⟩ <;> (try simp only [zM, zN] at h) <;> try simp only [h]) | (with_reducible first | refine ⟨by omega, encInt s.l[s.pos], hx', ?_⟩ | refine ⟨by omega, ?_⟩ | refine ⟨hn0, ?_⟩) | (refine stp' ?_; intro K hK) | refine stq ?_ | (clear hK K))
    all_goals (simp only [decide_eq_true_eq, decide_eq_false_iff_not] at h)
    all_goals (refine ⟨by simp only [nextV, he, cond_false, hx, Option.getD_some, h, decide_true, decide_false, cond_true], fun x hx => by simpa only [nextS, he, cond_false] using hx⟩)
  · have h2 : decide ((s.l.length : Int) ≤ (s.pos : Int)) = true := by simp; omega
    have he : emptyS s n = true := by unfold emptyS; rw [h1, h2]; rfl
    repeat' (first | (simp only [go_sem, pin, List.length_map, h1, h2]; all_goals refine nf ?_) | (refine stp ?_; intro K hK) | (apply hK; clear hK K) | refine stn ?_ | (refine AWP.cnd ?_ ?_ <;> intro h <;> (try simp only [zM, zN] at h)) | (refine ⟨fun h => ?_, fun h => ?_⟩ <;> (try simp only [zM, zN] at h) <;> try simp only [h]) | (refine stp' ?_; intro K hK) | refine stq ?_ | (clear hK K))
    all_goals exact ⟨by simp only [nextV, he, cond_true], fun x hx => by simpa only [nextS, he, cond_true] using hx⟩
theorem next_k (k : Nat) (s : Src) (hs : s.ok) (n : Int) (hn : 1 ≤ n ∧ n ≤ 1000000) : PCBk Try.prog 14 [Sp k, I .i64 n] k (srcB s) (I .i64 (nextV s n)) (srcB (nextS s n)) := PCBk.mk k (next_c s hs n hn)
/-- a place of a literal -/
theorem lit_get {α : Type} (f : α → List C) (l : List α) (d : α) {v : Int} (hv : 0 ≤ v ∧ v < l.length) : (l.map f)[v.toNat]? = some (f (l.getD v.toNat d)) := by
  have h : v.toNat < l.length := by omega
  simp [List.getElem?_map, h]
def wordL : List (List UInt8) := [[], [115], [120, 32, 121], [97]]
def atomL : List (List UInt8) := [[97], [98], [111, 107], [101, 114, 114, 111, 114]]
def numL : List Int := [0, 1, -1, 2, 3, -2, 7, -9223372036854775808, 9223372036854775807, 10]
def wordV (s : Src) : List UInt8 := wordL.getD (nextV s 4).toNat []
def atomV (s : Src) : List UInt8 := atomL.getD (nextV s 4).toNat []
def numV (s : Src) : Int := numL.getD (nextV s 10).toNat 0
theorem word_c (s : Src) (hs : s.ok) : PCB Try.prog 15 [Sp pin] [(pin, srcB s)] (S (wordV s)) [(pin, srcB (nextS s 4))] := by
  refine PCB.ob Try.func15 Try.ntmps15 Try.results15 ?_
  have hv := nextV_in s (n := 4) (by omega)
  repeat' (first | (simp only [go_sem, pin]; all_goals refine nf ?_) | (refine stp ?_; intro K hK) | (apply hK; clear hK K) | refine stn ?_ | (refine AWP.cnd ?_ ?_ <;> intro h <;> (try simp only [zM, zN] at h)) | (refine ⟨fun h => ?_, fun h => ?_⟩ <;> (try simp only [zM, zN] at h) <;> try simp only [h]) | (refine ⟨1000000, _, _, _, next_k 1000000 s hs 4 (by omega), rfl, ?_⟩) | ( refine ⟨hv.1, [.str (wordV s)], lit_get (fun x => [C.str x]) wordL [] hv, ?_⟩) | refine stq ?_ | (clear hK K))
  all_goals exact fun x hx => hx
theorem atomName_c (s : Src) (hs : s.ok) : PCB Try.prog 17 [Sp pin] [(pin, srcB s)] (S (atomV s)) [(pin, srcB (nextS s 4))] := by
  refine PCB.ob Try.func17 Try.ntmps17 Try.results17 ?_
  have hv := nextV_in s (n := 4) (by omega)
  repeat' (first | (simp only [go_sem, pin]; all_goals refine nf ?_) | (refine stp ?_; intro K hK) | (apply hK; clear hK K) | refine stn ?_ | (refine AWP.cnd ?_ ?_ <;> intro h <;> (try simp only [zM, zN] at h)) | (refine ⟨fun h => ?_, fun h => ?_⟩ <;> (try simp only [zM, zN] at h) <;> try simp only [h]) | (refine ⟨1000000, _, _, _, next_k 1000000 s hs 4 (by omega), rfl, ?_⟩) | ( refine ⟨hv.1, [.str (atomV s)], lit_get (fun x => [C.str x]) atomL [] hv, ?_⟩) | refine stq ?_ | (clear hK K))
  all_goals exact fun x hx => hx
theorem number_c (s : Src) (hs : s.ok) : PCB Try.prog 16 [Sp pin] [(pin, srcB s)] (I .i64 (numV s)) [(pin, srcB (nextS s 10))] := by
  refine PCB.ob Try.func16 Try.ntmps16 Try.results16 ?_
  have hv := nextV_in s (n := 10) (by omega)
  repeat' (first | (simp only [go_sem, pin]; all_goals refine nf ?_) | (refine stp ?_; intro K hK) | (apply hK; clear hK K) | refine stn ?_ | (refine AWP.cnd ?_ ?_ <;> intro h <;> (try simp only [zM, zN] at h)) | (refine ⟨fun h => ?_, fun h => ?_⟩ <;> (try simp only [zM, zN] at h) <;> try simp only [h]) | (refine ⟨1000000, _, _, _, next_k 1000000 s hs 10 (by omega), rfl, ?_⟩) | ( refine ⟨hv.1, [.int .i64 (numV s)], lit_get (fun x => [C.int .i64 x]) numL 0 hv, ?_⟩) | refine stq ?_ | (clear hK K))
  all_goals exact fun x hx => hx
theorem word_k (k : Nat) (s : Src) (hs : s.ok) : PCBk Try.prog 15 [Sp k] k (srcB s) (S (wordV s)) (srcB (nextS s 4)) := PCBk.mk k (word_c s hs)
theorem atomName_k (k : Nat) (s : Src) (hs : s.ok) : PCBk Try.prog 17 [Sp k] k (srcB s) (S (atomV s)) (srcB (nextS s 4)) := PCBk.mk k (atomName_c s hs)
theorem number_k (k : Nat) (s : Src) (hs : s.ok) : PCBk Try.prog 16 [Sp k] k (srcB s) (I .i64 (numV s)) (srcB (nextS s 10)) := PCBk.mk k (number_c s hs)
def keyV (s : Src) : KeyD × Src := bif decide (nextV s 2 = 0) then (⟨0, atomV (nextS s 2)⟩, nextS (nextS s 2) 4) else (⟨1, wordV (nextS s 2)⟩, nextS (nextS s 2) 4)
theorem key_c (s : Src) (hs : s.ok) : PCB Try.prog 5 [Sp pin] [(pin, srcB s)] (.st (encKey (keyV s).1)) [(pin, srcB (keyV s).2)] := by
  refine PCB.ob Try.func5 Try.ntmps5 Try.results5 ?_
  have hs2 := ok_next hs 2
  repeat' (first | (simp only [go_sem, pin]; all_goals refine nf ?_) | (refine stp ?_; intro K hK) | (apply hK; clear hK K) | refine stn ?_ | (refine AWP.cnd ?_ ?_ <;> intro h <;> (try simp only [zM, zN] at h)) | (refine ⟨fun h => ?_, fun h => ?_⟩ <;> (try simp only [zM, zN] at h) <;> try simp only [h]) | (refine ⟨1000000, _, _, _, next_k 1000000 s hs 2 (by omega), rfl, ?_⟩) | (refine ⟨1000000, _, _, _, atomName_k 1000000 _ hs2, rfl, ?_⟩) | (refine ⟨1000000, _, _, _, word_k 1000000 _ hs2, rfl, ?_⟩) | refine stq ?_ | (clear hK K))
  all_goals (simp only [keyV, h, cond_true, cond_false]; exact ⟨rfl, fun x hx => by simp only [List.mem_singleton] at hx; subst hx; simp⟩)
theorem key_k (k : Nat) (s : Src) (hs : s.ok) : PCBk Try.prog 5 [Sp k] k (srcB s) (.st (encKey (keyV s).1)) (srcB (keyV s).2) := PCBk.mk k (key_c s hs)
theorem ok_key {s : Src} (h : s.ok) : (keyV s).2.ok := by unfold keyV; cases decide (nextV s 2 = 0) <;> exact ok_next (ok_next h 2) 4
def lowB (b : UInt8) : Bool := decide ((97 : Int) ≤ (b.toNat : Int)) && decide ((b.toNat : Int) ≤ 122)
def digB (b : UInt8) : Bool := decide ((48 : Int) ≤ (b.toNat : Int)) && decide ((b.toNat : Int) ≤ 57)
theorem lower_c (b : UInt8) : PC Try.prog 60 [I .u8 b.toNat] (Bo (lowB b)) := by
  refine PCB.ob Try.func60 Try.ntmps60 Try.results60 ?_
  repeat' (first | (simp only [go_sem]; all_goals refine nf ?_) | (refine stp ?_; intro K hK) | (apply hK; clear hK K) | refine stn ?_ | (refine AWP.cnd ?_ ?_ <;> intro h <;> (try simp only [zM, zN] at h)) | (refine ⟨fun h => ?_, fun h => ?_⟩ <;> (try simp only [zM, zN] at h) <;> try simp only [h]) | refine stq ?_ | (clear hK K))
  all_goals (refine fin0 ?_; simp only [lowB, h, Bool.true_and, Bool.false_and])
theorem digit_c (b : UInt8) : PC Try.prog 61 [I .u8 b.toNat] (Bo (digB b)) := by
  refine PCB.ob Try.func61 Try.ntmps61 Try.results61 ?_
  repeat' (first | (simp only [go_sem]; all_goals refine nf ?_) | (refine stp ?_; intro K hK) | (apply hK; clear hK K) | refine stn ?_ | (refine AWP.cnd ?_ ?_ <;> intro h <;> (try simp only [zM, zN] at h)) | (refine ⟨fun h => ?_, fun h => ?_⟩ <;> (try simp only [zM, zN] at h) <;> try simp only [h]) | refine stq ?_ | (clear hK K))
  all_goals (refine fin0 ?_; simp only [digB, h, Bool.true_and, Bool.false_and])
def tailB (b : UInt8) : Bool := lowB b || (digB b || decide ((b.toNat : Int) = 95))
def isAtomB (s : List UInt8) : Bool := !(decide ((s.length : Int) < 1) || (decide ((16 : Int) < (s.length : Int)) || !lowB (s.headD 0))) && (s.drop 1).all tailB
theorem isAtom_c (s : List UInt8) : PC Try.prog 40 [S s] (Bo (isAtomB s)) := by
  refine PCB.ob Try.func40 Try.ntmps40 Try.results40 ?_
  cases hl1 : decide ((s.length : Int) < 1) with
  | true =>
    repeat' (first | (simp only [go_sem, hl1]; all_goals refine nf ?_) | (refine stp ?_; intro K hK) | (apply hK; clear hK K) | refine stn ?_ | (refine AWP.cnd ?_ ?_ <;> intro h <;> (try simp only [zM, zN] at h)) | (refine ⟨fun h => ?_, fun h => ?_⟩ <;> (try simp only [zM, zN] at h) <;> try simp only [h]) | refine stq ?_ | (clear hK K))
    all_goals (first | exact fun _ h => absurd h List.not_mem_nil | refine fin0 ?_)
    all_goals simp only [isAtomB, hl1, Bool.true_or, Bool.not_true, Bool.false_and]
  | false =>
    have hpos : 0 < s.length := by simp only [decide_eq_false_iff_not] at hl1; omega
    obtain ⟨b, hb0⟩ : ∃ b, s[0]? = some b := ⟨s[0], by simp [hpos]⟩
    have hhd : s.headD 0 = b := by cases s <;> simp at hb0 hpos ⊢; exact hb0
    cases hlong : decide ((16 : Int) < (s.length : Int)) with
    | true =>
      repeat' (first | (simp only [go_sem, hl1, hlong]; all_goals refine nf ?_) | (refine stp ?_; intro K hK) | (apply hK; clear hK K) | refine stn ?_ | (refine AWP.cnd ?_ ?_ <;> intro h <;> (try simp only [zM, zN] at h)) | (refine ⟨fun h => ?_, fun h => ?_⟩ <;> (try simp only [zM, zN] at h) <;> try simp only [h]) | refine stq ?_ | (clear hK K))
      all_goals (first | exact fun _ h => absurd h List.not_mem_nil | refine fin0 ?_)
      all_goals simp only [isAtomB, hlong, Bool.true_or, Bool.or_true, Bool.not_true, Bool.false_and]
    | false =>
      have hlen : s.length ≤ 9223372036854775807 := by simp only [decide_eq_false_iff_not] at hlong; omega
      cases hlow : lowB b with
      | false =>
        repeat' (first | (simp only [go_sem, hl1, hlong, hlow]; all_goals refine nf ?_) | (refine stp ?_; intro K hK) | (apply hK; clear hK K) | refine stn ?_ | (refine AWP.cnd ?_ ?_ <;> intro h <;> (try simp only [zM, zN] at h)) | (refine ⟨fun h => ?_, fun h => ?_⟩ <;> (try simp only [zM, zN] at h) <;> try simp only [h]) | (with_reducible first | refine ⟨_, lower_c b, ?_⟩ | refine ⟨by omega, b, hb0, ?_⟩ | refine ⟨b, hb0, ?_⟩) | refine stq ?_ | (clear hK K))
        all_goals (first | exact fun _ h => absurd h List.not_mem_nil | refine fin0 ?_)
        all_goals simp only [isAtomB, hl1, hlong, hhd, hlow, Bool.false_or, Bool.not_false, Bool.not_true, Bool.false_and]
      | true =>
        have hmod : isAtomB s = (s.drop 1).all tailB := by simp only [isAtomB, hl1, hlong, hhd, hlow, Bool.not_true, Bool.false_or, Bool.not_false, Bool.true_and]
        repeat' (first | (simp only [go_sem, hl1, hlong, hlow]; all_goals refine nf ?_) | (refine stp ?_; intro K hK) | (apply hK; clear hK K) | refine stn ?_ | (refine AWP.cnd ?_ ?_ <;> intro h <;> (try simp only [zM, zN] at h)) | (refine ⟨fun h => ?_, fun h => ?_⟩ <;> (try simp only [zM, zN] at h) <;> try simp only [h]) | (with_reducible first | refine ⟨_, lower_c b, ?_⟩ | refine ⟨by omega, b, hb0, ?_⟩ | refine ⟨b, hb0, ?_⟩) | refine stq ?_ | (clear hK K))
        refine AWP.loopS (X := Nat) (fun k => [(3, I .i64 k), (0, S s)]) (fun _ => []) (fun k => 1 ≤ k ∧ k ≤ s.length ∧ (s.drop 1).all tailB = (s.drop k).all tailB) (fun k => s.length - k) 1 (Gh.tt []) ⟨Nat.le_refl _, by omega, rfl⟩ ?_
        rintro k ⟨hk1, hk, hp⟩
        by_cases hlt : k < s.length
        · have hdrop := List.drop_eq_getElem_cons hlt
          have hd : s[k]? = some s[k] := List.getElem?_eq_getElem hlt
          have hbt : decide ((k : Int) < (s.length : Int)) = true := by simpa using hlt
          generalize s[k] = d at hd hdrop
          rw [hdrop, List.all_cons] at hp
          cases ht1 : lowB d <;> cases ht2 : digB d <;> cases ht3 : decide ((d.toNat : Int) = 95)
          all_goals simp only [tailB, ht1, ht2, ht3, Bool.or_true, Bool.or_false, Bool.true_or, Bool.true_and, Bool.false_and] at hp
          repeat' (first | (simp only [go_sem, hbt, ht1, ht2, ht3]; all_goals refine nf ?_) | (refine stp ?_; intro K hK) | (apply hK; clear hK K) | refine stn ?_ | (refine AWP.cnd ?_ ?_ <;> intro h <;> (try simp only [zM, zN] at h)) | (refine ⟨fun h => ?_, fun h => ?_⟩ <;> (try simp only [zM, zN] at h) <;> try simp only [h]) | (with_reducible first | refine ⟨_, lower_c d, ?_⟩ | refine ⟨_, digit_c d, ?_⟩ | refine ⟨by omega, d, hd, ?_⟩ | refine ⟨d, hd, ?_⟩) | refine stq ?_ | (clear hK K))
          all_goals first
            | (refine fin0 ?_; rw [hmod, hp])
            | (rw [wrap_succ hlt hlen]; refine ⟨k + 1, by omega, ⟨by omega, by omega, hp⟩, Gh.tt []⟩)
        · have hbt : decide ((k : Int) < (s.length : Int)) = false := by simpa using hlt
          rw [show s.drop k = [] from List.drop_eq_nil_of_le (by omega)] at hp
          repeat' (first | (simp only [go_sem, hbt]; all_goals refine nf ?_) | (refine stp ?_; intro K hK) | (apply hK; clear hK K) | refine stn ?_ | (refine AWP.cnd ?_ ?_ <;> intro h <;> (try simp only [zM, zN] at h)) | (refine ⟨fun h => ?_, fun h => ?_⟩ <;> (try simp only [zM, zN] at h) <;> try simp only [h]) | refine stq ?_ | (clear hK K))
          all_goals (refine fin0 ?_; rw [hmod, hp]; rfl)
def validKeyB (k : KeyD) : Bool := (decide (k.kind = 0) && isAtomB k.text) || (decide (k.kind = 1) && decide ((k.text.length : Int) ≤ 64))
theorem validKey_c (k : KeyD) : PC Try.prog 25 [.st (encKey k)] (Bo (validKeyB k)) := by
  refine PCB.ob Try.func25 Try.ntmps25 Try.results25 ?_
  repeat' (first | (simp only [go_sem]; all_goals refine nf ?_) | (refine stp ?_; intro K hK) | (apply hK; clear hK K) | refine stn ?_ | (refine AWP.cnd ?_ ?_ <;> intro h <;> (try simp only [zM, zN] at h)) | (refine ⟨fun h => ?_, fun h => ?_⟩ <;> (try simp only [zM, zN] at h) <;> try simp only [h]) | (with_reducible refine ⟨_, isAtom_c _, ?_⟩) | refine stq ?_ | (clear hK K))
  all_goals (refine fin0 ?_; simp only [validKeyB, *, Bool.true_and, Bool.false_and, Bool.true_or, Bool.false_or, Bool.or_false])
theorem order_c (a b : Int) : PC Try.prog 41 [I .i64 a, I .i64 b] (I .i64 (bif decide (a < b) then -1 else bif decide (b < a) then 1 else 0)) := by
  refine PCB.ob Try.func41 Try.ntmps41 Try.results41 ?_
  repeat' (first | (simp only [go_sem]; all_goals refine nf ?_) | (refine stp ?_; intro K hK) | (apply hK; clear hK K) | refine stn ?_ | (refine AWP.cnd ?_ ?_ <;> intro h <;> (try simp only [zM, zN] at h)) | (refine ⟨fun h => ?_, fun h => ?_⟩ <;> (try simp only [zM, zN] at h) <;> try simp only [h]) | refine stq ?_ | (clear hK K))
  all_goals (refine fin0 ?_; simp only [*, cond_true, cond_false])
def textCmp (a b : List UInt8) : Int := bif Op.bytesLess a b then -1 else bif Op.bytesLess a b || decide (a = b) then 0 else 1
theorem text_c (a b : List UInt8) : PC Try.prog 42 [S a, S b] (I .i64 (textCmp a b)) := by
  refine PCB.ob Try.func42 Try.ntmps42 Try.results42 ?_
  repeat' (first | (simp only [go_sem]; all_goals refine nf ?_) | (refine stp ?_; intro K hK) | (apply hK; clear hK K) | refine stn ?_ | (refine AWP.cnd ?_ ?_ <;> intro h <;> (try simp only [zM, zN] at h)) | (refine ⟨fun h => ?_, fun h => ?_⟩ <;> (try simp only [zM, zN] at h) <;> try simp only [h]) | refine stq ?_ | (clear hK K))
  all_goals first
    | (refine fin0 ?_; simp only [textCmp, h, cond_true]; done)
    | (rename_i h1; rw [h1, Bool.false_or] at h; refine fin0 ?_; simp only [textCmp, h1, h, Bool.false_or, cond_true, cond_false])
def keyCmp (a b : KeyD) : Int := bif !decide (a.kind = b.kind) then (bif decide (a.kind < b.kind) then -1 else bif decide (b.kind < a.kind) then 1 else 0) else textCmp a.text b.text
theorem compareKeys_c (a b : KeyD) : PC Try.prog 26 [.st (encKey a), .st (encKey b)] (I .i64 (keyCmp a b)) := by
  refine PCB.ob Try.func26 Try.ntmps26 Try.results26 ?_
  repeat' (first | (simp only [go_sem]; all_goals refine nf ?_) | (refine stp ?_; intro K hK) | (apply hK; clear hK K) | refine stn ?_ | (refine AWP.cnd ?_ ?_ <;> intro h <;> (try simp only [zM, zN] at h)) | (refine ⟨fun h => ?_, fun h => ?_⟩ <;> (try simp only [zM, zN] at h) <;> try simp only [h]) | (with_reducible first | refine ⟨_, order_c _ _, ?_⟩ | refine ⟨_, text_c _ _, ?_⟩) | refine stq ?_ | (clear hK K))
  all_goals (refine fin0 ?_; simp only [keyCmp, h, Bool.not_true, Bool.not_false, cond_true, cond_false])
end Go.Proofs.Ythpndlinlhapgaa
