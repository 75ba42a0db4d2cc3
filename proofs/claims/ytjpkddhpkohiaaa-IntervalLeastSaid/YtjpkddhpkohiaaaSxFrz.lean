/- A part of the proof: lemmas about the walk of the program and about plain integers and lists. No conditions beyond those that each lemma states. -/
import Derived.Test.YtjpkddhpkohiaaaSxApp
/-! A row of the call's own is frozen: from then on it is data. -/
set_option linter.unusedVariables false
set_option linter.unusedSimpArgs false
namespace Go.Sx
variable {P : Program}

mutual
/-- the row k, that has len elements, is spoken of at its full length -/
def Cell.frOk (k len : Nat) : Cell → Prop
  | .own j m => (j == k) = true → m = len
  | .clo _ caps => Cell.frOks k len caps
  | _ => True
def Cell.frOks (k len : Nat) : List Cell → Prop
  | [] => True
  | c :: cs => Cell.frOk k len c ∧ Cell.frOks k len cs
end
mutual
def Cell.fr (k sz : Nat) (rows : List (List C)) : Cell → Cell
  | .own j m => bif j == k then .dat (.sl sz rows) else .own j m
  | .clo f caps => .clo f (Cell.frs k sz rows caps)
  | .dat c => .dat c
  | .ptr j o => .ptr j o
  | .rp j s i f => .rp j s i f
  | .ref r => .ref r
def Cell.frs (k sz : Nat) (rows : List (List C)) : List Cell → List Cell
  | [] => []
  | c :: cs => Cell.fr k sz rows c :: Cell.frs k sz rows cs
end
mutual
def T.frOk (k len : Nat) : T → Prop
  | .one c => c.frOk k len
  | .agg cs => Cell.frOks k len cs
  | .tup ts => T.frOks k len ts
  | _ => True
def T.frOks (k len : Nat) : List T → Prop
  | [] => True
  | t :: ts => T.frOk k len t ∧ T.frOks k len ts
end
mutual
def T.fr (k sz : Nat) (rows : List (List C)) : T → T
  | .one c => .one (c.fr k sz rows)
  | .agg cs => mkAgg (Cell.frs k sz rows cs)
  | .tup ts => .tup (T.frs k sz rows ts)
  | .st r => .st r
  | .un => .un
def T.frs (k sz : Nat) (rows : List (List C)) : List T → List T
  | [] => []
  | t :: ts => T.fr k sz rows t :: T.frs k sz rows ts
end

/-- what is known of a frozen row -/
def FrRow (M M' : Mem) (ν : Nu) (k sz : Nat) (rows : List (List C)) : Prop :=
  M.le M' ∧ (C.sl sz rows).rep M' (.slice ((ν k).blk.map fun b => ⟨b, 0, none⟩) rows.length (ν k).cap)

mutual
theorem Cell.rep_fr {M M' : Mem} {ν : Nu} {k sz : Nat} {rows : List (List C)} (hF : FrRow M M' ν k sz rows) : ∀ (c : Cell) (v : Value), c.frOk k rows.length → c.rep M ν v → (c.fr k sz rows).rep M' ν v
  | .own j m, v, hok, h => by
    simp only [Cell.frOk] at hok
    simp only [Cell.fr]
    cases hj : (j == k) with
    | false => simp only [cond_false]; simpa only [Cell.rep] using h
    | true =>
      have hjk : j = k := by simpa using hj
      have hm := hok hj
      subst hm; subst hjk
      simp only [Cell.rep] at h
      simp only [cond_true, Cell.rep]
      rw [h]; exact hF.2
  | .clo f caps, v, hok, h => by
    simp only [Cell.frOk] at hok
    simp only [Cell.rep] at h
    simp only [Cell.fr, Cell.rep]
    obtain ⟨vs, e, h⟩ := h
    exact ⟨vs, e, Cell.reps_fr hF caps vs hok h⟩
  | .dat c, v, _, h => by simp only [Cell.fr]; exact Cell.rep_mono hF.1 _ _ h
  | .ptr j o, v, _, h => by simp only [Cell.fr]; exact Cell.rep_mono hF.1 _ _ h
  | .rp j s i f, v, _, h => by simp only [Cell.fr]; exact Cell.rep_mono hF.1 _ _ h
  | .ref r, v, _, h => by simp only [Cell.fr]; exact Cell.rep_mono hF.1 _ _ h
theorem Cell.reps_fr {M M' : Mem} {ν : Nu} {k sz : Nat} {rows : List (List C)} (hF : FrRow M M' ν k sz rows) : ∀ (cs : List Cell) (vs : List Value), Cell.frOks k rows.length cs → Cell.reps M ν cs vs → Cell.reps M' ν (Cell.frs k sz rows cs) vs
  | [], vs, _, h => by simpa only [Cell.frs, Cell.reps] using h
  | c :: cs, vs, hok, h => by
    simp only [Cell.frOks] at hok
    simp only [Cell.reps] at h
    simp only [Cell.frs, Cell.reps]
    obtain ⟨v, vs', e, h1, h2⟩ := h
    exact ⟨v, vs', e, Cell.rep_fr hF c v hok.1 h1, Cell.reps_fr hF cs vs' hok.2 h2⟩
end
mutual
theorem T.rep_fr {M M' : Mem} {ν : Nu} {k sz : Nat} {rows : List (List C)} (hF : FrRow M M' ν k sz rows) : ∀ (t : T) (v : Value), t.frOk k rows.length → t.rep M ν v → (t.fr k sz rows).rep M' ν v
  | .one c, v, hok, h => by simp only [T.frOk] at hok; simp only [T.fr, T.rep] at h ⊢; exact Cell.rep_fr hF c v hok h
  | .agg cs, v, hok, h => by
    simp only [T.frOk] at hok
    simp only [T.rep] at h
    obtain ⟨a, e, h⟩ := h
    subst e
    simp only [T.fr]
    exact mkAgg_rep (Cell.reps_fr hF cs _ hok h)
  | .tup ts, v, hok, h => by
    simp only [T.frOk] at hok
    simp only [T.rep] at h
    obtain ⟨a, e, h⟩ := h
    simp only [T.fr, T.rep]
    exact ⟨a, e, T.reps_fr hF ts a hok h⟩
  | .st r, v, _, h => by simp only [T.fr]; exact T.rep_mono hF.1 _ _ h
  | .un, v, _, h => by simp only [T.fr]; exact T.rep_mono hF.1 _ _ h
theorem T.reps_fr {M M' : Mem} {ν : Nu} {k sz : Nat} {rows : List (List C)} (hF : FrRow M M' ν k sz rows) : ∀ (ts : List T) (vs : List Value), T.frOks k rows.length ts → T.reps M ν ts vs → T.reps M' ν (T.frs k sz rows ts) vs
  | [], vs, _, h => by simpa only [T.frs, T.reps] using h
  | t :: ts, vs, hok, h => by
    simp only [T.frOks] at hok
    simp only [T.reps] at h
    simp only [T.frs, T.reps]
    obtain ⟨v, vs', e, h1, h2⟩ := h
    exact ⟨v, vs', e, T.rep_fr hF t v hok.1 h1, T.reps_fr hF ts vs' hok.2 h2⟩
end

def Mem.put (M : Mem) (b : Nat) (o : Obj) : Mem := fun i => if i = b then some o else M i

theorem Sat.freeze {κ : Kap} {M : Mem} {ν : Nu} {B : Bx} {w : World} {k sz : Nat} {rows : List (List C)} (h : Sat κ M ν B w) (hk : (k, .row sz rows) ∈ B) (hlow : k < pin) :
    ∃ M', M.ext κ M' ∧ Sat κ M' ν (Bx.drop k B) w ∧ FrRow M M' ν k sz rows := by
  have hr := h.res k _ hk
  simp only [Res.ok] at hr
  obtain ⟨hc1, hc2, hr⟩ := hr
  have hd := h.drop (B' := Bx.drop k B) (fun x hx => (Bx.mem_drop h.nodup hx).1) (Bx.drop_nodup k h.nodup)
  rcases hr with ⟨hn, hc0⟩ | ⟨b, c, et, mid, post, hb, hheap, htl, hrows, hsz⟩
  · have hr0 : rows = [] := List.length_eq_zero_iff.1 (by omega)
    subst hr0
    refine ⟨M, Mem.ext.refl κ M, hd, Mem.le.refl M, ?_⟩
    simp only [C.rep]
    exact ⟨_, (ν k).cap, [], rfl, by simp, hc2, by simp only [repRows], .inl trivial⟩
  · obtain ⟨ha1, ha2⟩ := h.away k _ b hk hb
    have hb2 : κ.w.heap.size ≤ b := ha2.elim id fun h2 => absurd h2.1 (by omega)
    have hle : M.le (M.put b (.cells c et (0, 0))) := by
      intro i x e
      unfold Mem.put
      split
      · rename_i hi; subst hi; rw [ha1] at e; cases e
      · exact e
    refine ⟨M.put b (.cells c et (0, 0)), ⟨hle, fun i x e => ?_⟩, ?_, hle, ?_⟩
    · unfold Mem.put at e
      split at e
      · rename_i hi; subst hi; exact .inr hb2
      · exact .inl e
    · refine ⟨hd.os, hd.tape, hd.output, hd.dr, hd.size, hd.unch, ?_, fun j r hm => Res.ok_mono hle (fun b x e _ => e) (hd.res j r hm), ?_, hd.inj, hd.nodup⟩
      · intro i x e
        unfold Mem.put at e
        split at e
        · rename_i hi; subst hi; cases e; exact hheap
        · exact h.fro _ _ e
      · intro j r b' hm hb'
        obtain ⟨hm', hne⟩ := Bx.mem_drop h.nodup hm
        obtain ⟨h1, h2⟩ := h.away j r b' hm' hb'
        refine ⟨?_, h2⟩
        unfold Mem.put
        rw [if_neg]
        · exact h1
        · intro e; subst e
          exact hne (h.inj j r k _ b' hm' hk hb' hb)
    · simp only [C.rep]
      refine ⟨_, (ν k).cap, mid, rfl, hc1, hc2, repRows_mono hle sz rows mid hrows, .inr ⟨b, 0, by rw [hb]; rfl, ?_⟩⟩
      refine ⟨c, et, (0, 0), [], post, ?_, by simpa using htl, rfl⟩
      simp [Mem.put]

/-! ### calls that are handed rows of the call's own: they are frozen -/
def ownCell : List Cell → Option Nat
  | [] => none
  | .own k _ :: _ => some k
  | _ :: cs => ownCell cs
def ownIn : List T → Option Nat
  | [] => none
  | .one (.own k _) :: _ => some k
  | .agg cs :: ts => match ownCell cs with
    | some k => some k
    | none => ownIn ts
  | _ :: ts => ownIn ts
def vCallZ0 (P : Program) (g : FuncId) (us : List T) (B : Bx) (K : T → Bx → Prop) : Prop := ∃ r, PC P g us r ∧ K r B
def vFr (us : List T) (B : Bx) (N : List T → Bx → Prop) : Prop :=
  match ownIn us with
  | none => N us B
  | some k => match B.lookup k with
    | some (.row sz rows) => lowN k = true ∧ T.frOks k rows.length us ∧ N (T.frs k sz rows us) (Bx.drop k B)
    | _ => False
/-- up to three rows -/
def vCallZ (P : Program) (g : FuncId) (us : List T) (B : Bx) (K : T → Bx → Prop) : Prop :=
  vFr us B fun us B => vFr us B fun us B => vFr us B fun us B => vCallZ0 P g us B K

theorem vFr_sound {us : List T} {B : Bx} {N : List T → Bx → Prop} (h : vFr us B N) :
    ∃ us' B', N us' B' ∧ ∀ κ M ν w vs, Sat κ M ν B w → T.reps M ν us vs → ∃ M', M.ext κ M' ∧ Sat κ M' ν B' w ∧ T.reps M' ν us' vs := by
  unfold vFr at h
  split at h
  · exact ⟨us, B, h, fun κ M ν w vs hs hr => ⟨M, Mem.ext.refl κ M, hs, hr⟩⟩
  · rename_i k hk
    split at h
    · rename_i sz rows hb
      obtain ⟨hlow, hok, hN⟩ := h
      refine ⟨_, _, hN, fun κ M ν w vs hs hr => ?_⟩
      obtain ⟨M', h1, h2, h3⟩ := hs.freeze (lookup_box hb) (lowN_spec hlow)
      exact ⟨M', h1, h2, T.reps_fr h3 us vs hok hr⟩
    · exact h.elim

theorem vCallZ_sound {ty : TypeId} {f : Operand} {args : List Operand} {ts : Array TypeId} {env : Env} {B : Bx} {o : Oper} {K : T → Bx → Prop} {g : FuncId} {caps us : List T} (ho : o.op = .call { callee := .value f, args := args.toArray, argTypes := ts })
    (hf : calleeT (ev P env ty f) = some (g, caps)) (hu : evs P env args ts.toList = some us) (h : vCallZ P g (us ++ caps) B K) : ∃ u B', OpE P o env B u B' ∧ K u B' := by
  obtain ⟨us1, B1, h, h1⟩ := vFr_sound h
  obtain ⟨us2, B2, h, h2⟩ := vFr_sound h
  obtain ⟨us3, B3, h, h3⟩ := vFr_sound h
  obtain ⟨r, hpc, hK⟩ := h
  refine ⟨r, B3, ?_, hK⟩
  intro κ M ν a w he hs
  obtain ⟨vs, hrun, hreps⟩ := exec_call ho he hf hu hpc.1 w
  obtain ⟨M1, e1, s1, r1⟩ := h1 κ M ν w vs hs hreps
  obtain ⟨M2, e2, s2, r2⟩ := h2 κ M1 ν w vs s1 r1
  obtain ⟨M3, e3, s3, r3⟩ := h3 κ M2 ν w vs s2 r2
  unfold Oper.wp
  rw [hrun]
  simp only [Oper.upon]
  refine Calls.mono (hpc.2 M3 ν w vs (s3.nil _ _) r3) ?_
  rintro e w' ⟨v, M', rfl, hext, hr, hs'⟩
  obtain ⟨k1, k2⟩ := s3.call (B1 := []) (B1' := []) (B' := B3) (fun x hx => by cases hx) hs' rfl (fun b h => h) (fun _ _ h => by cases h) hext (fun x hx => .inr ⟨hx, by simp⟩) (fun x hx => List.mem_map.2 ⟨x, hx, rfl⟩) s3.nodup
  exact ⟨v, M', rfl, ((e1.trans e2).trans e3).trans k2, hr, k1⟩
end Go.Sx
