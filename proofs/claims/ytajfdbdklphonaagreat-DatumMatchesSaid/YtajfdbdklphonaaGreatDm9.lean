/- Lemmas; conditions: as each states. -/
import Derived.Test.YtajfdbdklphonaaGreatDm9b
open Go.Proofs.Tryz renaming prog → zP
open List renaming length_map → lB, map_cons → lE, mem_of_getElem? → lP
open Go.Sx.AWP renaming range → xC, gh → xD, len → xF
open Nat renaming reduceBEq → zA, reduceBNe → zB, reduceAdd → zC, reduceSub → zD, reduceMul → zE, reduceLeDiff → zF, reduceLT → zG, reduceEqDiff → zH
open Int renaming reduceToNat → zI, reduceLE → zJ, reduceLT → zK, reduceEq → zL
set_option linter.unusedVariables false
set_option linter.unusedSimpArgs false
set_option maxRecDepth 20000
set_option maxHeartbeats 4000000
namespace Go.Proofs.YtajfdbdklphonaaGreat
open Go Go.Sx
def mapB (v : Val) : Bool := decide ((v.keys.length : Int) = (v.kids.length : Int)) && (ascB keyC v.keys && v.keys.all validKeyB)
theorem validMap_c (v : Val) : PC zP 147 [.st (encVal v)] (Bo (mapB v)) := by
 have h1 := ascKey_c 136 keyC v.keys (fun x _ y _ => identCompareKeys_c x y)
 refine PCB.ob Tryz.func147 Tryz.ntmps147 Tryz.results147 ?_
 unfold mapB
 cases hl : decide ((v.keys.length : Int) = (v.kids.length : Int))
 ·
  repeat' (first | (simp only [go_sem, zA, zB, zC, zD, zE, zF, zG, reduceCtorEq, zH, zI, zJ, zK, zL, encVal_eq, hl, lB] <;> refine nf ?_) | (refine stp ?_; intro K hK) | (apply hK; clear hK K) | refine stn ?_ | (clear hK K))
  all_goals exact lf
 cases ha : ascB keyC v.keys
 ·
  repeat' (first | (simp only [go_sem, zA, zB, zC, zD, zE, zF, zG, reduceCtorEq, zH, zI, zJ, zK, zL, encVal_eq, hl, ha, lB] <;> refine nf ?_) | (refine stp ?_; intro K hK) | (apply hK; clear hK K) | refine stn ?_ | (with_reducible refine ⟨_, h1, ?_⟩) | refine stq ?_ | (clear hK K))
  all_goals exact lf
 ·
  repeat' (first | (simp only [go_sem, zA, zB, zC, zD, zE, zF, zG, reduceCtorEq, zH, zI, zJ, zK, zL, encVal_eq, hl, ha, lB] <;> refine nf ?_) | (refine stp ?_; intro K hK) | (apply hK; clear hK K) | refine stn ?_ | (with_reducible refine ⟨_, h1, ?_⟩) | refine stq ?_ | fail)
  refine xF 19 rfl fun hlen0 => ?_
  (try rw [lB] at hlen0)
  refine xC (S := Unit) (v.keys) encKey (fun k s => (21, I .i64 (k : Nat)) :: []) (fun k s => []) [19, 20] [] (fun k s => v.keys.all validKeyB = (v.keys.drop k).all validKeyB) (()) (by refine sts ?_; exact Gh.tt []) ?_ ?_ ?_
  ·rfl
  ·intro k s x hlt hx hx' hb hok
   refine sts ?_
   rw [all_step hx] at hok
   cases hz : validKeyB x <;> simp only [hz, Bool.true_and, Bool.false_and] at hok
   ·
    repeat' (first | (simp only [go_sem, zA, zB, zC, zD, zE, zF, zG, reduceCtorEq, zH, zI, zJ, zK, zL, lB, hb, hz] <;> refine nf ?_) | (refine stp ?_; intro K hK) | (apply hK; clear hK K) | refine stn ?_ | (with_reducible first | refine ⟨_, identValidKey_c x, ?_⟩ | refine ⟨by omega, encKey x, hx', ?_⟩) | refine stq ?_ | (clear hK K))
    all_goals (first | exact lf | (refine fin0 ?_; simp only [hok, ha, zb, cond_true, cond_false, decide_true, decide_false] <;> rfl))
   ·
    repeat' (first | (simp only [go_sem, zA, zB, zC, zD, zE, zF, zG, reduceCtorEq, zH, zI, zJ, zK, zL, lB, hb, hz] <;> refine nf ?_) | (refine stp ?_; intro K hK) | (apply hK; clear hK K) | refine stn ?_ | (with_reducible first | refine ⟨_, identValidKey_c x, ?_⟩ | refine ⟨by omega, encKey x, hx', ?_⟩) | refine stq ?_ | (clear hK K))
    all_goals (rw [wrap_succ hlt hlen0])
    all_goals (refine ⟨(), ?_, Gh.tt []⟩)
    all_goals exact hok
  ·intro s hb hok
   refine sts ?_
   rw [all_end] at hok
   repeat' (first | (simp only [go_sem, zA, zB, zC, zD, zE, zF, zG, reduceCtorEq, zH, zI, zJ, zK, zL, lB, hb] <;> refine nf ?_) | (refine stp ?_; intro K hK) | (apply hK; clear hK K) | refine stn ?_ | (clear hK K))
   all_goals (first | exact lf | (refine fin0 ?_; simp only [hok, ha, zb, cond_true, cond_false, decide_true, decide_false] <;> rfl))
def zeroVal : Val := ⟨0, 0, [], [], [], [], []⟩
theorem zeroVal_lit : encVal zeroVal = [.int .i64 0, .int .i64 0, .str [], .sl 7 [], .sl 2 [], .sl 9 [], .sl 1 []] := by rw [encVal_eq]; rfl
def isZeroB (v : Val) : Bool := decide (valC v zeroVal = 0)
theorem isZero_c (v : Val) : PC zP 182 [.st (encVal v)] (Bo (isZeroB v)) := by
 have h1 := equal_c v zeroVal
 rw [zeroVal_lit] at h1
 refine PCB.ob Tryz.func182 Tryz.ntmps182 Tryz.results182 ?_
 repeat' (first | (simp only [go_sem, zA, zB, zC, zD, zE, zF, zG, reduceCtorEq, zH, zI, zJ, zK, zL] <;> refine nf ?_) | (refine stp ?_; intro K hK) | (apply hK; clear hK K) | refine stn ?_ | (with_reducible refine ⟨_, h1, ?_⟩) | refine stq ?_ | fail)
 all_goals (first | exact nn | refine fin0 ?_)
 all_goals rfl
def entB (e : List Val × Bool × Val) (n : Int) : Bool := decide ((e.1.length : Int) = n) && (!e.2.1 || isZeroB e.2.2)
theorem validEntry_c (e : List Val × Bool × Val) (n : Int) : PC zP 175 [.st (encEnt e), I .i64 n] (Bo (entB e n)) := by
 have h1 := isZero_c e.2.2
 rw [encVal_eq] at h1
 refine PCB.ob Tryz.func175 Tryz.ntmps175 Tryz.results175 ?_
 unfold entB
 cases hl : decide ((e.1.length : Int) = n) <;> cases hf : e.2.1
 all_goals
  repeat' (first | (simp only [go_sem, zA, zB, zC, zD, zE, zF, zG, reduceCtorEq, zH, zI, zJ, zK, zL, encEnt_eq, hl, hf, lB] <;> refine nf ?_) | (refine stp ?_; intro K hK) | (apply hK; clear hK K) | refine stn ?_ | (with_reducible refine ⟨_, h1, ?_⟩) | refine stq ?_ | fail)
 all_goals exact lf
def funB (v : Val) : Bool := !(decide (v.num < 0) || (decide (4 < v.num) || !ascB entC v.ents)) && v.ents.all fun e => entB e v.num
theorem validFunction_c (v : Val) : PC zP 148 [.st (encVal v)] (Bo (funB v)) := by
 have h1 := ascEnt_c 139 entC v.ents (fun x _ y _ => compareEntries_c x y (fun a _ b => compare_c a b) (fun b => compare_c _ b))
 refine PCB.ob Tryz.func148 Tryz.ntmps148 Tryz.results148 ?_
 unfold funB
 cases hn : decide (v.num < 0)
 ·cases hm : decide (4 < v.num)
  ·cases ha : ascB entC v.ents
   ·
    repeat' (first | (simp only [go_sem, zA, zB, zC, zD, zE, zF, zG, reduceCtorEq, zH, zI, zJ, zK, zL, encVal_eq, hn, hm, ha, lB] <;> refine nf ?_) | (refine stp ?_; intro K hK) | (apply hK; clear hK K) | refine stn ?_ | (with_reducible refine ⟨_, h1, ?_⟩) | refine stq ?_ | (clear hK K))
    all_goals exact lf
   ·
    repeat' (first | (simp only [go_sem, zA, zB, zC, zD, zE, zF, zG, reduceCtorEq, zH, zI, zJ, zK, zL, encVal_eq, hn, hm, ha, lB] <;> refine nf ?_) | (refine stp ?_; intro K hK) | (apply hK; clear hK K) | refine stn ?_ | (with_reducible refine ⟨_, h1, ?_⟩) | refine stq ?_ | fail)
    refine xF 20 rfl fun hlen0 => ?_
    (try rw [lB] at hlen0)
    refine xC (S := Unit) (v.ents) encEnt (fun k s => (22, I .i64 (k : Nat)) :: []) (fun k s => []) [1, 20, 21] [1] (fun k s => (v.ents.all fun e => entB e v.num) = ((v.ents.drop k).all fun e => entB e v.num)) (()) (by simp only [go_sem, zA, zB, zC, zD, zE, zF, zG, reduceCtorEq, zH, zI, zJ, zK, zL, encVal_eq]; exact Gh.tt []) ?_ ?_ ?_
    ·rfl
    ·intro k s x hlt hx hx' hb hok
     refine sts ?_
     rw [all_step hx] at hok
     cases hz : entB x v.num <;> simp only [hz, Bool.true_and, Bool.false_and] at hok
     ·
      repeat' (first | (simp only [go_sem, zA, zB, zC, zD, zE, zF, zG, reduceCtorEq, zH, zI, zJ, zK, zL, lB, hb, hz, encVal_eq] <;> refine nf ?_) | (refine stp ?_; intro K hK) | (apply hK; clear hK K) | refine stn ?_ | (with_reducible first | refine ⟨_, validEntry_c x v.num, ?_⟩ | refine ⟨by omega, encEnt x, hx', ?_⟩) | refine stq ?_ | (clear hK K))
      all_goals (first | exact lf | (refine fin0 ?_; simp only [hok, ha, zb, cond_true, cond_false, decide_true, decide_false] <;> rfl))
     ·
      repeat' (first | (simp only [go_sem, zA, zB, zC, zD, zE, zF, zG, reduceCtorEq, zH, zI, zJ, zK, zL, lB, hb, hz, encVal_eq] <;> refine nf ?_) | (refine stp ?_; intro K hK) | (apply hK; clear hK K) | refine stn ?_ | (with_reducible first | refine ⟨_, validEntry_c x v.num, ?_⟩ | refine ⟨by omega, encEnt x, hx', ?_⟩) | refine stq ?_ | (clear hK K))
      all_goals (rw [wrap_succ hlt hlen0])
      all_goals (refine ⟨(), ?_, Gh.tt []⟩)
      all_goals exact hok
    ·intro s hb hok
     refine sts ?_
     rw [all_end] at hok
     repeat' (first | (simp only [go_sem, zA, zB, zC, zD, zE, zF, zG, reduceCtorEq, zH, zI, zJ, zK, zL, lB, hb] <;> refine nf ?_) | (refine stp ?_; intro K hK) | (apply hK; clear hK K) | refine stn ?_ | (clear hK K))
     all_goals (first | exact lf | (refine fin0 ?_; simp only [hok, ha, zb, cond_true, cond_false, decide_true, decide_false] <;> rfl))
  ·
   repeat' (first | (simp only [go_sem, zA, zB, zC, zD, zE, zF, zG, reduceCtorEq, zH, zI, zJ, zK, zL, encVal_eq, hn, hm] <;> refine nf ?_) | (refine stp ?_; intro K hK) | (apply hK; clear hK K) | refine stn ?_ | (clear hK K))
   all_goals exact lf
 ·
  repeat' (first | (simp only [go_sem, zA, zB, zC, zD, zE, zF, zG, reduceCtorEq, zH, zI, zJ, zK, zL, encVal_eq, hn] <;> refine nf ?_) | (refine stp ?_; intro K hK) | (apply hK; clear hK K) | refine stn ?_ | (clear hK K))
  all_goals exact lf
end Go.Proofs.YtajfdbdklphonaaGreat
namespace Go.Sx
variable {P : Program} {n : Nat} {Q : Exit → AS → Prop}
mutual
def Cell.rfOk (k len : Nat) : Cell → Prop
 | .ptr j o => (j == k) = true → o ≤ len
 | .clo _ caps => Cell.rfOks k len caps
 | _ => True
def Cell.rfOks (k len : Nat) : List Cell → Prop
 | [] => True
 | c :: cs => Cell.rfOk k len c ∧ Cell.rfOks k len cs
end
mutual
def Cell.rf (k : Nat) (row : List C) : Cell → Cell
 | .ptr j o => bif j == k then .ref (row.drop o) else .ptr j o
 | .clo f caps => .clo f (Cell.rfs k row caps)
 | .dat c => .dat c
 | .own j m => .own j m
 | .rp j s i f => .rp j s i f
 | .arr j n => .arr j n
 | .ref r => .ref r
 | .mp j => .mp j
def Cell.rfs (k : Nat) (row : List C) : List Cell → List Cell
 | [] => []
 | c :: cs => Cell.rf k row c :: Cell.rfs k row cs
end
mutual
def T.rfOk (k len : Nat) : T → Prop
 | .one c => c.rfOk k len
 | .agg cs => Cell.rfOks k len cs
 | .tup ts => T.rfOks k len ts
 | _ => True
def T.rfOks (k len : Nat) : List T → Prop
 | [] => True
 | t :: ts => T.rfOk k len t ∧ T.rfOks k len ts
end
mutual
def T.rf (k : Nat) (row : List C) : T → T
 | .one c => .one (c.rf k row)
 | .agg cs => mkAgg (Cell.rfs k row cs)
 | .tup ts => .tup (T.rfs k row ts)
 | .st r => .st r
 | .un => .un
def T.rfs (k : Nat) (row : List C) : List T → List T
 | [] => []
 | t :: ts => T.rf k row t :: T.rfs k row ts
end
def RfRow (M M' : Mem) (ν : Nu) (k : Nat) (row : List C) : Prop :=
 M.le M' ∧ ∃ b mid, (ν k).blk = some b ∧ At (M' b) 0 mid ∧ repRow M' row mid
theorem At.drop {M : Mem} {b : Nat} {mid : List Value} (h : At (M b) 0 mid) (o : Nat) (ho : o ≤ mid.length) : At (M b) o (mid.drop o) := by
 obtain ⟨c, et, fz, pre, post, e, h1, h2⟩ := h
 have : pre = [] := List.length_eq_zero_iff.1 h2
 subst this
 refine ⟨c, et, fz, mid.take o, post, e, ?_, by simp; omega⟩
 rw [h1, List.nil_append, ← List.append_assoc, List.take_append_drop]
theorem repRow_drop {M : Mem} : ∀ {r : List C} {vs : List Value} (o : Nat), repRow M r vs → repRow M (r.drop o) (vs.drop o)
 | r, vs, 0, h => by simpa using h
 | [], vs, o + 1, h => by simp only [repRow] at h; subst h; simp [repRow]
 | c :: r, vs, o + 1, h => by
  simp only [repRow] at h
  obtain ⟨v, vs', e, _, h2⟩ := h
  subst e
  simpa using repRow_drop o h2
mutual
theorem Cell.rep_rf {M M' : Mem} {ν : Nu} {k : Nat} {row : List C} (hF : RfRow M M' ν k row) : ∀ (c : Cell) (v : Value), c.rfOk k row.length → c.rep M ν v → (c.rf k row).rep M' ν v
 | .ptr j o, v, hok, h => by
  simp only [Cell.rfOk] at hok
  simp only [Cell.rf]
  cases hj : (j == k) with
  | false => simp only [cond_false]; simpa only [Cell.rep] using h
  | true =>
   have hjk : j = k := by simpa using hj
   have hm := hok hj
   subst hjk
   simp only [Cell.rep] at h
   simp only [cond_true, Cell.rep]
   obtain ⟨b, hb, e⟩ := h
   obtain ⟨b', mid, hb', hat, hr⟩ := hF.2
   rw [hb] at hb'
   cases hb'
   exact ⟨b, o, mid.drop o, e, hat.drop o (by rw [repRow_length hr]; exact hm), repRow_drop o hr⟩
 | .clo f caps, v, hok, h => by
  simp only [Cell.rfOk] at hok
  simp only [Cell.rep] at h
  simp only [Cell.rf, Cell.rep]
  obtain ⟨vs, e, h⟩ := h
  exact ⟨vs, e, Cell.reps_rf hF caps vs hok h⟩
 | .dat c, v, _, h => by simp only [Cell.rf]; exact Cell.rep_mono hF.1 _ _ h
 | .own j m, v, _, h => by simp only [Cell.rf]; exact Cell.rep_mono hF.1 _ _ h
 | .rp j s i f, v, _, h => by simp only [Cell.rf]; exact Cell.rep_mono hF.1 _ _ h
 | .arr j n, v, _, h => by simp only [Cell.rf]; exact Cell.rep_mono hF.1 _ _ h
 | .ref r, v, _, h => by simp only [Cell.rf]; exact Cell.rep_mono hF.1 _ _ h
 | .mp j, v, _, h => by simp only [Cell.rf]; exact Cell.rep_mono hF.1 _ _ h
theorem Cell.reps_rf {M M' : Mem} {ν : Nu} {k : Nat} {row : List C} (hF : RfRow M M' ν k row) : ∀ (cs : List Cell) (vs : List Value), Cell.rfOks k row.length cs → Cell.reps M ν cs vs → Cell.reps M' ν (Cell.rfs k row cs) vs
 | [], vs, _, h => by simpa only [Cell.rfs, Cell.reps] using h
 | c :: cs, vs, hok, h => by
  simp only [Cell.rfOks] at hok
  simp only [Cell.reps] at h
  simp only [Cell.rfs, Cell.reps]
  obtain ⟨v, vs', e, h1, h2⟩ := h
  exact ⟨v, vs', e, Cell.rep_rf hF c v hok.1 h1, Cell.reps_rf hF cs vs' hok.2 h2⟩
end
mutual
theorem T.rep_rf {M M' : Mem} {ν : Nu} {k : Nat} {row : List C} (hF : RfRow M M' ν k row) : ∀ (t : T) (v : Value), t.rfOk k row.length → t.rep M ν v → (t.rf k row).rep M' ν v
 | .one c, v, hok, h => by simp only [T.rfOk] at hok; simp only [T.rf, T.rep] at h ⊢; exact Cell.rep_rf hF c v hok h
 | .agg cs, v, hok, h => by
  simp only [T.rfOk] at hok
  simp only [T.rep] at h
  obtain ⟨a, e, h⟩ := h
  subst e
  simp only [T.rf]
  exact mkAgg_rep (Cell.reps_rf hF cs _ hok h)
 | .tup ts, v, hok, h => by
  simp only [T.rfOk] at hok
  simp only [T.rep] at h
  obtain ⟨a, e, h⟩ := h
  simp only [T.rf, T.rep]
  exact ⟨a, e, T.reps_rf hF ts a hok h⟩
 | .st r, v, _, h => by simp only [T.rf]; exact T.rep_mono hF.1 _ _ h
 | .un, v, _, h => by simp only [T.rf]; exact T.rep_mono hF.1 _ _ h
theorem T.reps_rf {M M' : Mem} {ν : Nu} {k : Nat} {row : List C} (hF : RfRow M M' ν k row) : ∀ (ts : List T) (vs : List Value), T.rfOks k row.length ts → T.reps M ν ts vs → T.reps M' ν (T.rfs k row ts) vs
 | [], vs, _, h => by simpa only [T.rfs, T.reps] using h
 | t :: ts, vs, hok, h => by
  simp only [T.rfOks] at hok
  simp only [T.reps] at h
  simp only [T.rfs, T.reps]
  obtain ⟨v, vs', e, h1, h2⟩ := h
  exact ⟨v, vs', e, T.rep_rf hF t v hok.1 h1, T.reps_rf hF ts vs' hok.2 h2⟩
end
def rfE (k : Nat) (row : List C) : Env → Env
 | [] => []
 | p :: env => (p.1, p.2.rf k row) :: rfE k row env
def Env.rfOk (k len : Nat) : Env → Prop
 | [] => True
 | p :: env => p.2.rfOk k len ∧ Env.rfOk k len env
def rfB (k : Nat) (row : List C) : Bx → Bx
 | [] => []
 | p :: B => (match p.2 with
  | .cells cs => (p.1, .cells (Cell.rfs k row cs))
  | r => (p.1, r)) :: rfB k row B
def Bx.rfOk (k len : Nat) : Bx → Prop
 | [] => True
 | p :: B => (match p.2 with
  | .cells cs => Cell.rfOks k len cs
  | _ => True) ∧ Bx.rfOk k len B
theorem rfE_lookup {k len d : Nat} {row : List C} {t : T} : ∀ {env : Env}, Env.rfOk k len env → (rfE k row env).lookup d = some t → ∃ u, env.lookup d = some u ∧ t = u.rf k row ∧ u.rfOk k len
 | [], _, h => by simp [rfE] at h
 | p :: env, ho, h => by
  obtain ⟨e, u⟩ := p
  simp only [Env.rfOk] at ho
  simp only [rfE, List.lookup_cons] at h ⊢
  cases hb : (d == e) with
  | true => rw [hb] at h; simp only [Option.some.injEq] at h; exact ⟨u, rfl, h.symm, ho.1⟩
  | false => rw [hb] at h; exact rfE_lookup ho.2 h
theorem rfB_mem {k len i : Nat} {row : List C} {r : Res} : ∀ {B : Bx}, Bx.rfOk k len B → (i, r) ∈ rfB k row B → ∃ r0, (i, r0) ∈ B ∧ ((r = r0 ∧ ∀ cs, r0 ≠ .cells cs) ∨ ∃ cs, r0 = .cells cs ∧ r = .cells (Cell.rfs k row cs) ∧ Cell.rfOks k len cs)
 | p :: B, ho, h => by
  obtain ⟨i', r'⟩ := p
  simp only [Bx.rfOk] at ho
  simp only [rfB] at h
  rcases List.mem_cons.1 h with h | h
  ·cases r' with
   | cells cs => cases h; exact ⟨.cells cs, by simp, .inr ⟨cs, rfl, rfl, ho.1⟩⟩
   | row s rs => cases h; exact ⟨.row s rs, by simp, .inl ⟨rfl, by intro cs; simp⟩⟩
   | mp s rs => cases h; exact ⟨.mp s rs, by simp, .inl ⟨rfl, by intro cs; simp⟩⟩
  ·obtain ⟨r0, hm, h⟩ := rfB_mem ho.2 h
   exact ⟨r0, List.mem_cons_of_mem _ hm, h⟩
theorem rfB_keys {k : Nat} {row : List C} : ∀ {B : Bx}, (rfB k row B).map (·.1) = B.map (·.1)
 | [] => rfl
 | (i, .cells cs) :: B => by simp only [rfB, lE, rfB_keys]
 | (i, .row s rs) :: B => by simp only [rfB, lE, rfB_keys]
 | (i, .mp s rs) :: B => by simp only [rfB, lE, rfB_keys]
theorem Bx.rfOk_drop {k j len : Nat} : ∀ {B : Bx}, Bx.rfOk k len B → Bx.rfOk k len (Bx.drop j B)
 | [], _ => trivial
 | p :: B, h => by
  simp only [Bx.rfOk] at h
  unfold Bx.drop
  cases hp : (p.1 == j) with
  | true => exact h.2
  | false => exact ⟨h.1, Bx.rfOk_drop h.2⟩
theorem Sat.freezeC {κ : Kap} {M : Mem} {ν : Nu} {B : Bx} {w : World} {k : Nat} {row : List C} (h : Sat κ M ν B w) (hk : (k, .cells (row.map .dat)) ∈ B) (hlow : k < pin) :
    ∃ M', M.ext κ M' ∧ Sat κ M' ν (Bx.drop k B) w ∧ RfRow M M' ν k row := by
  have hr := h.res k _ hk
  simp only [Res.ok] at hr
  obtain ⟨b, c, et, hb, hheap, hcs⟩ := hr
  have hd := h.drop (B' := Bx.drop k B) (fun x hx => (Bx.mem_drop h.nodup hx).1) (Bx.drop_nodup k h.nodup)
  obtain ⟨ha1, ha2⟩ := h.away k _ b hk hb
  have hb2 : κ.w.heap.size ≤ b ∨ κ.D b := ha2
  have hle : M.le (M.add b (.cells c et (0, 0))) := by
    intro i x e
    rw [Mem.add_at ha1]
    split
    · rename_i hi; subst hi; rw [ha1] at e; cases e
    · exact e
  refine ⟨M.add b (.cells c et (0, 0)), ⟨hle, fun i x e => ?_⟩, ?_, hle, b, c.toList, hb, ?_, repRow_mono hle _ _ (Cell.reps_map_c.1 hcs)⟩
  · rw [Mem.add_at ha1] at e
    split at e
    · rename_i hi; subst hi; exact .inr hb2
    · exact .inl e
  · refine ⟨hd.os, hd.tape, hd.output, hd.dr, hd.size, hd.unch, ?_, fun j r hm => Res.ok_mono hle (fun b x e _ => e) (hd.res j r hm), ?_, hd.inj, hd.nodup⟩
    · intro i x e
      rw [Mem.add_at ha1] at e
      split at e
      · rename_i hi; subst hi; cases e; exact hheap
      · exact h.fro _ _ e
    · intro j r b' hm hb'
      obtain ⟨hm', hne⟩ := Bx.mem_drop h.nodup hm
      obtain ⟨h1, h2⟩ := h.away j r b' hm' hb'
      refine ⟨?_, h2⟩
      rw [Mem.add_at ha1]
      rw [if_neg]
      · exact h1
      · intro e; subst e
        exact hne (h.inj j r k _ b' hm' hk hb' hb)
  · exact ⟨c, et, (0, 0), [], [], by rw [Mem.add_at ha1, if_pos rfl], by simp, rfl⟩
def datRow : List Cell → Option (List C)
 | [] => some []
 | .dat c :: cs => match datRow cs with
  | some r => some (c :: r)
  | none => none
 | _ => none
theorem datRow_spec : ∀ {cs : List Cell} {r : List C}, datRow cs = some r → cs = r.map .dat
 | [], r, h => by simp only [datRow, Option.some.injEq] at h; subst h; rfl
 | .dat c :: cs, r, h => by
  simp only [datRow] at h
  split at h
  ·rename_i r' e
   simp only [Option.some.injEq] at h
   subst h
   rw [datRow_spec e]; rfl
  ·cases h
 | .ptr .. :: cs, r, h => by simp [datRow] at h
 | .own .. :: cs, r, h => by simp [datRow] at h
 | .rp .. :: cs, r, h => by simp [datRow] at h
 | .arr .. :: cs, r, h => by simp [datRow] at h
 | .ref .. :: cs, r, h => by simp [datRow] at h
 | .mp .. :: cs, r, h => by simp [datRow] at h
 | .clo .. :: cs, r, h => by simp [datRow] at h
theorem Gh.refer {env : Env} {B : Bx} (k : Nat) {cs : List Cell} {row : List C} (hb : B.lookup k = some (.cells cs)) (hcs : datRow cs = some row) (hlow : lowN k = true) (hE : Env.rfOk k row.length env) (hB : Bx.rfOk k row.length B) :
    Gh n ⟨env, B⟩ ⟨rfE k row env, rfB k row (Bx.drop k B)⟩ := by
  intro κ M0 a w s
  obtain ⟨M, ν, h1, h2, h3, h4, h5, h6⟩ := s
  have hcs := datRow_spec hcs
  subst hcs
  obtain ⟨M', g1, g2, g3⟩ := h5.freezeC (lookup_box hb) (lowN_spec hlow)
  have hB' := Bx.rfOk_drop (j := k) hB
  refine ⟨M', ν, h1.trans g1, h2, h3, ?_, ⟨g2.os, g2.tape, g2.output, g2.dr, g2.size, g2.unch, g2.fro, ?_, ?_, ?_, by rw [rfB_keys]; exact g2.nodup⟩, h6⟩
  · intro d t e
    obtain ⟨u, hu, rfl, hok⟩ := rfE_lookup hE e
    exact T.rep_rf g3 u _ hok (h4 d u hu)
  · intro i r hm
    obtain ⟨r0, hm0, ⟨rfl, _⟩ | ⟨cs, rfl, rfl, hok⟩⟩ := rfB_mem hB' hm
    · exact g2.res i r hm0
    · have h0 := h5.res i _ (Bx.mem_drop h5.nodup hm0).1
      simp only [Res.ok] at h0 ⊢
      obtain ⟨b, c, et, e1, e2, e3⟩ := h0
      exact ⟨b, c, et, e1, e2, Cell.reps_rf g3 cs _ hok e3⟩
  · intro i r b hm hb
    obtain ⟨r0, hm0, _⟩ := rfB_mem hB' hm
    exact g2.away i r0 b hm0 hb
  · intro i r i' r' b hm hm' hb hb'
    obtain ⟨r0, hm0, _⟩ := rfB_mem hB' hm
    obtain ⟨r1, hm1, _⟩ := rfB_mem hB' hm'
    exact g2.inj i r0 i' r1 b hm0 hm1 hb hb'
theorem AWP.refer {env : Env} {B : Bx} {id : Nat} {l : Array Oper} {d : Bool} (k : Nat) {cs : List Cell} {row : List C} (hb : B.lookup k = some (.cells cs)) (hcs : datRow cs = some row) (hlow : lowN k = true) (hE : Env.rfOk k row.length env) (hB : Bx.rfOk k row.length B)
    (h : AWP P n (.region id l d) ⟨rfE k row env, rfB k row (Bx.drop k B)⟩ Q) : AWP P n (.region id l d) ⟨env, B⟩ Q := xD (Gh.refer k hb hcs hlow hE hB) h
attribute [go_sem] rfE rfB Env.rfOk Bx.rfOk T.rf T.rfs Cell.rf Cell.rfs T.rfOk T.rfOks Cell.rfOk Cell.rfOks datRow List.drop_zero
end Go.Sx
set_option maxRecDepth 20000
set_option maxHeartbeats 8000000
namespace Go.Proofs.YtajfdbdklphonaaGreat
open Go Go.Sx
structure Pat where
 kind : Int
 num : Int
 text : List UInt8
 kids : List Pat
 keys : List KeyD
mutual
def encP : Pat → List C
 | ⟨kind, num, text, kids, keys⟩ => [.int .i64 kind, .int .i64 num, .str text, .sl 5 (encPs kids), .sl 2 (keys.map encKey)]
def encPs : List Pat → List (List C)
 | [] => []
 | g :: l => encP g :: encPs l
end
theorem encPs_eq : ∀ l : List Pat, encPs l = l.map encP
 | [] => by simp only [encPs, List.map_nil]
 | g :: l => by simp only [encPs, lE, encPs_eq l]
theorem encP_eq (g : Pat) : encP g = [.int .i64 g.kind, .int .i64 g.num, .str g.text, .sl 5 (g.kids.map encP), .sl 2 (g.keys.map encKey)] := by cases g; simp only [encP, encPs_eq]
theorem encP_lit (x : Pat) : encP x = [.int .i64 x.kind, .int .i64 x.num, .str x.text, .sl 5 (x.kids.map encP), .sl 2 (x.keys.map encKey)] := encP_eq x
@[go_sem] theorem encP_cut (x : Pat) : cutC 5 (encP x) = some (encP x, []) := by rw [encP_eq]; rfl
@[go_sem low] theorem encP_cutk (x : Pat) (k : Nat) : cutC k (encP x) = cutC k [.int .i64 x.kind, .int .i64 x.num, .str x.text, .sl 5 (x.kids.map encP), .sl 2 (x.keys.map encKey)] := by rw [encP_lit]
@[go_sem] theorem encP_cutm (x : Pat) : cutC 5 ((encP x).map Cell.dat) = some ((encP x).map Cell.dat, []) := by rw [encP_eq]; rfl
@[go_sem low] theorem encP_cutmk (x : Pat) (k : Nat) : cutC k ((encP x).map Cell.dat) = cutC k (([.int .i64 x.kind, .int .i64 x.num, .str x.text, .sl 5 (x.kids.map encP), .sl 2 (x.keys.map encKey)] : List C).map Cell.dat) := by rw [encP_lit]
@[go_sem] theorem encP_soft (x : Pat) : (encP x).map C.soft = encP x := by rw [encP_eq]; rfl
@[go_sem] theorem encP_len (x : Pat) : lenIs 5 (encP x) = true := by rw [encP_eq]; rfl
@[go_sem high] theorem encP_takeP (x : Pat) (n : Nat) (K : T → Prop) : takeP false n (encP x) K = K (.one (.dat (.int .i64 x.kind))) := by rw [encP_lit]; rfl
@[go_sem high] theorem encP_takeT (x : Pat) (n : Nat) (K : T → Prop) : takeT false n ((encP x).map Cell.dat) K = K (.one (.dat (.int .i64 x.kind))) := by rw [encP_lit]; rfl
@[go_sem] theorem encP_lenm (x : Pat) : lenIs 5 ((encP x).map Cell.dat) = true := by rw [encP_eq]; rfl
mutual
def cntP : Pat → Nat
 | ⟨_, _, _, kids, _⟩ => 1 + cntPs kids
def cntPs : List Pat → Nat
 | [] => 0
 | g :: l => cntP g + cntPs l
end
theorem cntP_eq (g : Pat) : cntP g = 1 + cntPs g.kids := by cases g; simp only [cntP]
theorem cntPs_mem : ∀ {l : List Pat} {g : Pat}, g ∈ l → cntP g ≤ cntPs l
 | x :: l, g, h => by
  simp only [cntPs]
  rcases List.mem_cons.1 h with rfl | h
  ·omega
  ·have := cntPs_mem h; omega
theorem cntPs_take {l : List Pat} {k : Nat} {x : Pat} (hx : l[k]? = some x) : cntPs (l.take (k + 1)) = cntPs (l.take k) + cntP x := by
 induction l generalizing k with
 | nil => simp at hx
 | cons y l ih =>
  cases k with
  | zero => simp at hx; subst hx; simp [cntPs]
  | succ k => have := ih (k := k) (by simpa using hx); simp only [List.take_succ_cons, cntPs, this]; omega
theorem cntPs_le (l : List Pat) (k : Nat) : cntPs (l.take k) ≤ cntPs l := by
 induction l generalizing k with
 | nil => simp
 | cons y l ih => cases k with
  | zero => simp [cntPs]
  | succ k => have := ih k; simp only [List.take_succ_cons, cntPs]; omega
abbrev PSm (g : Pat) : Prop := cntP g ≤ 100000000
theorem cntP_kid {g k : Pat} (h : k ∈ g.kids) : cntP k < cntP g := by have := cntP_eq g; have := cntPs_mem h; omega
theorem PSm.kid {g : Pat} (h : PSm g) : ∀ k ∈ g.kids, PSm k := fun k hk => by have := cntP_kid hk; unfold PSm at *; omega
theorem wrap_addP {a b : Nat} (h : a + b ≤ 1000000000) : IntKind.i64.wrap ((a : Int) + (b : Int)) = ((a + b : Nat) : Int) := by rw [w64 (by omega)]; omega
abbrev Pt (g : Pat) : T := .st (encP g)
theorem count_p (g : Pat) (hg : PSm g) : PC zP 101 [Pt g] (I .i64 (cntP g)) := by
 have ih : ∀ k ∈ g.kids, PC zP 101 [Pt k] (I .i64 (cntP k)) := fun k hk => count_p k (hg.kid k hk)
 unfold PSm at hg
 have hce := cntP_eq g
 refine PCB.ob Tryz.func101 Tryz.ntmps101 Tryz.results101 ?_
 repeat' (first | (simp only [go_sem, zA, zB, zC, zD, zE, zF, zG, reduceCtorEq, zH, zI, zJ, zK, zL, encP_eq g, lB] <;> refine nf ?_) | (refine stp ?_; intro K hK) | (apply hK; clear hK K) | refine stn ?_ | fail)
 refine xF 7 rfl fun hlen0 => ?_
 (try rw [lB] at hlen0)
 refine xC (S := Nat) (g.kids) encP (fun k s => (9, I .i64 (k : Nat)) :: [(3, I .i64 (s : Nat))]) (fun k s => []) [7, 8] [] (fun k s => Is s (1 + cntPs (g.kids.take k))) (1) (by simp only [go_sem, zA, zB, zC, zD, zE, zF, zG, reduceCtorEq, zH, zI, zJ, zK, zL, encP_eq]; exact Gh.tt []) ?_ ?_ ?_
 ·simp [Is, cntPs]
 ·intro k s x hlt hx hx' hb hok
  unfold Is at hok
  refine sts ?_
  have hix := ih x (lP hx)
  have hct := cntPs_take hx
  have hcl := cntPs_le g.kids (k + 1)
  have hw := wrap_addP (a := s) (b := cntP x) (by omega)
  repeat' (first | (simp only [go_sem, zA, zB, zC, zD, zE, zF, zG, reduceCtorEq, zH, zI, zJ, zK, zL, lB, hb, hw] <;> refine nf ?_) | (refine stp ?_; intro K hK) | (apply hK; clear hK K) | refine stn ?_ | (with_reducible first | refine ⟨_, hix, ?_⟩ | refine ⟨by omega, encP x, hx', ?_⟩) | refine stq ?_ | (clear hK K))
  all_goals (rw [wrap_succ hlt hlen0])
  all_goals (refine ⟨s + cntP x, ?_, Gh.tt []⟩)
  all_goals (show _ = _; omega)
 intro s0 hb0 hok0
 refine sts ?_
 rw [Is, List.take_length] at hok0
 repeat' (first | (simp only [go_sem, zA, zB, zC, zD, zE, zF, zG, reduceCtorEq, zH, zI, zJ, zK, zL, lB, hb0] <;> refine nf ?_) | (refine stp ?_; intro K hK) | (apply hK; clear hK K) | refine stn ?_ | (clear hK K))
 all_goals (refine fin0 ?_; rw [show cntP g = s0 by omega])
termination_by cntP g
decreasing_by exact cntP_kid hk
theorem patterns_c (g : Pat) (hg : PSm g) : PC zP 88 [Pt g] (I .i64 (cntP g)) := by
 have ih : ∀ k ∈ g.kids, PC zP 88 [Pt k] (I .i64 (cntP k)) := fun k hk => patterns_c k (hg.kid k hk)
 unfold PSm at hg
 have hce := cntP_eq g
 refine PCB.ob Tryz.func88 Tryz.ntmps88 Tryz.results88 ?_
 repeat' (first | (simp only [go_sem, zA, zB, zC, zD, zE, zF, zG, reduceCtorEq, zH, zI, zJ, zK, zL, encP_eq g, lB] <;> refine nf ?_) | (refine stp ?_; intro K hK) | (apply hK; clear hK K) | refine stn ?_ | fail)
 refine AWP.lenB 1 3 rfl rfl fun hlen0 => ?_
 (try rw [lB] at hlen0)
 refine xC (S := Nat) (g.kids) encP (fun k s => (4, I .i64 (k : Nat)) :: [(3, I .i64 (s : Nat))]) (fun k s => []) [1] [1] (fun k s => Is s (1 + cntPs (g.kids.take k))) (1) (by simp only [go_sem, zA, zB, zC, zD, zE, zF, zG, reduceCtorEq, zH, zI, zJ, zK, zL, encP_eq]; exact Gh.tt []) ?_ ?_ ?_
 ·simp [Is, cntPs]
 ·intro k s x hlt hx hx' hb hok
  unfold Is at hok
  refine sts ?_
  have hix := ih x (lP hx)
  have hct := cntPs_take hx
  have hcl := cntPs_le g.kids (k + 1)
  have hw := wrap_addP (a := s) (b := cntP x) (by omega)
  repeat' (first | (simp only [go_sem, zA, zB, zC, zD, zE, zF, zG, reduceCtorEq, zH, zI, zJ, zK, zL, encP_eq g, lB, hb, hw] <;> refine nf ?_) | (refine stp ?_; intro K hK) | (apply hK; clear hK K) | refine stn ?_ | (with_reducible first | refine ⟨_, hix, ?_⟩ | refine ⟨by omega, encP x, hx', ?_⟩) | refine stq ?_ | (clear hK K))
  all_goals (rw [wrap_succ hlt hlen0])
  all_goals (refine ⟨s + cntP x, ?_, Gh.tt []⟩)
  all_goals (show _ = _; omega)
 intro s0 hb0 hok0
 refine sts ?_
 rw [Is, List.take_length] at hok0
 repeat' (first | (simp only [go_sem, zA, zB, zC, zD, zE, zF, zG, reduceCtorEq, zH, zI, zJ, zK, zL, encP_eq g, lB, hb0] <;> refine nf ?_) | (refine stp ?_; intro K hK) | (apply hK; clear hK K) | refine stn ?_ | (clear hK K))
 all_goals (refine fin0 ?_; rw [show cntP g = s0 by omega])
termination_by cntP g
decreasing_by exact cntP_kid hk
theorem indexFuncP0 (F : FuncId) (p : Pat → Bool) (l : List Pat) (hp : ∀ g ∈ l, PC zP F [Pt g] (Bo (p g))) :
    PC zP 166 [.one (.dat (.sl 5 (l.map encP))), .one (.dat (.fn F))] (I .i64 (findI p 0 l)) := by
  refine PCB.ob Tryz.func166 Tryz.ntmps166 Tryz.results166 ?_
  repeat' (first | (simp only [go_sem, zA, zB, zC, zD, zE, zF, zG, reduceCtorEq, zH, zI, zJ, zK, zL, lB] <;> refine nf ?_) | (refine stp ?_; intro K hK) | (apply hK; clear hK K) | refine stn ?_ | fail)
  refine xF 0 rfl fun hlen0 => ?_
  (try rw [lB] at hlen0)
  refine xC (S := Unit) (l) encP (fun k s => (8, I .i64 (k : Nat)) :: []) (fun k s => []) [0, 1, 7] [] (fun k s => findI p 0 l = findI p k (l.drop k)) (()) (by refine sts ?_; exact Gh.tt []) ?_ ?_ ?_
  · rfl
  · intro k s x hlt hx hx' hb hok
    refine sts ?_
    have hix := hp x (lP hx)
    rw [findI_drop p l k x hx] at hok
    cases hz : p x <;> simp only [hz, cond_true, cond_false] at hok
    ·
      repeat' (first | (simp only [go_sem, zA, zB, zC, zD, zE, zF, zG, reduceCtorEq, zH, zI, zJ, zK, zL, lB, hb, hz] <;> refine nf ?_) | (refine stp ?_; intro K hK) | (apply hK; clear hK K) | refine stn ?_ | (with_reducible first | refine ⟨_, hix, ?_⟩ | refine ⟨by omega, encP x, hx', ?_⟩) | refine stq ?_ | (clear hK K))
      all_goals (rw [wrap_succ hlt hlen0])
      all_goals (refine ⟨(), ?_, Gh.tt []⟩)
      all_goals exact hok
    ·
      repeat' (first | (simp only [go_sem, zA, zB, zC, zD, zE, zF, zG, reduceCtorEq, zH, zI, zJ, zK, zL, lB, hb, hz] <;> refine nf ?_) | (refine stp ?_; intro K hK) | (apply hK; clear hK K) | refine stn ?_ | (with_reducible first | refine ⟨_, hix, ?_⟩ | refine ⟨by omega, encP x, hx', ?_⟩) | refine stq ?_ | (clear hK K))
      all_goals (first | exact lf | (refine fin0 ?_; simp only [hok, zb, cond_true, cond_false, decide_true, decide_false] <;> rfl))
  intro s0 hb0 hok0
  refine sts ?_
  rw [List.drop_length] at hok0
  repeat' (first | (simp only [go_sem, zA, zB, zC, zD, zE, zF, zG, reduceCtorEq, zH, zI, zJ, zK, zL, lB, hb0] <;> refine nf ?_) | (refine stp ?_; intro K hK) | (apply hK; clear hK K) | refine stn ?_ | (clear hK K))
  all_goals (refine fin0 ?_; rw [hok0]; rfl)
theorem containsP0 (F : FuncId) (p : Pat → Bool) (l : List Pat) (hp : ∀ g ∈ l, PC zP F [Pt g] (Bo (p g))) :
    PC zP 142 [.one (.dat (.sl 5 (l.map encP))), .one (.dat (.fn F))] (Bo (l.any p)) := by
  have h := indexFuncP0 F p l hp
  refine PCB.ob Tryz.func142 Tryz.ntmps142 Tryz.results142 ?_
  repeat' (first | (simp only [go_sem, zA, zB, zC, zD, zE, zF, zG, reduceCtorEq, zH, zI, zJ, zK, zL] <;> refine nf ?_) | (refine stp ?_; intro K hK) | (apply hK; clear hK K) | refine stn ?_ | (with_reducible refine ⟨_, h, ?_⟩) | refine stq ?_ | fail)
  all_goals (refine fin0 ?_; rw [show decide (0 ≤ findI p 0 l) = l.any p from by rw [← Bool.coe_iff_coe]; simpa using findI_any p l 0])
end Go.Proofs.YtajfdbdklphonaaGreat
