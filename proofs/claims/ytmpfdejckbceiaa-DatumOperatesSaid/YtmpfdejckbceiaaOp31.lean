/- A part of the proof: lemmas about the walk of the program and about plain integers and lists. No conditions beyond those that each lemma states. -/
import Derived.Test.YtmpfdejckbceiaaOp16
import Derived.Test.YtmpfdejckbceiaaOp27
import Derived.Test.YtmpfdejckbceiaaOp24
import Derived.Test.YtmpfdejckbceiaaOp29
import Derived.Test.YtmpfdejckbceiaaOp30
namespace Go.Proofs.Ytmpfdejckbceiaa
open Go Go.Sx
abbrev In64 (a : Int) : Prop := -9223372036854775808 ≤ a ∧ a ≤ 9223372036854775807
theorem wrap64 (x : Int) : ∃ k : Int, IntKind.i64.wrap x = x + k * 18446744073709551616 ∧ In64 (IntKind.i64.wrap x) := by
  have h : IntKind.i64.wrap x = Int.bmod x 18446744073709551616 := by
    unfold IntKind.wrap
    simp [IntKind.signed, IntKind.bits]
    rw [Int.bmod_def]
    split <;> split <;> omega
  rw [h]
  refine ⟨-((x + 9223372036854775808) / 18446744073709551616), ?_, ?_⟩
  · rw [Int.bmod_def]; split <;> omega
  · rw [Int.bmod_def]; split <;> (constructor <;> omega)
theorem tdiv_in (a b : Int) (ha : In64 a) (hb : In64 b) (h0 : b ≠ 0) (h1 : ¬ (a = -9223372036854775808 ∧ b = -1)) : In64 (a.tdiv b) := by
  have hn : (a.tdiv b).natAbs ≤ a.natAbs := by
    rw [Int.natAbs_tdiv]; exact Nat.div_le_self _ _
  by_cases ha1 : a = -9223372036854775808
  · have hb1 : b ≠ -1 := fun e => h1 ⟨ha1, e⟩
    by_cases hb2 : b = 1
    · subst hb2; rw [Int.tdiv_one]; exact ha
    · have : (a.tdiv b).natAbs ≤ a.natAbs / 2 := by
        rw [Int.natAbs_tdiv]; exact Nat.div_le_div_left (by omega) (by omega)
      constructor <;> omega
  · constructor <;> omega
theorem wrap_mod (x : Int) (a k : Int) (h : In64 a) (hx : x = a + k * 18446744073709551616) : IntKind.i64.wrap x = a := by
  obtain ⟨j, h1, h2⟩ := wrap64 x
  omega
theorem back (a b : Int) (ha : In64 a) : IntKind.i64.wrap (IntKind.i64.wrap (a.tdiv b * b) + a.tmod b) = a := by
  obtain ⟨j, h1, h2⟩ := wrap64 (a.tdiv b * b)
  refine wrap_mod _ a j ha ?_
  have := Int.mul_tdiv_add_tmod a b
  rw [Int.mul_comm] at this
  omega
theorem sgn (a b : Int) : decide (a.tmod b = 0) = false → (decide (a.tmod b < 0) == decide (a < 0)) = true := by
  intro h
  simp only [decide_eq_false_iff_not] at h
  rw [beq_iff_eq, decide_eq_decide]
  by_cases ha : 0 ≤ a
  · have := Int.tmod_nonneg b ha; omega
  · have := Int.tmod_nonneg b (a := -a) (by omega)
    rw [Int.neg_tmod] at this; omega
theorem bound (a b : Int) (h0 : b ≠ 0) : a.tmod b < (if b < 0 then -b else b) ∧ -(if b < 0 then -b else b) < a.tmod b := by
  have h := Int.natAbs_tmod a b
  have : (a.tmod b).natAbs < b.natAbs := by
    rw [h]; exact Nat.mod_lt _ (by omega)
  split <;> omega
end Go.Proofs.Ytmpfdejckbceiaa
set_option linter.unusedSimpArgs false
set_option linter.unusedVariables false
namespace Go.Proofs.Ytmpfdejckbceiaa
open Go Go.Sx

/-! products of 64 bits -/
theorem wrap_u64 (x : Int) : IntKind.u64.wrap x = x % 18446744073709551616 := by
  simp [IntKind.wrap, IntKind.signed, IntKind.bits]
theorem wrap_i64 (x : Int) : IntKind.i64.wrap x = (x + 9223372036854775808) % 18446744073709551616 - 9223372036854775808 := by
  simp [IntKind.wrap, IntKind.signed, IntKind.bits, Int.bmod]
  split <;> omega
theorem andU_eq (a : Int) (h0 : 0 ≤ a) (h1 : a < 18446744073709551616) : andU a 4294967295 = a % 4294967296 := by
  unfold andU
  have e : (BitVec.ofInt IntKind.u64.bits a &&& BitVec.ofInt IntKind.u64.bits 4294967295).toNat = a.toNat % 4294967296 := by
    have : IntKind.u64.bits = 64 := rfl
    rw [this]
    rw [BitVec.toNat_and]
    have h2 : (BitVec.ofInt 64 a).toNat = a.toNat := by
      rw [BitVec.toNat_ofInt]; congr 1; omega
    have h3 : (BitVec.ofInt 64 4294967295).toNat = 4294967295 := by decide
    rw [h2, h3]
    exact Nat.and_two_pow_sub_one_eq_mod a.toNat 32
  rw [e, wrap_u64]
  omega
theorem shrU_eq (a : Int) : shrU a = a / 4294967296 := by
  unfold shrU
  have : ((2 : Int) ^ min (Int.toNat 32) IntKind.u64.bits) = 4294967296 := by decide
  rw [this, Int.fdiv_eq_ediv_of_nonneg _ (by omega)]

theorem mulHi_eq (x y : Int) (hx0 : 0 ≤ x) (hx : x < 18446744073709551616) (hy0 : 0 ≤ y) (hy : y < 18446744073709551616) : mulHi x y = x * y / 18446744073709551616 := by
  obtain ⟨x0, hx0'⟩ : ∃ x0, x0 = x % 4294967296 := ⟨_, rfl⟩
  obtain ⟨x1, hx1'⟩ : ∃ x1, x1 = x / 4294967296 := ⟨_, rfl⟩
  obtain ⟨y0, hy0'⟩ : ∃ y0, y0 = y % 4294967296 := ⟨_, rfl⟩
  obtain ⟨y1, hy1'⟩ : ∃ y1, y1 = y / 4294967296 := ⟨_, rfl⟩
  have bx0 : 0 ≤ x0 ∧ x0 ≤ 4294967295 := by omega
  have bx1 : 0 ≤ x1 ∧ x1 ≤ 4294967295 := by omega
  have by0 : 0 ≤ y0 ∧ y0 ≤ 4294967295 := by omega
  have by1 : 0 ≤ y1 ∧ y1 ≤ 4294967295 := by omega
  have mul_le : ∀ a b : Int, 0 ≤ a ∧ a ≤ 4294967295 → 0 ≤ b ∧ b ≤ 4294967295 → 0 ≤ a * b ∧ a * b ≤ 18446744065119617025 := by
    intro a b ha hb
    refine ⟨Int.mul_nonneg ha.1 hb.1, ?_⟩
    have h1 : a * b ≤ 4294967295 * b := Int.mul_le_mul_of_nonneg_right ha.2 hb.1
    have h2 : (4294967295 : Int) * b ≤ 4294967295 * 4294967295 := Int.mul_le_mul_of_nonneg_left hb.2 (by omega)
    omega
  have p00 := mul_le x0 y0 bx0 by0
  have p10 := mul_le x1 y0 bx1 by0
  have p01 := mul_le x0 y1 bx0 by1
  have p11 := mul_le x1 y1 bx1 by1
  have exy : x * y = x1 * y1 * 18446744073709551616 + (x1 * y0 + x0 * y1) * 4294967296 + x0 * y0 := by
    have ex : x = x1 * 4294967296 + x0 := by omega
    have ey : y = y1 * 4294967296 + y0 := by omega
    rw [ex, ey, Int.add_mul, Int.mul_add, Int.mul_add]
    have a1 : x1 * 4294967296 * (y1 * 4294967296) = x1 * y1 * 18446744073709551616 := by
      rw [Int.mul_assoc, Int.mul_left_comm 4294967296 y1, ← Int.mul_assoc]; rfl
    have a2 : x1 * 4294967296 * y0 = x1 * y0 * 4294967296 := by rw [Int.mul_assoc, Int.mul_comm 4294967296 y0, ← Int.mul_assoc]
    have a3 : x0 * (y1 * 4294967296) = x0 * y1 * 4294967296 := by rw [← Int.mul_assoc]
    rw [a1, a2, a3]
    omega
  unfold mulHi
  simp only [andU_eq x hx0 hx, andU_eq y hy0 hy, shrU_eq, ← hx0', ← hx1', ← hy0', ← hy1']
  generalize x0 * y0 = q00 at *
  generalize x1 * y0 = q10 at *
  generalize x0 * y1 = q01 at *
  generalize x1 * y1 = q11 at *
  rw [exy]
  have w00 : IntKind.u64.wrap q00 = q00 := by rw [wrap_u64]; omega
  have w10 : IntKind.u64.wrap q10 = q10 := by rw [wrap_u64]; omega
  have w01 : IntKind.u64.wrap q01 = q01 := by rw [wrap_u64]; omega
  have w11 : IntKind.u64.wrap q11 = q11 := by rw [wrap_u64]; omega
  rw [w00, w10, w01, w11]
  have t1 : IntKind.u64.wrap (q10 + q00 / 4294967296) = q10 + q00 / 4294967296 := by rw [wrap_u64]; omega
  rw [t1, andU_eq _ (by omega) (by omega)]
  have t2 : IntKind.u64.wrap ((q10 + q00 / 4294967296) % 4294967296 + q01) = (q10 + q00 / 4294967296) % 4294967296 + q01 := by rw [wrap_u64]; omega
  rw [t2]
  have t3 : IntKind.u64.wrap (q11 + (q10 + q00 / 4294967296) / 4294967296) = q11 + (q10 + q00 / 4294967296) / 4294967296 := by rw [wrap_u64]; omega
  rw [t3]
  rw [wrap_u64]
  omega

theorem sizeS_eq (a : Int) (h : In64 a) : sizeS a = (a.natAbs : Int) := by
  unfold In64 at h
  unfold sizeS
  split
  · rw [wrap_u64, wrap_u64]; omega
  · rw [wrap_u64]; omega

theorem mul_nat (a b : Int) : (a.natAbs : Int) * (b.natAbs : Int) = if (decide (a < 0) == decide (b < 0)) = true then a * b else -(a * b) := by
  by_cases ha : a < 0 <;> by_cases hb : b < 0 <;> simp only [ha, hb, decide_true, decide_false] <;> simp
  · rw [Int.ofNat_natAbs_of_nonpos (by omega), Int.ofNat_natAbs_of_nonpos (by omega), Int.neg_mul_neg]
  · rw [Int.ofNat_natAbs_of_nonpos (by omega), Int.natAbs_of_nonneg (by omega), Int.neg_mul]
  · rw [Int.natAbs_of_nonneg (by omega), Int.ofNat_natAbs_of_nonpos (by omega), Int.mul_neg]
  · rw [Int.natAbs_of_nonneg (by omega), Int.natAbs_of_nonneg (by omega)]

/-- multiply of package datum -/
theorem mul_spec (a b : Int) (ha : In64 a) (hb : In64 b) : mulOk a b = decide (In64 (a * b)) ∧ (In64 (a * b) → mulN a b = a * b) := by
  have hsa := sizeS_eq a ha
  have hsb := sizeS_eq b hb
  unfold In64 at ha hb
  have hp : 0 ≤ (a.natAbs : Int) * (b.natAbs : Int) := Int.mul_nonneg (by omega) (by omega)
  have hub : (a.natAbs : Int) * (b.natAbs : Int) ≤ 85070591730234615865843651857942052864 := by
    have h1 : (a.natAbs : Int) * (b.natAbs : Int) ≤ 9223372036854775808 * (b.natAbs : Int) := Int.mul_le_mul_of_nonneg_right (by omega) (by omega)
    have h2 : (9223372036854775808 : Int) * (b.natAbs : Int) ≤ 9223372036854775808 * 9223372036854775808 := Int.mul_le_mul_of_nonneg_left (by omega) (by omega)
    omega
  have hm := mul_nat a b
  unfold mulOk mulN
  rw [mulHi_eq _ _ (by omega) (by omega) (by omega) (by omega), hsa, hsb]
  generalize (a.natAbs : Int) * (b.natAbs : Int) = p at *
  generalize a * b = q at *
  unfold In64
  rw [wrap_u64, wrap_i64]
  cases hs : (decide (a < 0) == decide (b < 0)) <;> rw [hs] at hm <;> simp only [if_true, if_false, Bool.not_true, Bool.not_false, reduceCtorEq] at hm ⊢
  · refine ⟨?_, fun h => by rw [wrap_i64]; omega⟩
    rw [← Bool.coe_iff_coe]
    simp only [Bool.and_eq_true, decide_eq_true_eq]
    omega
  · refine ⟨?_, fun h => by rw [wrap_i64]; omega⟩
    rw [← Bool.coe_iff_coe]
    simp only [Bool.and_eq_true, decide_eq_true_eq]
    omega

/-- the document's product -/
theorem prod_spec (a b : Int) (ha : In64 a) (hb : In64 b) : (prodR a b).2 = decide (In64 (a * b)) ∧ (In64 (a * b) → (prodR a b).1 = a * b) := by
  unfold prodR
  by_cases h0 : a = 0 ∨ b = 0
  · have : (decide (a = 0) || decide (b = 0)) = true := by simpa using h0
    rw [this]
    have hz : a * b = 0 := by rcases h0 with h | h <;> simp [h]
    rw [hz]
    exact ⟨by simp [In64], fun _ => rfl⟩
  have hne : (decide (a = 0) || decide (b = 0)) = false := by simpa using h0
  rw [hne]
  simp only [cond_false]
  have hb0 : b ≠ 0 := fun h => h0 (.inr h)
  have ha0 : a ≠ 0 := fun h => h0 (.inl h)
  unfold In64 at ha hb
  refine ⟨?_, fun h => by unfold In64 at h; rw [wrap_i64]; omega⟩
  rw [← Bool.coe_iff_coe]
  unfold prodOk
  simp only [Bool.and_eq_true, decide_eq_true_eq, Bool.not_eq_true', Bool.and_eq_false_iff, decide_eq_false_iff_not]
  obtain ⟨c, hc⟩ : ∃ c, c = IntKind.i64.wrap (a * b) := ⟨_, rfl⟩
  have hcr : -9223372036854775808 ≤ c ∧ c ≤ 9223372036854775807 := by rw [hc, wrap_i64]; omega
  obtain ⟨k, hk⟩ : ∃ k : Int, a * b = c + k * 18446744073709551616 := by
    rw [hc, wrap_i64]
    exact ⟨(a * b + 9223372036854775808) / 18446744073709551616, by omega⟩
  rw [← hc]
  constructor
  · rintro ⟨⟨h1, h2⟩, h3⟩
    obtain ⟨m, hm⟩ : ∃ m, m = c.tdiv b := ⟨_, rfl⟩
    rw [← hm] at h1
    have e1 := Int.mul_tdiv_add_tmod c b
    rw [← hm] at e1
    have hr : (c.tmod b).natAbs < b.natAbs := by rw [Int.natAbs_tmod]; exact Nat.mod_lt _ (by omega)
    have hmm : m = a := by
      by_cases hmr : -9223372036854775808 ≤ m ∧ m ≤ 9223372036854775807
      · rw [wrap_i64] at h1; omega
      · exfalso
        have hle : m.natAbs ≤ c.natAbs := by rw [hm, Int.natAbs_tdiv]; exact Nat.div_le_self _ _
        have hmv : m = 9223372036854775808 := by omega
        have hcv : c = -9223372036854775808 := by omega
        have hbv : b = -1 := by
          rw [hmv, hcv] at hm
          rw [hmv, hcv] at e1
          rw [hcv] at hr
          generalize (Int.tmod (-9223372036854775808) b) = r at *
          omega
        rw [hmv] at h1
        rw [wrap_i64] at h1
        rcases h3 with h | h
        · exact h hbv
        · omega
    subst hmm
    rw [Int.mul_comm b m] at e1
    generalize m * b = q at *
    have : k = 0 := by omega
    unfold In64
    omega
  · intro h
    unfold In64 at h
    have hk0 : k = 0 := by omega
    have hcab : c = a * b := by omega
    refine ⟨⟨?_, ?_⟩, ?_⟩
    · rw [hcab, Int.mul_tdiv_cancel _ hb0, wrap_i64]; omega
    · by_cases h1 : a = -1
      · subst h1; right; omega
      · exact .inl h1
    · by_cases h1 : b = -1
      · subst h1; right; omega
      · exact .inl h1
end Go.Proofs.Ytmpfdejckbceiaa
set_option linter.unusedSimpArgs false
set_option linter.unusedVariables false
set_option maxRecDepth 20000
namespace Go.Proofs.Ytmpfdejckbceiaa
open Go Go.Sx

/-- what a datum without code shows -/
def Bare (d : Dat) : Prop := d.mod = [] ∧ d.version = 0 ∧ d.routine = 0 ∧ d.wrapped = false ∧ d.nodes = [] ∧ d.root = 0 ∧ d.inner = [] ∧ d.outer = []
inductive Good : Dat → Prop
  | mk (d : Dat) (hn : In64 d.num) (h1 : d.kids.length ≤ 1000) (h2 : d.keys.length ≤ 1000) (hf : d.kind ≠ 9 → Bare d) (hk : ∀ k ∈ d.kids, Good k) : Good d
theorem Good.num {d : Dat} (h : Good d) : In64 d.num := by cases h; assumption
theorem Good.kids {d : Dat} (h : Good d) : d.kids.length ≤ 1000 := by cases h; assumption
theorem Good.keys {d : Dat} (h : Good d) : d.keys.length ≤ 1000 := by cases h; assumption
theorem Good.bare {d : Dat} (h : Good d) : d.kind ≠ 9 → Bare d := by cases h; assumption
theorem Good.kid {d : Dat} (h : Good d) : ∀ k ∈ d.kids, Good k := by cases h; assumption
theorem Good.small {d : Dat} (h : Good d) : Small d := by
  induction h with
  | mk d hn h1 h2 hf hk ih => exact .mk d (by omega) (by omega) ih
theorem hasFun_kid {d : Dat} (h : hasFun d = false) : d.kind ≠ 9 ∧ ∀ k ∈ d.kids, hasFun k = false := by
  rw [hasFun_eq, Bool.or_eq_false_iff] at h
  refine ⟨by simpa using h.1, fun k hk => ?_⟩
  have := h.2
  rw [List.any_eq_false] at this
  simpa using this k hk
theorem Good.noNodes {d : Dat} (h : Good d) : hasFun d = false → NoNodes d := by
  induction h with
  | mk d hn h1 h2 hf hk ih =>
    intro h
    have hh := hasFun_kid h
    exact .mk d (hf hh.1).2.2.2.2.1 fun k hk => ih k hk (hh.2 k hk)
/-- erasing keeps data without functions apart -/
theorem erase_inj : ∀ (x y : Dat), Good x → Good y → hasFun x = false → hasFun y = false → eraseV x = eraseV y → x = y := by
  intro x
  induction x using WellFounded.induction (r := InvImage (· < ·) (SizeOf.sizeOf (α := Dat))) (InvImage.wf _ Nat.lt_wfRel.wf) with
  | _ x ih =>
  intro y gx gy hx hy he
  have h1 := hasFun_kid hx
  have h2 := hasFun_kid hy
  have b1 := gx.bare h1.1
  have b2 := gy.bare h2.1
  rw [eraseV_eq, eraseV_eq] at he
  simp only [decide_eq_false h1.1, decide_eq_false h2.1, cond_false, Val.mk.injEq] at he
  obtain ⟨e1, e2, e3, e4, e5, _⟩ := he
  have hkids : x.kids = y.kids := by
    have key : ∀ (l m : List Dat), (∀ k ∈ l, k ∈ x.kids) → (∀ k ∈ m, k ∈ y.kids) → l.map eraseV = m.map eraseV → l = m := by
      intro l
      induction l with
      | nil => intro m _ _ h; cases m with
        | nil => rfl
        | cons b m => simp at h
      | cons a l ihl =>
        intro m hl hm h
        cases m with
        | nil => simp at h
        | cons b m =>
          simp only [List.map_cons, List.cons.injEq] at h
          have ha := hl a (by simp)
          have hb := hm b (by simp)
          have : a = b := ih a (by
            show SizeOf.sizeOf a < SizeOf.sizeOf x
            cases x; simp only at ha; have := List.sizeOf_lt_of_mem ha; simp; omega) b (gx.kid a ha) (gy.kid b hb) (h1.2 a ha) (h2.2 b hb) h.1
          rw [this, ihl m (fun k hk => hl k (by simp [hk])) (fun k hk => hm k (by simp [hk])) h.2]
    exact key _ _ (fun _ h => h) (fun _ h => h) e4
  obtain ⟨c1, c2, c3, c4, c5, c6, c7, c8⟩ := b1
  obtain ⟨d1, d2, d3, d4, d5, d6, d7, d8⟩ := b2
  cases x; cases y
  simp only at *
  simp_all

theorem keyC_zero {a b : KeyD} : keyC a b = 0 ↔ a = b := by
  unfold keyC
  rw [chainC_zero, cmpI_zero, cmpB_zero]
  cases a; cases b; simp
theorem firstC_zero {α : Type} (f : α → α → Int) : ∀ (a b : List α), (∀ x ∈ a, ∀ y, f x y = 0 ↔ x = y) → a.length = b.length → (firstC f a b = 0 ↔ a = b)
  | [], [], _, _ => by simp [firstC]
  | [], _ :: _, _, h => by simp at h
  | _ :: _, [], _, h => by simp at h
  | x :: a, y :: b, hf, h => by
    have ih := firstC_zero f a b (fun x hx => hf x (by simp [hx])) (by simpa using h)
    have h0 := hf x (by simp) y
    simp only [firstC, List.cons.injEq]
    by_cases hz : f x y = 0
    · rw [hz]; simp only [decide_true, cond_true, ih, h0.1 hz, true_and]
    · simp only [decide_eq_false hz, cond_false]
      have : ¬ x = y := fun e => hz (h0.2 e)
      simp [hz, this]
theorem listCmp_zero {α : Type} (f : α → α → Int) (a b : List α) (hf : ∀ x ∈ a, ∀ y, f x y = 0 ↔ x = y) : listCmp f a b = 0 ↔ a = b := by
  unfold listCmp
  by_cases hl : a.length = b.length
  · have : cmpI a.length b.length = 0 := cmpI_zero.2 (by omega)
    simp only [this, decide_true, cond_true]
    exact firstC_zero f a b hf hl
  · have : ¬ cmpI a.length b.length = 0 := fun h => hl (by have := cmpI_zero.1 h; omega)
    rw [decide_eq_false this, cond_false]
    exact ⟨fun h => absurd h this, fun e => absurd (by rw [e]) hl⟩
theorem valC_zero : ∀ (a b : Val), valC a b = 0 ↔ a = b := by
  intro a
  induction a using WellFounded.induction (r := InvImage (· < ·) (SizeOf.sizeOf (α := Val))) (InvImage.wf _ Nat.lt_wfRel.wf) with
  | _ a ih =>
  intro b
  rw [valC_eq]
  have hk : ∀ x ∈ a.kids, ∀ y, valC x y = 0 ↔ x = y := fun x hx y => ih x (by
    show SizeOf.sizeOf x < SizeOf.sizeOf a
    cases a; simp only at hx; have := List.sizeOf_lt_of_mem hx; simp; omega) y
  have he : ∀ x ∈ a.ents, ∀ y, entC x y = 0 ↔ x = y := by
    intro x hx y
    have hsz : SizeOf.sizeOf x < SizeOf.sizeOf a := by
      cases a; simp only at hx; have := List.sizeOf_lt_of_mem hx; simp; omega
    rw [entC_eq, chainC_zero]
    obtain ⟨l, f, r⟩ := x
    obtain ⟨l', f', r'⟩ := y
    simp only at *
    have hl : ∀ x ∈ l, ∀ y, valC x y = 0 ↔ x = y := fun x hx y => ih x (by
      show SizeOf.sizeOf x < SizeOf.sizeOf a
      have := List.sizeOf_lt_of_mem hx; simp at hsz; omega) y
    have hr := ih r (by show SizeOf.sizeOf r < SizeOf.sizeOf a; simp at hsz; omega) r'
    rw [listCmp_zero valC l l' hl]
    cases f <;> cases f' <;> simp [hr]
  rw [chainC_zero, chainC_zero, chainC_zero, chainC_zero, chainC_zero, chainC_zero, cmpI_zero, cmpI_zero, cmpB_zero, listCmp_zero keyC _ _ (fun _ _ _ => keyC_zero), listCmp_zero valC _ _ hk, listCmp_zero entC _ _ he, listCmp_zero Lib.compareBytes _ _ (fun _ _ _ => cmpB_zero)]
  cases a; cases b
  simp only [Val.mk.injEq]
  constructor
  · rintro ⟨h1, h2, h3, h4, h5, h6, h7⟩; exact ⟨h1, h2, h3, h5, h4, h6, h7⟩
  · rintro ⟨h1, h2, h3, h4, h5, h6, h7⟩; exact ⟨h1, h2, h3, h5, h4, h6, h7⟩

theorem same_val {x y : Dat} (gx : Good x) (gy : Good y) (hx : hasFun x = false) (hy : hasFun y = false) : decide (valC (eraseV x) (eraseV y) = 0) = sameB x y := by
  rw [← Bool.coe_iff_coe, sameB_true, decide_eq_true_eq, valC_zero]
  exact ⟨fun h => erase_inj x y gx gy hx hy h, fun h => by rw [h]⟩

theorem neg_min {a : Int} (ha : In64 a) : (decide (a = IntKind.i64.wrap (0 - a)) && !decide (a = 0)) = decide (a = -9223372036854775808) := by
  unfold In64 at ha
  rw [← Bool.coe_iff_coe]
  simp only [Bool.and_eq_true, decide_eq_true_eq, Bool.not_eq_true', decide_eq_false_iff_not]
  rw [wrap_i64]
  omega
theorem arith_eq (op : List UInt8) (a b : Int) (ha : In64 a) (hb : In64 b) (f6 : decide (op = [60]) = false) (f7 : decide (op = [61, 60]) = false) (hop : isArith op = true) :
    intRes op a b = bif !decide ((arithR op a b).2 = []) then (zeroDat, (arithR op a b).2) else (intDat (arithR op a b).1, []) := by
  have hm := mul_spec a b ha hb
  have hp := prod_spec a b ha hb
  have hov : decide ((sOver : List UInt8) = []) = false := by decide
  have hze : decide ((sZero : List UInt8) = []) = false := by decide
  have hni : decide (([] : List UInt8) = []) = true := by decide
  unfold intRes arithR
  simp only [f6, f7, cond_false]
  cases f1 : decide (op = [43]) with
  | true => 
    cases (decide (a < IntKind.i64.wrap (a + b)) == decide (0 < b)) <;> simp only [cond_true, cond_false, Bool.not_true, Bool.not_false, hov, decide_true, eq_self, Bool.not_true, cond_false]
  | false =>
  cases f2 : decide (op = [45]) with
  | true =>
    cases (decide (IntKind.i64.wrap (a - b) < a) == decide (0 < b)) <;> simp only [cond_true, cond_false, Bool.not_true, Bool.not_false, hov, decide_true, eq_self, Bool.not_true, cond_false]
  | false =>
  cases f3 : decide (op = [42]) with
  | true =>
    rw [hm.1, hp.1]
    simp only [cond_true, cond_false]
    by_cases hin : In64 (a * b)
    · rw [hm.2 hin, hp.2 hin]
      simp only [decide_eq_true hin, cond_true, cond_false, Bool.not_true, Bool.not_false, hov, decide_true, eq_self, Bool.not_true, cond_false]
    · simp only [decide_eq_false hin, cond_true, cond_false, Bool.not_true, Bool.not_false, hov, decide_true, eq_self, Bool.not_true, cond_false]
  | false =>
  simp only [cond_true, cond_false]
  rw [neg_min ha]
  cases f4 : decide (b = 0) with
  | true => simp only [cond_true, cond_false, Bool.not_false, hze]
  | false =>
  cases f5 : decide (b = -1) <;> cases f6 : decide (a = -9223372036854775808) <;> simp only [cond_true, cond_false, Bool.not_true, Bool.not_false, Bool.and_true, Bool.and_false, Bool.true_and, Bool.false_and, hov, decide_true, eq_self, Bool.not_true, cond_false]
  all_goals
    cases f8 : decide (op = [100, 105, 118]) with
    | true =>
      have h8 := of_decide_eq_true f8
      have : decide (op = [114, 101, 109]) = false := by rw [h8]; decide
      simp only [this, cond_true, cond_false, Bool.not_true, decide_true, eq_self, cond_false]
    | false =>
      have : decide (op = [114, 101, 109]) = true := by
        simp only [isArith, f1, f2, f3, f8, f6, f7, Bool.false_or, Bool.or_false, *] at hop
        exact hop
      simp only [this, cond_true, cond_false, Bool.not_true, decide_true, eq_self, cond_false]
theorem notBool_eq (x : Dat) : notBool x = !isBoolD x := by
  unfold notBool isBoolD
  cases decide (x.kind = 3) <;> cases decide (x.text = sTrue) <;> cases decide (x.text = sFalse) <;> rfl
theorem oper1_eq (op : List UInt8) (x : Dat) : operR1 op x = operP1 op x := by
  unfold operR1 operP1
  rw [notBool_eq]
  cases decide (op = [110, 111, 116]) with
  | false => rfl
  | true =>
    cases hb : isBoolD x with
    | false => rfl
    | true =>
      simp only [cond_true, Bool.not_true, cond_false, boolR1]
      have : decide (x.text = sFalse) = !decide (x.text = sTrue) := by
        unfold isBoolD at hb
        simp only [Bool.and_eq_true, Bool.or_eq_true, decide_eq_true_eq] at hb
        rcases hb.2 with h | h <;> rw [h] <;> rfl
      rw [this]
theorem oper2_same (op : List UInt8) (x y : Dat) (gx : Good x) (gy : Good y) : operR2 op x y = operP2 op x y := by
  unfold operR2 operP2
  rw [notBool_eq, notBool_eq]
  cases f0 : decide (op = [110, 111, 116]) with
  | true =>
    have h := of_decide_eq_true f0
    have h1 : isArith op = false := by rw [h]; decide
    have h2 : decide (op = [61, 61]) = false := by rw [h]; decide
    have h3 : decide (op = [97, 110, 100]) = false := by rw [h]; decide
    have h4 : decide (op = [111, 114]) = false := by rw [h]; decide
    simp only [h1, h2, h3, h4, cond_true, cond_false, Bool.or_false]
  | false =>
  cases fb : (decide (op = [97, 110, 100]) || decide (op = [111, 114])) with
  | true =>
    have h1 : isArith op = false := by
      rw [Bool.or_eq_true, decide_eq_true_eq, decide_eq_true_eq] at fb
      rcases fb with h | h <;> rw [h] <;> decide
    have h2 : decide (op = [61, 61]) = false := by
      rw [Bool.or_eq_true, decide_eq_true_eq, decide_eq_true_eq] at fb
      rcases fb with h | h <;> rw [h] <;> decide
    simp only [h1, h2, cond_true, cond_false]
  | false =>
  cases f8 : decide (op = [61, 61]) with
  | true =>
    have h := of_decide_eq_true f8
    have h1 : isArith op = false := by rw [h]; decide
    simp only [h1, cond_true, cond_false]
    cases hx : hasFun x <;> cases hy : hasFun y <;> simp only [Bool.or_true, Bool.or_false, Bool.not_true, Bool.not_false, Bool.and_true, Bool.and_false, cond_true, cond_false]
    rw [same_val gx gy hx hy]
  | false =>
  cases fa : isArith op with
  | false => simp only [Bool.not_false, Bool.true_or, cond_true, cond_false]
  | true =>
  simp only [Bool.not_true, Bool.false_or, cond_true, cond_false]
  cases n1 : decide (x.kind = 1) with
  | false => simp only [Bool.not_false, Bool.true_or, cond_true, Bool.false_and, cond_false]
  | true =>
  cases n2 : decide (y.kind = 1) with
  | false => simp only [Bool.not_false, Bool.or_true, cond_true, Bool.and_false, cond_false]
  | true =>
  simp only [Bool.not_true, Bool.or_false, cond_false, Bool.and_true, cond_true]
  cases f6 : decide (op = [60]) with
  | true => simp only [intRes, f6, cond_true]
  | false =>
  cases f7 : decide (op = [61, 60]) with
  | true => simp only [intRes, f6, f7, cond_true, cond_false]
  | false =>
  simp only [cond_false]
  rw [arith_eq op x.num y.num gx.num gy.num f6 f7 fa]
  cases decide ((arithR op x.num y.num).2 = []) <;> rfl

theorem noNodes_leaf (d : Dat) (h : d.nodes = []) (hk : d.kids = []) : NoNodes d := .mk d h (by rw [hk]; simp)
theorem atom_nn (s : List UInt8) : NoNodes (atomDat s) := noNodes_leaf _ rfl rfl
theorem zero_nn : NoNodes zeroDat := noNodes_leaf _ rfl rfl
theorem int_nn (a : Int) : NoNodes (intDat a) := noNodes_leaf _ rfl rfl
theorem bool_nn (b : Bool) : NoNodes (boolDat b) := atom_nn _
theorem oper1_nn (op : List UInt8) (x : Dat) : NoNodes (operP1 op x).1 := by
  unfold operP1
  cases decide (op = [110, 111, 116]) <;> cases notBool x <;> first | exact zero_nn | exact bool_nn _
theorem int_res_nn (op : List UInt8) (a b : Int) : NoNodes (intRes op a b).1 := by
  unfold intRes
  cases decide (op = [60]) <;> cases decide (op = [61, 60]) <;> cases decide (op = [43]) <;> cases decide (op = [45]) <;> cases decide (op = [42]) <;> cases decide (b = 0) <;> cases (decide (b = -1) && (decide (a = IntKind.i64.wrap (0 - a)) && !decide (a = 0))) <;> cases decide (op = [114, 101, 109]) <;>
   cases mulOk a b <;> cases (decide (a < IntKind.i64.wrap (a + b)) == decide (0 < b)) <;> cases (decide (IntKind.i64.wrap (a - b) < a) == decide (0 < b)) <;> first | exact bool_nn _ | exact zero_nn | exact int_nn _
theorem oper2_nn (op : List UInt8) (x y : Dat) : NoNodes (operP2 op x y).1 := by
  unfold operP2
  cases isArith op <;> cases (decide (x.kind = 1) && decide (y.kind = 1)) <;> cases decide (op = [61, 61]) <;> cases (!hasFun x && !hasFun y) <;> cases (decide (op = [97, 110, 100]) || decide (op = [111, 114])) <;> cases (notBool x || notBool y) <;>
    first | exact zero_nn | exact bool_nn _ | exact int_res_nn _ _ _ | (simp only [cond_true, cond_false, boolR2]; cases decide (op = [97, 110, 100]) <;> exact bool_nn _)

/-! what Made makes -/
theorem good_leaf (d : Dat) (hn : In64 d.num) (hk : d.kids = []) (hy : d.keys = []) (hb : d.kind ≠ 9 → Bare d) : Good d := .mk d hn (by simp [hk]) (by simp [hy]) hb (by simp [hk])
theorem in64_small {n : Int} (h : -1000 ≤ n ∧ n ≤ 1000) : In64 n := by unfold In64; omega
theorem good_zero : Good zeroDat := good_leaf _ (by show In64 0; decide) rfl rfl fun _ => ⟨rfl, rfl, rfl, rfl, rfl, rfl, rfl, rfl⟩
theorem good_atom (s : List UInt8) : Good (atomDat s) := good_leaf _ (by show In64 0; decide) rfl rfl fun _ => ⟨rfl, rfl, rfl, rfl, rfl, rfl, rfl, rfl⟩
theorem good_int {n : Int} (h : In64 n) : Good (intDat n) := good_leaf _ h rfl rfl fun _ => ⟨rfl, rfl, rfl, rfl, rfl, rfl, rfl, rfl⟩
theorem numV_in (s : Src) : In64 (numV s) := by
  have h := nextV_in s (n := 10) (by omega)
  unfold numV
  have h2 : ∀ n : Nat, n < 10 → In64 (numL.getD n 0) := by decide
  exact h2 _ (by omega)
theorem good_base (k : Int) (s : Src) : Good (madeBase k s).1 := by
  have v4 := nextV_in s (n := 4) (by omega)
  have v3 := nextV_in s (n := 3) (by omega)
  have v5 := nextV_in s (n := 5) (by omega)
  unfold madeBase
  cases decide (k = 1) <;> cases decide (k = 2) <;> cases decide (k = 3) <;> cases decide (k = 4) <;> cases decide (k = 5) <;> cases decide (k = 6) <;> simp only [cond_true, cond_false]
  all_goals first
    | exact good_atom _
    | exact good_int (in64_small (by omega))
    | exact good_int (numV_in s)
    | (refine good_leaf _ (in64_small (by simp only [zeroDat]; omega)) rfl rfl fun _ => ⟨rfl, rfl, rfl, rfl, rfl, rfl, rfl, rfl⟩)
    | (refine good_leaf _ (in64_small (by simp only [zeroDat, funDat]; omega)) rfl rfl fun h => absurd rfl h)
theorem good_made0 (s : Src) : Good (made0 s).1 := good_base _ _
theorem good_cons {a b : Dat} (ha : Good a) (hb : Good b) : Good (consDat a b) := .mk _ (in64_small (by simp only [consDat, zeroDat]; omega)) (by simp [consDat]) (by simp [consDat, zeroDat]) (fun _ => ⟨rfl, rfl, rfl, rfl, rfl, rfl, rfl, rfl⟩)
  (by intro k hk; simp only [consDat, List.mem_cons, List.not_mem_nil, or_false] at hk; rcases hk with rfl | rfl <;> assumption)
theorem good_madeN {f : Src → Dat × Src} (hf : ∀ s, Good (f s).1) : ∀ (n : Nat) (s : Src) (acc : List Dat), (∀ d ∈ acc, Good d) → ∀ d ∈ (madeN f n s acc).1, Good d
  | 0, s, acc, h => h
  | n + 1, s, acc, h => good_madeN hf n _ _ (by
    intro d hd
    rcases List.mem_append.1 hd with hd | hd
    · exact h d hd
    · simp only [List.mem_singleton] at hd; subst hd; exact hf s)
theorem good_listN {f : Src → Dat × Src} (hf : ∀ s, Good (f s).1) : ∀ (n : Nat) (s : Src) (t : Dat), Good t → Good (listN f n s t).1
  | 0, s, t, h => h
  | n + 1, s, t, h => good_listN hf n _ _ (good_cons (hf s) h)
structure GoodA (n : Nat) (a : PutA) : Prop where
  k : a.keys.length ≤ n
  d : a.kids.length ≤ n
  g : ∀ d ∈ a.kids, Good d
theorem GoodA.snoc {n : Nat} {a : PutA} (h : GoodA n a) (k : KeyD) {d : Dat} (hd : Good d) (p : Bool) : GoodA (n + 1) ⟨a.keys ++ [k], a.kids ++ [d], p⟩ :=
  ⟨by have := h.k; simp; omega, by have := h.d; simp; omega, by
    intro x hx
    rcases List.mem_append.1 hx with hx | hx
    · exact h.g x hx
    · simp only [List.mem_singleton] at hx; subst hx; exact hd⟩
theorem GoodA.le {n m : Nat} {a : PutA} (h : GoodA n a) (hm : n ≤ m) : GoodA m a := ⟨by have := h.k; omega, by have := h.d; omega, h.g⟩
def placedN (a : PutA) : Nat := bif a.placed then 1 else 0
theorem good_putStep (k : KeyD) {d : Dat} (hd : Good d) {n : Nat} {a : PutA} (h : GoodA (n + placedN a) a) (x : KeyD × Dat) (hx : Good x.2) : GoodA (n + 1 + placedN (putStep k d a x)) (putStep k d a x) := by
  unfold putStep
  obtain ⟨ak, ad, ap⟩ := a
  cases decide (keyCmp k x.1 ≤ 0) <;> cases decide (keyCmp k x.1 = 0) <;> cases ap <;>
    simp only [Bool.not_true, Bool.not_false, Bool.and_true, Bool.and_false, Bool.true_and, Bool.false_and, cond_true, cond_false, placedN] at h ⊢
  all_goals first
    | exact GoodA.le h (by omega)
    | exact GoodA.le (GoodA.snoc h _ hx _) (by omega)
    | exact GoodA.le (GoodA.snoc h _ hd _) (by omega)
    | exact GoodA.le (GoodA.snoc (GoodA.snoc h _ hd true) _ hx _) (by omega)
theorem good_foldl (k : KeyD) {d : Dat} (hd : Good d) : ∀ (l : List (KeyD × Dat)) (n : Nat) (a : PutA), (∀ x ∈ l, Good x.2) → GoodA (n + placedN a) a → GoodA (n + l.length + placedN (l.foldl (putStep k d) a)) (l.foldl (putStep k d) a)
  | [], n, a, _, h => by simpa using h
  | x :: l, n, a, hl, h => by
    have := good_foldl k hd l (n + 1) _ (fun y hy => hl y (by simp [hy])) (good_putStep k hd h x (hl x (by simp)))
    simp only [List.foldl_cons, List.length_cons]
    rwa [show n + 1 + l.length = n + (l.length + 1) by omega] at this
theorem good_put {m d : Dat} (k : KeyD) (hm : Good m) (hd : Good d) {n : Nat} (hn : n < 1000) (h1 : m.kids.length ≤ n) : Good (putR m k d).1 ∧ (putR m k d).1.kids.length ≤ n + 1 := by
  unfold putR
  cases putBad m k with
  | true => exact ⟨good_zero, by simp [zeroDat]⟩
  | false =>
    simp only [cond_false]
    have hz : ∀ x ∈ m.keys.zip m.kids, Good x.2 := fun x hx => hm.kid _ (List.of_mem_zip hx).2
    have h := good_foldl k hd (m.keys.zip m.kids) 0 ⟨[], [], false⟩ hz ⟨by simp, by simp, by simp⟩
    have hle : (m.keys.zip m.kids).length ≤ n := by simp; omega
    generalize (m.keys.zip m.kids).foldl (putStep k d) ⟨[], [], false⟩ = a at *
    have h2 : GoodA (n + 1) (putEnd k d a) := by
      unfold putEnd
      obtain ⟨ak, ad, ap⟩ := a
      cases ap <;> simp only [Bool.not_true, Bool.not_false, cond_true, cond_false, placedN] at h ⊢
      · exact GoodA.le (GoodA.snoc h _ hd _) (by omega)
      · exact GoodA.le h (by omega)
    refine ⟨.mk _ (in64_small (by simp only [mapDat, zeroDat]; omega)) (by have := h2.d; simp only [mapDat]; omega) (by have := h2.k; simp only [mapDat]; omega) (fun _ => ⟨rfl, rfl, rfl, rfl, rfl, rfl, rfl, rfl⟩) h2.g, h2.d⟩
theorem good_mapN {f : Src → Dat × Src} (hf : ∀ s, Good (f s).1) : ∀ (n : Nat) (s : Src) (m : Dat) (j : Nat), j + n < 1000 → m.kids.length ≤ j → Good m → Good (mapN f n s m).1
  | 0, s, m, _, _, _, h => h
  | n + 1, s, m, j, hj, hm, h => by
    have := good_put (keyV s).1 h (hf (keyV s).2) (n := j) (by omega) hm
    exact good_mapN hf n _ _ (j + 1) (by omega) this.2 this.1
theorem good_made : ∀ (d : Nat) (s : Src), Good (made d s).1
  | 0, s => good_made0 s
  | d + 1, s => by
    have hf := fun s => good_made d s
    have v4 := nextV_in (nextS s 12) (n := 4) (by omega)
    have v3 := nextV_in (nextS s 12) (n := 3) (by omega)
    unfold made
    cases decide (nextV s 12 ≤ 6) with
    | true => exact good_base _ _
    | false =>
    simp only [cond_false]
    cases decide (nextV s 12 = 7) with
    | true =>
      simp only [cond_true]
      cases h9 : decide ((made0 (nextS s 12)).1.kind = 9) with
      | false => exact good_made0 _
      | true =>
        have hnum := made0_fun (nextS s 12) (by simpa using h9)
        refine .mk _ (in64_small (by simp only [cond_true, wrapD]; omega)) (by simp [wrapD]) (by simp [wrapD, zeroDat]) (fun h => absurd rfl h) ?_
        intro k hk
        simp only [cond_true, wrapD, List.mem_singleton] at hk
        subst hk; exact good_made0 _
    | false =>
    simp only [cond_false]
    cases decide (nextV s 12 ≤ 9) with
    | true =>
      simp only [cond_true]
      refine .mk _ (in64_small (by simp only [zeroDat]; omega)) ?_ (by simp [zeroDat]) (fun _ => ⟨rfl, rfl, rfl, rfl, rfl, rfl, rfl, rfl⟩) ?_
      · simp only [madeN_len, List.length_nil]; omega
      · exact good_madeN hf _ _ _ (by simp)
    | false =>
    simp only [cond_false]
    cases decide (nextV s 12 = 10) with
    | true => exact good_listN hf _ _ _ (good_leaf _ (in64_small (by simp only [zeroDat]; omega)) rfl rfl fun _ => ⟨rfl, rfl, rfl, rfl, rfl, rfl, rfl, rfl⟩)
    | false => exact good_mapN hf _ _ _ 0 (by omega) (by simp [zeroDat]) (good_leaf _ (in64_small (by simp only [zeroDat]; omega)) rfl rfl fun _ => ⟨rfl, rfl, rfl, rfl, rfl, rfl, rfl, rfl⟩)
end Go.Proofs.Ytmpfdejckbceiaa
