/- Lemmas of the proof. -/
import Derived.Test.YthbcdhfiibpeaaaGreatTy27
import Derived.Test.YthbcdhfiibpeaaaGreatTy28
set_option linter.unusedSimpArgs false
set_option linter.unusedVariables false
set_option maxRecDepth 20000
set_option maxHeartbeats 64000000
namespace Go.Proofs.YthbcdhfiibpeaaaGreat
open Go Go.Sx
theorem less_eq (x y : List UInt8) : Op.bytesLess x y = decide (x < y) := Go.Proofs.bytesLess_eq x y
theorem strict_ext : ∀ a b : List (List UInt8), a.Pairwise (· < ·) → b.Pairwise (· < ·) → (∀ x, x ∈ a ↔ x ∈ b) → a = b
 | [], b, _, _, h => by
  cases b with
  | nil => rfl
  | cons y b => have := (h y).2 (by simp); simp at this
 | x :: a, [], _, _, h => by have := (h x).1 (by simp); simp at this
 | x :: a, y :: b, ha, hb, h => by
  rw [List.pairwise_cons] at ha hb
  have hxy : x = y := by
   rcases List.mem_cons.1 ((h x).1 (by simp)) with e | h1
   ·exact e
   ·rcases List.mem_cons.1 ((h y).2 (by simp)) with e | h2
    ·exact e.symm
    ·exact absurd (hb.1 x h1) (List.lt_asymm (ha.1 y h2))
  subst hxy
  congr 1
  refine strict_ext a b ha.2 hb.2 fun z => ⟨fun hz => ?_, fun hz => ?_⟩
  ·rcases List.mem_cons.1 ((h z).1 (List.mem_cons_of_mem _ hz)) with e | hz'
   ·subst e; exact absurd (ha.1 z hz) (List.lt_irrefl z)
   ·exact hz'
  ·rcases List.mem_cons.1 ((h z).2 (List.mem_cons_of_mem _ hz)) with e | hz'
   ·subst e; exact absurd (hb.1 z hz) (List.lt_irrefl z)
   ·exact hz'
theorem tw_all {α : Type} (p : α → Bool) : ∀ l : List α, ∀ x ∈ l.take (tw p l), p x = true
 | [], x, h => by simp [tw] at h
 | y :: l, x, h => by
  simp only [tw] at h
  cases hp : p y
  ·rw [hp] at h; simp at h
  ·rw [hp, cond_true, Nat.add_comm, List.take_succ_cons] at h
   rcases List.mem_cons.1 h with rfl | h
   ·exact hp
   ·exact tw_all p l x h
theorem tw_next {α : Type} (p : α → Bool) : ∀ (l : List α) (y : α), l[tw p l]? = some y → p y = false
 | [], y, h => by simp at h
 | z :: l, y, h => by
  simp only [tw] at h
  cases hp : p z
  ·rw [hp] at h; simp at h; subst h; exact hp
  ·rw [hp, cond_true, Nat.add_comm, List.getElem?_cons_succ] at h
   exact tw_next p l y h
theorem ins_mem (s : List (List UInt8)) (x z : List UInt8) : z ∈ insS s x ↔ z = x ∨ z ∈ s := by
 unfold insS
 cases h : decide (s[tw (fun y => Op.bytesLess y x) s]? = some x) <;> simp only [cond_true, cond_false]
 ·unfold putAt
  have : z ∈ s ↔ z ∈ s.take (tw (fun y => Op.bytesLess y x) s) ∨ z ∈ s.drop (tw (fun y => Op.bytesLess y x) s) := by rw [← List.mem_append, List.take_append_drop]
  rw [List.mem_append, List.mem_append, this]
  simp only [List.mem_singleton]
  constructor
  ·rintro ((h | h) | h)
   ·exact .inr (.inl h)
   ·exact .inl h
   ·exact .inr (.inr h)
  ·rintro (h | h | h)
   ·exact .inl (.inr h)
   ·exact .inl (.inl h)
   ·exact .inr h
 ·have hm : x ∈ s := List.mem_of_getElem? (of_decide_eq_true h)
  constructor
  ·exact .inr
  ·rintro (rfl | h)
   ·exact hm
   ·exact h
theorem ins_strict (s : List (List UInt8)) (x : List UInt8) (hs : s.Pairwise (· < ·)) : (insS s x).Pairwise (· < ·) := by
 unfold insS
 cases h : decide (s[tw (fun y => Op.bytesLess y x) s]? = some x) <;> simp only [cond_true, cond_false]
 ·have ht := tw_all (fun y => Op.bytesLess y x) s
  have hn := tw_next (fun y => Op.bytesLess y x) s
  generalize tw (fun y => Op.bytesLess y x) s = k at *
  have hsp : (s.take k ++ s.drop k).Pairwise (· < ·) := by rw [List.take_append_drop]; exact hs
  rw [List.pairwise_append] at hsp
  obtain ⟨h1, h2, h3⟩ := hsp
  have hx1 : ∀ y ∈ s.take k, y < x := fun y hy => by have := ht y hy; rw [less_eq] at this; exact of_decide_eq_true this
  have hx2 : ∀ y ∈ s.drop k, x < y := by
   cases hd : s.drop k with
   | nil => intro y hy; cases hy
   | cons z t =>
    have hz : s[k]? = some z := by
     have := List.getElem?_drop (xs := s) (i := k) (j := 0)
     rw [hd] at this; simpa using this.symm
    have hzx : ¬ z < x := by have := hn z hz; rw [less_eq] at this; exact of_decide_eq_false this
    have hne : z ≠ x := by intro e; subst e; rw [hz] at h; simp at h
    have hxz : x < z := by
     rcases Classical.em (x < z) with hq | hq
     ·exact hq
     ·exact absurd (List.le_antisymm (List.not_lt.1 hq) (List.not_lt.1 hzx)) hne
    rw [hd, List.pairwise_cons] at h2
    intro y hy
    rcases List.mem_cons.1 hy with rfl | hy
    ·exact hxz
    ·exact List.lt_trans hxz (h2.1 y hy)
  unfold putAt
  rw [List.append_assoc, List.pairwise_append]
  refine ⟨h1, ?_, ?_⟩
  ·rw [List.singleton_append, List.pairwise_cons]
   exact ⟨hx2, h2⟩
  ·intro a ha b hb
   rw [List.singleton_append] at hb
   rcases List.mem_cons.1 hb with rfl | hb
   ·exact hx1 a ha
   ·exact h3 a ha b hb
 ·exact hs
theorem sortedV_spec (l : List (List UInt8)) : (sortedV l).Pairwise (· < ·) ∧ ∀ z, z ∈ sortedV l ↔ z ∈ l := by
 have : ∀ (l s : List (List UInt8)), s.Pairwise (· < ·) → (l.foldl insS s).Pairwise (· < ·) ∧ ∀ z, z ∈ l.foldl insS s ↔ z ∈ s ∨ z ∈ l := by
  intro l
  induction l with
  | nil => intro s hs; exact ⟨hs, fun z => by simp⟩
  | cons x l ih =>
   intro s hs
   obtain ⟨h1, h2⟩ := ih (insS s x) (ins_strict s x hs)
   refine ⟨h1, fun z => ?_⟩
   rw [List.foldl_cons, h2, ins_mem]
   simp only [List.mem_cons]
   constructor
   ·rintro ((h | h) | h)
    ·exact .inr (.inl h)
    ·exact .inl h
    ·exact .inr (.inr h)
   ·rintro (h | h | h)
    ·exact .inl (.inr h)
    ·exact .inl (.inl h)
    ·exact .inr h
 obtain ⟨h1, h2⟩ := this l [] List.Pairwise.nil
 exact ⟨h1, fun z => by unfold sortedV; rw [h2]; simp⟩
theorem compact_spec (d : Array (List UInt8)) (hd : ∀ i j, i < j → j < d.size → d[i]! ≤ d[j]!) : ∀ m, m ≤ d.size →
  (Lib.compactUpTo d m).Pairwise (· < ·) ∧ (∀ z, z ∈ Lib.compactUpTo d m ↔ ∃ j, j < m ∧ d[j]! = z) := by
 intro m
 induction m with
 | zero => intro _; exact ⟨by simp [Lib.compactUpTo], fun z => by simp [Lib.compactUpTo]⟩
 | succ m ih =>
  intro hm
  obtain ⟨h1, h2⟩ := ih (by omega)
  rw [Lib.compactUpTo_succ]
  by_cases hk : Lib.keeps d m = true
  ·rw [if_pos hk]
   refine ⟨?_, fun z => ?_⟩
   ·rw [List.pairwise_append]
    refine ⟨h1, by simp, fun a ha b hb => ?_⟩
    simp only [List.mem_singleton] at hb
    subst hb
    obtain ⟨j, hj, rfl⟩ := (h2 a).1 ha
    have hm0 : m ≠ 0 := by omega
    have hne : d[m]! ≠ d[m - 1]! := by
     unfold Lib.keeps at hk
     rcases of_decide_eq_true hk with h | h
     ·exact absurd h hm0
     ·exact h
    have hle : d[m - 1]! ≤ d[m]! := hd (m - 1) m (by omega) (by omega)
    have hlt : d[m - 1]! < d[m]! := by
     rcases Classical.em (d[m - 1]! < d[m]!) with hq | hq
     ·exact hq
     ·exact absurd (List.le_antisymm (List.not_lt.1 hq) hle) hne
    rcases Nat.lt_or_ge j (m - 1) with hj2 | hj2
    ·have h3 := hd j (m - 1) hj2 (by omega)
     rcases Classical.em (d[j]! < d[m]!) with hq | hq
     ·exact hq
     ·exact absurd (List.le_trans (List.not_lt.1 hq) h3) (List.not_le.2 hlt)
    ·have : j = m - 1 := by omega
     rw [this]; exact hlt
   ·rw [List.mem_append, h2]
    simp only [List.mem_singleton]
    constructor
    ·rintro (⟨j, hj, rfl⟩ | rfl)
     ·exact ⟨j, by omega, rfl⟩
     ·exact ⟨m, by omega, rfl⟩
    ·rintro ⟨j, hj, rfl⟩
     rcases Nat.lt_or_ge j m with h | h
     ·exact .inl ⟨j, h, rfl⟩
     ·have : j = m := by omega
      rw [this]; exact .inr rfl
  ·rw [if_neg hk, List.append_nil]
   refine ⟨h1, fun z => ?_⟩
   rw [h2]
   constructor
   ·rintro ⟨j, hj, rfl⟩; exact ⟨j, by omega, rfl⟩
   ·rintro ⟨j, hj, rfl⟩
    rcases Nat.lt_or_ge j m with h | h
    ·exact ⟨j, h, rfl⟩
    ·have e : j = m := by omega
     subst e
     have hkn : ¬ (j = 0 ∨ d[j]! ≠ d[j - 1]!) := fun hh => hk (decide_eq_true hh)
     have h0 : j ≠ 0 := fun hh => hkn (.inl hh)
     have he : d[j]! = d[j - 1]! := Classical.byContradiction fun hh => hkn (.inr hh)
     exact ⟨j - 1, by omega, he.symm⟩
theorem compact_sort (l : List (List UInt8)) : Lib.compact (l.mergeSort fun x y => decide (x ≤ y)) = sortedV l := by
 have hsort := List.pairwise_mergeSort (le := fun x y : List UInt8 => decide (x ≤ y)) (fun a b c h k => by
   simp only [decide_eq_true_eq] at *; exact List.le_trans h k) (fun a b => by
   simp only [Bool.or_eq_true, decide_eq_true_eq]; exact List.le_total a b) l
 have hperm := List.mergeSort_perm l (fun x y => decide (x ≤ y))
 generalize l.mergeSort (fun x y => decide (x ≤ y)) = s at *
 have hd : ∀ i j, i < j → j < s.toArray.size → s.toArray[i]! ≤ s.toArray[j]! := by
  intro i j hij hj
  have hj' : j < s.length := by simpa using hj
  have := List.pairwise_iff_getElem.1 hsort i j (by omega) hj' hij
  rw [getElem!_pos _ i (by simp; omega), getElem!_pos _ j hj]
  simpa using this
 obtain ⟨h1, h2⟩ := compact_spec s.toArray hd s.length (by simp)
 obtain ⟨h3, h4⟩ := sortedV_spec l
 refine strict_ext _ _ h1 h3 fun z => ?_
 show z ∈ Lib.compactUpTo s.toArray s.length ↔ _
 rw [h2, h4, ← hperm.mem_iff]
 constructor
 ·rintro ⟨j, hj, rfl⟩
  rw [getElem!_pos _ j (by simpa using hj)]
  simp
 ·intro hz
  obtain ⟨j, hj, rfl⟩ := List.mem_iff_getElem.1 hz
  exact ⟨j, hj, by rw [getElem!_pos _ j (by simpa using hj)]; simp⟩
end Go.Proofs.YthbcdhfiibpeaaaGreat

