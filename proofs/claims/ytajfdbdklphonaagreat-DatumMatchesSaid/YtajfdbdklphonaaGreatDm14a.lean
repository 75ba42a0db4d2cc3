/- Lemmas; conditions: as each states. -/
import Derived.Test.YtajfdbdklphonaaGreatDm12b
import Derived.Test.YtajfdbdklphonaaGreatDm13at
import Derived.Shelf.SortM.Plain
import Derived.Shelf.SortM.SortNone
import Derived.Shelf.SlicesG.CompactS
import Derived.Test.YtajfdbdklphonaaGreatProg
import Derived.WalkKit
import Derived.ProofKit
import Derived.Lib.SliceRun
open Go.Proofs.Tryz renaming prog → zP
open List renaming length_append → lA, length_map → lB, map_cons → lE, mem_singleton → lN, mem_of_getElem? → lP
open Go.Sx.AWP renaming genR → xA
open Nat renaming reduceBEq → D, reduceBNe → E, reduceAdd → H, reduceSub → J, reduceMul → N, reduceLeDiff → O, reduceLT → U, reduceEqDiff → V
open Int renaming reduceToNat → W, reduceLE → Y, reduceLT → Z, reduceEq → zL
set_option linter.unusedVariables false
set_option linter.unusedSimpArgs false
namespace Go.Sx
open Go.Proofs Go.Sort
variable {P : Program}
theorem repRows_str {M : Mem} : ∀ {l : List (List UInt8)} {vs : List Value}, repRows M 1 (l.map Sx.encStr) vs ↔ vs = l.map Go.Proofs.encStr
 | [], vs => by simp [repRows]
 | x :: l, vs => by
  simp only [lE, repRows, repRows_str (l := l)]
  constructor
  ·rintro ⟨v1, v2, e, _, h1, h2⟩
   simp only [Sx.encStr, repRow, C.rep] at h1
   obtain ⟨v, vs', e1, e2, e3⟩ := h1
   subst e1; subst e2; subst e3; subst h2
   exact e
  ·intro e
   refine ⟨[Go.Proofs.encStr x], _, e, rfl, ?_, rfl⟩
   simp only [Sx.encStr, repRow, C.rep]
   exact ⟨_, [], rfl, rfl, rfl⟩
theorem onCells_atS {w : World} {b : Nat} {c : Array Value} {et : TypeId} {fz : Nat × Nat} (f : Array Value → Array Value) (h : w.heap[b]? = some (.cells c et fz)) : (mapBlock w b f).heap[b]? = some (.cells (f c) et fz) := by
 unfold mapBlock
 simp [Array.getElem?_modify, h, onCells]
theorem onCells_otherS {w : World} {b i : Nat} (f : Array Value → Array Value) (h : i ≠ b) : (mapBlock w b f).heap[i]? = w.heap[i]? := by
 unfold mapBlock
 simp [Array.getElem?_modify, Ne.symm h]
theorem str_row_c {f : FuncId} (hent : Ent P f) (l l' tail : List (List UInt8)) (hlen : l'.length + tail.length = l.length) (r : T) (R : Option Addr → Nat → Value)
    (hrep : ∀ M ν, r.rep M ν (R ((ν pin).blk.map fun b => ⟨b, 0, none⟩) (ν pin).cap))
    (hcall : ∀ b cap w, Holds Go.Proofs.encStr w b 0 l.toArray → b < w.heap.size → l.length ≤ cap → cap ≤ maxLen →
      Calls P f #[.slice (some ⟨b, 0, none⟩) l.length cap] w fun e w' => e = .returned (R (some ⟨b, 0, none⟩) cap) ∧ ∃ n os, w' = grow (putRow Go.Proofs.encStr (Sort.ahead w n) b 0 (l' ++ tail).toArray) os)
    (hnone : l = [] → ∀ cap w, Calls P f #[.slice none 0 cap] w fun e w' => e = .returned (R none cap) ∧ w' = w) :
    PCB P f [.one (.own pin l.length)] [(pin, .row 1 (l.map Sx.encStr))] r [(pin, .row 1 (l'.map Sx.encStr))] := by
  refine ⟨hent, ?_⟩
  intro M ν w vs hs hreps
  simp only [T.reps, T.rep, Cell.rep] at hreps
  obtain ⟨v1, vs1, rfl, rfl, rfl⟩ := hreps
  have hr := hs.res pin (.row 1 (l.map Sx.encStr)) (by simp)
  simp only [Res.ok, lB] at hr
  obtain ⟨hc1, hc2, hr⟩ := hr
  have hrp := hrep M ν
  rcases hr with ⟨hn, hc0⟩ | ⟨b, c, et, mid, post, hb, hheap, htl, hrows, hcs⟩
  · have hl0 : l = [] := List.length_eq_zero_iff.1 (by omega)
    have hl1 : l' = [] := List.length_eq_zero_iff.1 (by rw [hl0] at hlen; simp at hlen; exact List.length_eq_zero_iff.2 hlen.1)
    have := hnone hl0 (ν pin).cap w
    rw [hl0] at hs ⊢
    rw [hl1]
    rw [hn] at hrp ⊢
    refine Calls.mono this ?_
    rintro e w' ⟨rfl, rfl⟩
    exact ⟨_, M, rfl, Mem.ext.refl _ M, hrp, hs⟩
  · have hrow : mid = l.map Go.Proofs.encStr := repRows_str.1 hrows
    have hblt : b < w.heap.size := (Array.getElem?_eq_some_iff.1 hheap).1
    have hH : Holds Go.Proofs.encStr w b 0 l.toArray := by
      intro j hj
      have hj1 : j < l.length := by simpa using hj
      have hj2 : j < mid.length := by rw [hrow]; simpa using hj1
      refine ⟨?_, by simp [World.frozen?, hheap]⟩
      simp only [World.cell?, hheap, Nat.zero_add, Option.isSome_none, Bool.false_eq_true, if_false]
      rw [← Array.getElem?_toList, htl, List.getElem?_append_left hj2, hrow, List.getElem?_map, List.getElem?_eq_getElem hj1]
      simp [hj1]
    have hcl := hcall b (ν pin).cap w hH hblt hc1 hc2
    rw [hb] at hrp ⊢
    refine Calls.mono hcl ?_
    rintro e w' ⟨rfl, n, os, rfl⟩
    have hDne : ∀ i, i < w.heap.size → i ≠ b → (grow (putRow Go.Proofs.encStr (Sort.ahead w n) b 0 (l' ++ tail).toArray) os).heap[i]? = w.heap[i]? := by
      intro i hi hne
      rw [heap_grow_old _ _ (by show i < (mapBlock _ _ _).heap.size; simp [mapBlock, ahead]; exact hi)]
      exact onCells_otherS _ hne
    have hDb : (grow (putRow Go.Proofs.encStr (Sort.ahead w n) b 0 (l' ++ tail).toArray) os).heap[b]? = some (.cells (putCells Go.Proofs.encStr 0 (l' ++ tail).toArray c) et (0, 0)) := by
      rw [heap_grow_old _ _ (by show b < (mapBlock _ _ _).heap.size; simp [mapBlock, ahead]; exact hblt)]
      exact onCells_atS _ hheap
    have hnew : (putCells Go.Proofs.encStr 0 (l' ++ tail).toArray c).toList = l'.map Go.Proofs.encStr ++ (tail.map Go.Proofs.encStr ++ post) := by
      rw [← List.append_assoc, ← List.map_append]
      have hfs : ((l' ++ tail).map Go.Proofs.encStr).length = mid.length := by rw [hrow]; simp [hlen]
      apply List.ext_getElem?
      intro t
      rw [Array.getElem?_toList]
      unfold putCells
      rw [Array.getElem?_mapIdx]
      have hsz : (l' ++ tail).toArray.size = mid.length := by rw [hrow]; simp [hlen]
      by_cases ht : t < mid.length
      · rw [List.getElem?_append_left (by rw [hfs]; exact ht)]
        have hct : t < c.size := by rw [← Array.length_toList, htl, lA]; omega
        have hta : t < (l' ++ tail).length := by rw [← List.size_toArray, hsz]; exact ht
        rw [Array.getElem?_eq_getElem hct, Option.map_some, if_pos ⟨Nat.zero_le _, by omega⟩, Nat.sub_zero, List.getElem?_map, List.getElem?_eq_getElem hta, getElem!_pos _ t (by simpa using hta)]
        simp
      · rw [List.getElem?_append_right (by rw [hfs]; omega), hfs]
        have : c[t]? = post[t - mid.length]? := by rw [← Array.getElem?_toList, htl, List.getElem?_append_right (by omega)]
        rw [this]
        cases post[t - mid.length]? with
        | none => rfl
        | some y => rw [Option.map_some, if_neg (by omega)]
    have haway := hs.away pin (.row 1 (l.map Sx.encStr)) b (by simp) hb
    have hDin : boxBlocks [(pin, Res.row 1 (l.map Sx.encStr))] ν b := ⟨pin, .row 1 (l.map Sx.encStr), by simp, hb⟩
    refine ⟨_, M, rfl, Mem.ext.refl _ M, hrp, ⟨rfl, rfl, rfl, ?_, ?_, ?_, ?_, ?_, ?_, ?_, by simp⟩⟩
    · show w.drawn ≤ w.drawn + n; omega
    · show w.heap.size ≤ (grow (putRow Go.Proofs.encStr (Sort.ahead w n) b 0 (l' ++ tail).toArray) os).heap.size
      simp [grow, putRow, mapBlock, ahead]
    · intro i hi hD
      exact hDne i hi (fun e => hD (by rw [e]; exact hDin))
    · intro i o ho
      have h1 := hs.fro i o ho
      have hi : i < w.heap.size := (Array.getElem?_eq_some_iff.1 h1).1
      have hne : i ≠ b := by intro e; subst e; rw [haway.1] at ho; cases ho
      rw [hDne i hi hne]; exact h1
    · intro j r hm
      simp only [lN, Prod.mk.injEq] at hm
      obtain ⟨rfl, rfl⟩ := hm
      simp only [Res.ok, lB]
      refine ⟨by omega, hc2, .inr ⟨b, _, et, l'.map Go.Proofs.encStr, _, hb, hDb, hnew, repRows_str.2 rfl, ?_⟩⟩
      rw [← hcs]; simp [putCells]
    · intro j r i hm hi
      simp only [lN, Prod.mk.injEq] at hm
      obtain ⟨rfl, rfl⟩ := hm
      exact hs.away pin (.row 1 (l.map Sx.encStr)) i (by simp) hi
    · intro j r j' r' i hm hm' _ _
      simp only [lN, Prod.mk.injEq] at hm hm'
      rw [hm.1, hm'.1]
theorem sortStr_c {ρ : Go.Shelf.Ren} (L : SlLaysM.n6 P ρ) (l : List (List UInt8)) (hsz : l.length < 4611686018427387904) :
    PCB P (ρ.f 6) [.one (.own pin l.length)] [(pin, .row 1 (l.map Sx.encStr))] (.tup []) [(pin, .row 1 ((l.mergeSort fun x y => decide (x ≤ y)).map Sx.encStr))] := by
  have hent : Ent P (ρ.f 6) := by
    obtain ⟨nm, hn, hf⟩ := L.f6
    exact ⟨_, hf, hn, rfl⟩
  refine str_row_c hent l _ [] (by simp [List.length_mergeSort]) _ (fun _ _ => .tuple #[]) (fun M ν => by simp [T.rep, T.reps]) (fun b cap w hH hb _ _ => ?_) (fun hl cap w => ?_)
  · rw [List.append_nil]
    exact AnyM.slices_Sort_string L b 0 cap l w hH hb hsz
  · exact AnyM.slices_Sort_string_none L none cap w
theorem comp_len (zs : List (List UInt8)) : (Lib.compact zs).length ≤ zs.length := by
 unfold Lib.compact Lib.compactUpTo
 rw [lB]
 exact Nat.le_trans (List.length_filter_le _ _) (by simp)
theorem compactStr_c {ρ : Go.Shelf.Ren} (L : SlLaysN.n44 P ρ) (l : List (List UInt8)) :
    PCB P (ρ.f 44) [.one (.own pin l.length)] [(pin, .row 1 (l.map Sx.encStr))] (.one (.own pin (Lib.compact l).length)) [(pin, .row 1 ((Lib.compact l).map Sx.encStr))] := by
  have hent : Ent P (ρ.f 44) := by
    obtain ⟨nm, hn, hf⟩ := L.f44
    exact ⟨_, hf, hn, rfl⟩
  have hle := comp_len l
  refine str_row_c hent l _ (List.replicate (l.length - (Lib.compact l).length) []) (by simp; omega) _ (fun a cap => .slice a (Lib.compact l).length cap) (fun M ν => by simp only [T.rep, Cell.rep]) (fun b cap w hH hb hc hm => ?_) (fun hl cap w => ?_)
  · refine Calls.mono (AnyG.slices_Compact_string L b 0 cap l w hH (Nat.le_trans hc hm) hc) ?_
    rintro e w' ⟨rfl, q, rfl⟩
    exact ⟨rfl, q, #[], by simp⟩
  · subst hl
    exact AnyG.slices_Compact_string_empty L none cap w
theorem PCBk.own1 {f : FuncId} {sz : Nat} {rows rows' : List (List C)} {m : Nat} (k : Nat) (h : PCB P f [.one (.own pin m)] [(pin, .row sz rows)] (.tup []) [(pin, .row sz rows')]) :
    PCBk P f [.one (.own k m)] k (.row sz rows) (.tup []) (.row sz rows') := PCBk.mk k h
theorem PCBk.own2 {f : FuncId} {sz : Nat} {rows rows' : List (List C)} {m m' : Nat} (k : Nat) (h : PCB P f [.one (.own pin m)] [(pin, .row sz rows)] (.one (.own pin m')) [(pin, .row sz rows')]) :
    PCBk P f [.one (.own k m)] k (.row sz rows) (.one (.own k m')) (.row sz rows') := PCBk.mk k h
end Go.Sx
namespace Go.Proofs.YtajfdbdklphonaaGreat
open Go Go.Sx
theorem less_eq (x y : List UInt8) : Op.bytesLess x y = decide (x < y) := Go.Proofs.bytesLess_eq x y
theorem strict_ext : ∀ a b : List (List UInt8), a.Pairwise (· < ·) → b.Pairwise (· < ·) → (∀ x, x ∈ a ↔ x ∈ b) → a = b
 | [], b, _, _, h => by
  cases b with
  | nil => rfl
  | cons y b => have := (h y).2 (by simp); simp at this
 | x :: a, [], _, _, h => by have := (h x).1 (by simp); simp at this
 | x :: a, y :: b, ha, hb, h => by
  rw [List.pairwise_cons] at ha hb
  have hxy : x = y := by
   rcases List.mem_cons.1 ((h x).1 (by simp)) with e | h1
   ·exact e
   ·rcases List.mem_cons.1 ((h y).2 (by simp)) with e | h2
    ·exact e.symm
    ·exact absurd (hb.1 x h1) (List.lt_asymm (ha.1 y h2))
  subst hxy
  congr 1
  refine strict_ext a b ha.2 hb.2 fun z => ⟨fun hz => ?_, fun hz => ?_⟩
  ·rcases List.mem_cons.1 ((h z).1 (List.mem_cons_of_mem _ hz)) with e | hz'
   ·subst e; exact absurd (ha.1 z hz) (List.lt_irrefl z)
   ·exact hz'
  ·rcases List.mem_cons.1 ((h z).2 (List.mem_cons_of_mem _ hz)) with e | hz'
   ·subst e; exact absurd (hb.1 z hz) (List.lt_irrefl z)
   ·exact hz'
theorem tw_all {α : Type} (p : α → Bool) : ∀ l : List α, ∀ x ∈ l.take (tw p l), p x = true
 | [], x, h => by simp [tw] at h
 | y :: l, x, h => by
  simp only [tw] at h
  cases hp : p y
  ·rw [hp] at h; simp at h
  ·rw [hp, cT, Nat.add_comm, List.take_succ_cons] at h
   rcases List.mem_cons.1 h with rfl | h
   ·exact hp
   ·exact tw_all p l x h
theorem tw_next {α : Type} (p : α → Bool) : ∀ (l : List α) (y : α), l[tw p l]? = some y → p y = false
 | [], y, h => by simp at h
 | z :: l, y, h => by
  simp only [tw] at h
  cases hp : p z
  ·rw [hp] at h; simp at h; subst h; exact hp
  ·rw [hp, cT, Nat.add_comm, List.getElem?_cons_succ] at h
   exact tw_next p l y h
theorem ins_mem (s : List (List UInt8)) (x z : List UInt8) : z ∈ insS s x ↔ z = x ∨ z ∈ s := by
 unfold insS
 cases h : decide (s[tw (fun y => Op.bytesLess y x) s]? = some x) <;> simp only [cT, cF]
 ·unfold putAt
  have : z ∈ s ↔ z ∈ s.take (tw (fun y => Op.bytesLess y x) s) ∨ z ∈ s.drop (tw (fun y => Op.bytesLess y x) s) := by rw [← List.mem_append, List.take_append_drop]
  rw [List.mem_append, List.mem_append, this]
  simp only [lN]
  constructor
  ·rintro ((h | h) | h)
   ·exact .inr (.inl h)
   ·exact .inl h
   ·exact .inr (.inr h)
  ·rintro (h | h | h)
   ·exact .inl (.inr h)
   ·exact .inl (.inl h)
   ·exact .inr h
 ·have hm : x ∈ s := lP (of_decide_eq_true h)
  constructor
  ·exact .inr
  ·rintro (rfl | h)
   ·exact hm
   ·exact h
theorem ins_strict (s : List (List UInt8)) (x : List UInt8) (hs : s.Pairwise (· < ·)) : (insS s x).Pairwise (· < ·) := by
 unfold insS
 cases h : decide (s[tw (fun y => Op.bytesLess y x) s]? = some x) <;> simp only [cT, cF]
 ·have ht := tw_all (fun y => Op.bytesLess y x) s
  have hn := tw_next (fun y => Op.bytesLess y x) s
  generalize tw (fun y => Op.bytesLess y x) s = k at *
  have hsp : (s.take k ++ s.drop k).Pairwise (· < ·) := by rw [List.take_append_drop]; exact hs
  rw [List.pairwise_append] at hsp
  obtain ⟨h1, h2, h3⟩ := hsp
  have hx1 : ∀ y ∈ s.take k, y < x := fun y hy => by have := ht y hy; rw [less_eq] at this; exact of_decide_eq_true this
  have hx2 : ∀ y ∈ s.drop k, x < y := by
   cases hd : s.drop k with
   | nil => intro y hy; cases hy
   | cons z t =>
    have hz : s[k]? = some z := by
     have := List.getElem?_drop (xs := s) (i := k) (j := 0)
     rw [hd] at this; simpa using this.symm
    have hzx : ¬ z < x := by have := hn z hz; rw [less_eq] at this; exact of_decide_eq_false this
    have hne : z ≠ x := by intro e; subst e; rw [hz] at h; simp at h
    have hxz : x < z := by
     rcases Classical.em (x < z) with hq | hq
     ·exact hq
     ·exact absurd (List.le_antisymm (List.not_lt.1 hq) (List.not_lt.1 hzx)) hne
    rw [hd, List.pairwise_cons] at h2
    intro y hy
    rcases List.mem_cons.1 hy with rfl | hy
    ·exact hxz
    ·exact List.lt_trans hxz (h2.1 y hy)
  unfold putAt
  rw [List.append_assoc, List.pairwise_append]
  refine ⟨h1, ?_, ?_⟩
  ·rw [List.singleton_append, List.pairwise_cons]
   exact ⟨hx2, h2⟩
  ·intro a ha b hb
   rw [List.singleton_append] at hb
   rcases List.mem_cons.1 hb with rfl | hb
   ·exact hx1 a ha
   ·exact h3 a ha b hb
 ·exact hs
theorem sortedV_spec (l : List (List UInt8)) : (sortedV l).Pairwise (· < ·) ∧ ∀ z, z ∈ sortedV l ↔ z ∈ l := by
 have : ∀ (l s : List (List UInt8)), s.Pairwise (· < ·) → (l.foldl insS s).Pairwise (· < ·) ∧ ∀ z, z ∈ l.foldl insS s ↔ z ∈ s ∨ z ∈ l := by
  intro l
  induction l with
  | nil => intro s hs; exact ⟨hs, fun z => by simp⟩
  | cons x l ih =>
   intro s hs
   obtain ⟨h1, h2⟩ := ih (insS s x) (ins_strict s x hs)
   refine ⟨h1, fun z => ?_⟩
   rw [List.foldl_cons, h2, ins_mem]
   simp only [List.mem_cons]
   constructor
   ·rintro ((h | h) | h)
    ·exact .inr (.inl h)
    ·exact .inl h
    ·exact .inr (.inr h)
   ·rintro (h | h | h)
    ·exact .inl (.inr h)
    ·exact .inl (.inl h)
    ·exact .inr h
 obtain ⟨h1, h2⟩ := this l [] List.Pairwise.nil
 exact ⟨h1, fun z => by unfold sortedV; rw [h2]; simp⟩
theorem compact_spec (d : Array (List UInt8)) (hd : ∀ i j, i < j → j < d.size → d[i]! ≤ d[j]!) : ∀ m, m ≤ d.size →
    (Lib.compactUpTo d m).Pairwise (· < ·) ∧ (∀ z, z ∈ Lib.compactUpTo d m ↔ ∃ j, j < m ∧ d[j]! = z) := by
  intro m
  induction m with
  | zero => intro _; exact ⟨by simp [Lib.compactUpTo], fun z => by simp [Lib.compactUpTo]⟩
  | succ m ih =>
    intro hm
    obtain ⟨h1, h2⟩ := ih (by omega)
    rw [Lib.compactUpTo_succ]
    by_cases hk : Lib.keeps d m = true
    · rw [if_pos hk]
      refine ⟨?_, fun z => ?_⟩
      · rw [List.pairwise_append]
        refine ⟨h1, by simp, fun a ha b hb => ?_⟩
        simp only [lN] at hb
        subst hb
        obtain ⟨j, hj, rfl⟩ := (h2 a).1 ha
        have hm0 : m ≠ 0 := by omega
        have hne : d[m]! ≠ d[m - 1]! := by
          unfold Lib.keeps at hk
          rcases of_decide_eq_true hk with h | h
          · exact absurd h hm0
          · exact h
        have hle : d[m - 1]! ≤ d[m]! := hd (m - 1) m (by omega) (by omega)
        have hlt : d[m - 1]! < d[m]! := by
          rcases Classical.em (d[m - 1]! < d[m]!) with hq | hq
          · exact hq
          · exact absurd (List.le_antisymm (List.not_lt.1 hq) hle) hne
        rcases Nat.lt_or_ge j (m - 1) with hj2 | hj2
        · have h3 := hd j (m - 1) hj2 (by omega)
          rcases Classical.em (d[j]! < d[m]!) with hq | hq
          · exact hq
          · exact absurd (List.le_trans (List.not_lt.1 hq) h3) (List.not_le.2 hlt)
        · have : j = m - 1 := by omega
          rw [this]; exact hlt
      · rw [List.mem_append, h2]
        simp only [lN]
        constructor
        · rintro (⟨j, hj, rfl⟩ | rfl)
          · exact ⟨j, by omega, rfl⟩
          · exact ⟨m, by omega, rfl⟩
        · rintro ⟨j, hj, rfl⟩
          rcases Nat.lt_or_ge j m with h | h
          · exact .inl ⟨j, h, rfl⟩
          · have : j = m := by omega
            rw [this]; exact .inr rfl
    · rw [if_neg hk, List.append_nil]
      refine ⟨h1, fun z => ?_⟩
      rw [h2]
      constructor
      · rintro ⟨j, hj, rfl⟩; exact ⟨j, by omega, rfl⟩
      · rintro ⟨j, hj, rfl⟩
        rcases Nat.lt_or_ge j m with h | h
        · exact ⟨j, h, rfl⟩
        · have e : j = m := by omega
          subst e
          have hkn : ¬ (j = 0 ∨ d[j]! ≠ d[j - 1]!) := fun hh => hk (decide_eq_true hh)
          have h0 : j ≠ 0 := fun hh => hkn (.inl hh)
          have he : d[j]! = d[j - 1]! := Classical.byContradiction fun hh => hkn (.inr hh)
          exact ⟨j - 1, by omega, he.symm⟩
theorem compact_sort (l : List (List UInt8)) : Lib.compact (l.mergeSort fun x y => decide (x ≤ y)) = sortedV l := by
  have hsort := List.pairwise_mergeSort (le := fun x y : List UInt8 => decide (x ≤ y)) (fun a b c h k => by
      simp only [decide_eq_true_eq] at *; exact List.le_trans h k) (fun a b => by
      simp only [Bool.or_eq_true, decide_eq_true_eq]; exact List.le_total a b) l
  have hperm := List.mergeSort_perm l (fun x y => decide (x ≤ y))
  generalize l.mergeSort (fun x y => decide (x ≤ y)) = s at *
  have hd : ∀ i j, i < j → j < s.toArray.size → s.toArray[i]! ≤ s.toArray[j]! := by
    intro i j hij hj
    have hj' : j < s.length := by simpa using hj
    have := List.pairwise_iff_getElem.1 hsort i j (by omega) hj' hij
    rw [getElem!_pos _ i (by simp; omega), getElem!_pos _ j hj]
    simpa using this
  obtain ⟨h1, h2⟩ := compact_spec s.toArray hd s.length (by simp)
  obtain ⟨h3, h4⟩ := sortedV_spec l
  refine strict_ext _ _ h1 h3 fun z => ?_
  show z ∈ Lib.compactUpTo s.toArray s.length ↔ _
  rw [h2, h4, ← hperm.mem_iff]
  constructor
  · rintro ⟨j, hj, rfl⟩
    rw [getElem!_pos _ j (by simpa using hj)]
    simp
  · intro hz
    obtain ⟨j, hj, rfl⟩ := List.mem_iff_getElem.1 hz
    exact ⟨j, hj, by rw [getElem!_pos _ j (by simpa using hj)]; simp⟩
end Go.Proofs.YtajfdbdklphonaaGreat
namespace Go.Proofs
open Go.Shelf
def Tryz.sortS_ren : Go.Shelf.Ren := ⟨fun | 6 => 47 | 8 => 85 | 9 => 84 | 19 => 120 | 20 => 121 | 21 => 111 | 22 => 112 | 23 => 113 | 24 => 114 | 25 => 115 | 26 => 116 | 27 => 117 | 28 => 118 | 29 => 119 | 36 => 152 | 31 => 153 | 32 => 154 | 37 => 155 | 38 => 156 | 39 => 157 | 41 => 178 | n => n, fun | 27 => 43 | 29 => 9 | 3 => 3 | 32 => 44 | 26 => 43 | 0 => 0 | 44 => 160 | 46 => 162 | 4 => 4 | 36 => 152 | 35 => 151 | 41 => 157 | 5 => 5 | 9 => 9 | 53 => 177 | 57 => 181 | 63 => 194 | 64 => 195 | n => n, fun | n => n⟩
theorem Tryz.sortS : Go.Proofs.SlLaysM.n6 zP Tryz.sortS_ren := {
 mixed := by kernel_rfl,
 f6 := ⟨"slices.Sort[[]string,string]", by decide, Tryz.func47.trans (congrArg some (by kernel_rfl))⟩,
 f8 := Tryz.func85.trans (congrArg some (by kernel_rfl)),
 f9 := ⟨"slices.pdqsortOrdered[string]", by decide, Tryz.func84.trans (congrArg some (by kernel_rfl))⟩,
 f19 := Tryz.func120.trans (congrArg some (by kernel_rfl)),
 f20 := Tryz.func121.trans (congrArg some (by kernel_rfl)),
 f21 := ⟨"slices.insertionSortOrdered[string]", by decide, Tryz.func111.trans (congrArg some (by kernel_rfl))⟩,
 f22 := ⟨"slices.heapSortOrdered[string]", by decide, Tryz.func112.trans (congrArg some (by kernel_rfl))⟩,
 f23 := ⟨"slices.breakPatternsOrdered[string]", by decide, Tryz.func113.trans (congrArg some (by kernel_rfl))⟩,
 f24 := ⟨"slices.choosePivotOrdered[string]", by decide, Tryz.func114.trans (congrArg some (by kernel_rfl))⟩,
 f25 := ⟨"slices.reverseRangeOrdered[string]", by decide, Tryz.func115.trans (congrArg some (by kernel_rfl))⟩,
 f26 := ⟨"slices.partialInsertionSortOrdered[string]", by decide, Tryz.func116.trans (congrArg some (by kernel_rfl))⟩,
 f27 := ⟨"cmp.Less[string]", by decide, Tryz.func117.trans (congrArg some (by kernel_rfl))⟩,
 f28 := ⟨"slices.partitionEqualOrdered[string]", by decide, Tryz.func118.trans (congrArg some (by kernel_rfl))⟩,
 f29 := ⟨"slices.partitionOrdered[string]", by decide, Tryz.func119.trans (congrArg some (by kernel_rfl))⟩,
 f31 := Tryz.func153.trans (congrArg some (by kernel_rfl)),
 f32 := Tryz.func154.trans (congrArg some (by kernel_rfl)),
 f36 := ⟨"slices.siftDownOrdered[string]", by decide, Tryz.func152.trans (congrArg some (by kernel_rfl))⟩,
 f37 := ⟨"slices.medianAdjacentOrdered[string]", by decide, Tryz.func155.trans (congrArg some (by kernel_rfl))⟩,
 f38 := ⟨"slices.medianOrdered[string]", by decide, Tryz.func156.trans (congrArg some (by kernel_rfl))⟩,
 f39 := ⟨"cmp.isNaN[string]", by decide, Tryz.func157.trans (congrArg some (by kernel_rfl))⟩,
 f41 := ⟨"slices.order2Ordered[string]", by decide, Tryz.func178.trans (congrArg some (by kernel_rfl))⟩,
 t0 := Tryz.underlying0,
 a0 := Tryz.isAgg0,
 z0 := Tryz.sizeOf0,
 v0 := Tryz.zeroValue0,
 t3 := Tryz.underlying3,
 a3 := Tryz.isAgg3,
 z3 := Tryz.sizeOf3,
 v3 := Tryz.zeroValue3,
 t4 := Tryz.underlying4,
 a4 := Tryz.isAgg4,
 z4 := Tryz.sizeOf4,
 v4 := Tryz.zeroValue4,
 t5 := Tryz.underlying5,
 a5 := Tryz.isAgg5,
 z5 := Tryz.sizeOf5,
 v5 := Tryz.zeroValue5,
 t9 := Tryz.underlying9,
 a9 := Tryz.isAgg9,
 z9 := Tryz.sizeOf9,
 v9 := Tryz.zeroValue9,
 t26 := Tryz.underlying43,
 a26 := Tryz.isAgg43,
 z26 := Tryz.sizeOf43,
 v26 := Tryz.zeroValue43,
 t27 := Tryz.underlying43,
 a27 := Tryz.isAgg43,
 z27 := Tryz.sizeOf43,
 v27 := Tryz.zeroValue43,
 t29 := Tryz.underlying9,
 a29 := Tryz.isAgg9,
 z29 := Tryz.sizeOf9,
 v29 := Tryz.zeroValue9,
 t32 := Tryz.underlying44,
 a32 := Tryz.isAgg44,
 z32 := Tryz.sizeOf44,
 v32 := Tryz.zeroValue44,
 t35 := Tryz.underlying151,
 a35 := Tryz.isAgg151,
 z35 := Tryz.sizeOf151,
 v35 := Tryz.zeroValue151,
 t36 := Tryz.underlying152,
 a36 := Tryz.isAgg152,
 z36 := Tryz.sizeOf152,
 v36 := Tryz.zeroValue152,
 t41 := Tryz.underlying157,
 a41 := Tryz.isAgg157,
 z41 := Tryz.sizeOf157,
 v41 := Tryz.zeroValue157,
 t44 := Tryz.underlying160,
 a44 := Tryz.isAgg160,
 z44 := Tryz.sizeOf160,
 v44 := Tryz.zeroValue160,
 t46 := Tryz.underlying162,
 a46 := Tryz.isAgg162,
 z46 := Tryz.sizeOf162,
 v46 := Tryz.zeroValue162,
 t53 := Tryz.underlying177,
 a53 := Tryz.isAgg177,
 z53 := Tryz.sizeOf177,
 v53 := Tryz.zeroValue177,
 t57 := Tryz.underlying181,
 a57 := Tryz.isAgg181,
 z57 := Tryz.sizeOf181,
 v57 := Tryz.zeroValue181,
 t63 := Tryz.underlying194,
 a63 := Tryz.isAgg194,
 z63 := Tryz.sizeOf194,
 v63 := Tryz.zeroValue194,
 t64 := Tryz.underlying195,
 a64 := Tryz.isAgg195,
 z64 := Tryz.sizeOf195,
 v64 := Tryz.zeroValue195 }
def Tryz.compS_ren : Go.Shelf.Ren := ⟨fun | 44 => 78 | n => n, fun | 25 => 43 | 26 => 9 | 3 => 3 | 4 => 4 | 0 => 0 | n => n, fun | n => n⟩
theorem Tryz.compS : Go.Proofs.SlLaysN.n44 zP Tryz.compS_ren := {
 mixed := by kernel_rfl,
 f44 := ⟨"slices.Compact[[]string,string]", by decide, Tryz.func78.trans (congrArg some (by kernel_rfl))⟩,
 t0 := Tryz.underlying0,
 a0 := Tryz.isAgg0,
 z0 := Tryz.sizeOf0,
 v0 := Tryz.zeroValue0,
 t3 := Tryz.underlying3,
 a3 := Tryz.isAgg3,
 z3 := Tryz.sizeOf3,
 v3 := Tryz.zeroValue3,
 t4 := Tryz.underlying4,
 a4 := Tryz.isAgg4,
 z4 := Tryz.sizeOf4,
 v4 := Tryz.zeroValue4,
 t25 := Tryz.underlying43,
 a25 := Tryz.isAgg43,
 z25 := Tryz.sizeOf43,
 v25 := Tryz.zeroValue43,
 t26 := Tryz.underlying9,
 a26 := Tryz.isAgg9,
 z26 := Tryz.sizeOf9,
 v26 := Tryz.zeroValue9,
 i26 := by kernel_rfl }
end Go.Proofs
set_option maxRecDepth 20000
set_option maxHeartbeats 16000000
namespace Go.Proofs.YtajfdbdklphonaaGreat
open Go Go.Sx
def dupP (g : Pat) : Bool := decide (((sortedV (collP g)).length : Int) < ((collP g).length : Int))
def okP (g : Pat) : Bool := !decide ((40 : Int) < (cntP g : Int)) && (treeP g && !dupP g)
def codeP (g : Pat) : Int := bif decide ((40 : Int) < (cntP g : Int)) then 2 else bif treeP g then (bif dupP g then 6 else 0) else 1
theorem codeP_ok (g : Pat) : decide (codeP g = 0) = okP g := by
 unfold codeP okP
 cases decide ((40 : Int) < (cntP g : Int)) <;> cases treeP g <;> cases dupP g <;> rfl
theorem validateP_c (g : Pat) (hg : PSm g) : PC zP 72 [Pt g] (I .i64 (codeP g)) := by
 have h1 := count_p g hg
 have h2 := validTreeP_c g
 cases hz : decide ((40 : Int) < (cntP g : Int))
 case true =>
  refine PCB.ob Tryz.func72 Tryz.ntmps72 Tryz.results72 ?_
  repeat' (first | (simp only [go_sem, D, E, H, J, N, O, U, reduceCtorEq, V, W, Y, Z, zL, hz] <;> refine nf ?_) | (refine stp ?_; intro K hK) | (apply hK; clear hK K) | refine stn ?_ | (with_reducible refine ⟨_, h1, ?_⟩) | refine stq ?_ | (clear hK K))
  all_goals (first | exact lf | (refine fin0 ?_; simp only [codeP, hz, zb, cT, cF, dT, dF] <;> rfl))
 cases ht : treeP g <;> rw [ht] at h2
 case false =>
  refine PCB.ob Tryz.func72 Tryz.ntmps72 Tryz.results72 ?_
  repeat' (first | (simp only [go_sem, D, E, H, J, N, O, U, reduceCtorEq, V, W, Y, Z, zL, hz] <;> refine nf ?_) | (refine stp ?_; intro K hK) | (apply hK; clear hK K) | refine stn ?_ | (with_reducible first | refine ⟨_, h1, ?_⟩ | refine ⟨_, h2, ?_⟩) | refine stq ?_ | (clear hK K))
  all_goals (first | exact lf | (refine fin0 ?_; simp only [codeP, hz, ht, zb, cT, cF, dT, dF] <;> rfl))
 have h3 := collectP_n g hg
 have h3c := collectP_c g hg
 have hl : (collP g).length ≤ 100000000 := Nat.le_trans (collP_len _) hg
 have h4 : PCBk zP 47 [.one (.own 11 (collP g).length)] 11 (.row 1 ((collP g).map Sx.encStr)) (.tup []) (.row 1 (((collP g).mergeSort fun x y => decide (x ≤ y)).map Sx.encStr)) :=
  PCBk.own1 11 (sortStr_c Go.Proofs.Tryz.sortS (collP g) (by omega))
 have h5 : PCBk zP 78 [.one (.own 11 (collP g).length)] 11 (.row 1 (((collP g).mergeSort fun x y => decide (x ≤ y)).map Sx.encStr)) (.one (.own 11 (sortedV (collP g)).length)) (.row 1 ((sortedV (collP g)).map Sx.encStr)) := by
  have h := compactStr_c Go.Proofs.Tryz.compS ((collP g).mergeSort fun x y => decide (x ≤ y))
  rw [compact_sort, List.length_mergeSort] at h
  exact PCBk.own2 11 h
 cases hd : dupP g
 all_goals
  have hd' := hd
  unfold dupP at hd'
  refine PCB.ob Tryz.func72 Tryz.ntmps72 Tryz.results72 ?_
  repeat' (first | (simp only [go_sem, D, E, H, J, N, O, U, reduceCtorEq, V, W, Y, Z, zL, lB, hz, hd'] <;> refine nf ?_) | (refine stp ?_; intro K hK) | (apply hK; clear hK K) | refine stn ?_ | (with_reducible first | refine ⟨_, h1, ?_⟩ | refine ⟨_, h2, ?_⟩ | refine Or.inr (Or.inl ⟨_, _, h3, ?_⟩) | refine ⟨_, h3c, ?_⟩) | (apply Or.inr; refine ⟨11, _, _, _, h4, rfl, ?_⟩; simp only [go_sem, D, E, H, J, N, O, U, reduceCtorEq, V, W, Y, Z, zL]) | (apply Or.inr; refine ⟨11, _, _, _, h5, rfl, ?_⟩; simp only [go_sem, D, E, H, J, N, O, U, reduceCtorEq, V, W, Y, Z, zL]) | (with_reducible refine xA (id := 7) [1] [11] mixed (by kernel_rfl) fun K hK => ?_; simp only [Bx.outs, Bx.drop, cT, cF, Nat.reduceBEq, go_sem]) | refine stq ?_ | (clear hK K))
  all_goals (first | exact lf | (refine fin0 ?_; simp only [codeP, hz, ht, hd, zb, cT, cF, dT, dF] <;> rfl))
theorem refValidateP_c (g : Pat) (hg : PSm g) : PC zP 51 [Pt g] (I .i64 (codeP g)) := by
 have h1 := patterns_c g hg
 have h2 := goodPattern_c g
 cases hz : decide ((40 : Int) < (cntP g : Int))
 case true =>
  refine PCB.ob Tryz.func51 Tryz.ntmps51 Tryz.results51 ?_
  repeat' (first | (simp only [go_sem, D, E, H, J, N, O, U, reduceCtorEq, V, W, Y, Z, zL, hz] <;> refine nf ?_) | (refine stp ?_; intro K hK) | (apply hK; clear hK K) | refine stn ?_ | (with_reducible refine ⟨_, h1, ?_⟩) | refine stq ?_ | (clear hK K))
  all_goals (first | exact lf | (refine fin0 ?_; simp only [codeP, hz, zb, cT, cF, dT, dF] <;> rfl))
 cases ht : treeP g <;> rw [ht] at h2
 case false =>
  refine PCB.ob Tryz.func51 Tryz.ntmps51 Tryz.results51 ?_
  repeat' (first | (simp only [go_sem, D, E, H, J, N, O, U, reduceCtorEq, V, W, Y, Z, zL, hz] <;> refine nf ?_) | (refine stp ?_; intro K hK) | (apply hK; clear hK K) | refine stn ?_ | (with_reducible first | refine ⟨_, h1, ?_⟩ | refine ⟨_, h2, ?_⟩) | refine stq ?_ | (clear hK K))
  all_goals (first | exact lf | (refine fin0 ?_; simp only [codeP, hz, ht, zb, cT, cF, dT, dF] <;> rfl))
 have h3 := occurrences_c g hg
 have hcl := collP_len g
 have h4 := sorted_c (collP g) (by simp only [decide_eq_false_iff_not] at hz; omega)
 cases hd : dupP g
 all_goals
  have hd' := hd
  unfold dupP at hd'
  refine PCB.ob Tryz.func51 Tryz.ntmps51 Tryz.results51 ?_
  repeat' (first | (simp only [go_sem, D, E, H, J, N, O, U, reduceCtorEq, V, W, Y, Z, zL, lB, hz, hd'] <;> refine nf ?_) | (refine stp ?_; intro K hK) | (apply hK; clear hK K) | refine stn ?_ | (with_reducible first | refine ⟨_, h1, ?_⟩ | refine ⟨_, h2, ?_⟩ | refine ⟨_, h3, ?_⟩ | refine ⟨_, h4, ?_⟩) | refine stq ?_ | (clear hK K))
  all_goals (first | exact lf | (refine fin0 ?_; simp only [codeP, hz, ht, hd, zb, cT, cF, dT, dF] <;> rfl))
def anyP : Pat := ⟨1, 0, [], [], []⟩
theorem anyP_lit : Pt anyP = .st [.int .i64 1, .int .i64 0, .str [], .sl 5 [], .sl 2 []] := by rw [show Pt anyP = T.st (encP anyP) from rfl, encP_eq]; rfl
def soundP (g : Pat) : Pat := bif okP g then g else anyP
theorem soundP_c (g : Pat) (hg : PSm g) : PC zP 40 [Pt g] (Pt (soundP g)) := by
 have h1 := validateP_c g hg
 have hc := codeP_ok g
 unfold soundP
 refine PCB.ob Tryz.func40 Tryz.ntmps40 Tryz.results40 ?_
 cases hz : okP g <;> rw [hz] at hc
 all_goals
  repeat' (first | (simp only [go_sem, D, E, H, J, N, O, U, reduceCtorEq, V, W, Y, Z, zL, hc] <;> refine nf ?_) | (refine stp ?_; intro K hK) | (apply hK; clear hK K) | refine stn ?_ | (with_reducible refine ⟨_, h1, ?_⟩) | refine stq ?_ | (clear hK K))
 all_goals (first | exact nn | refine fin0 ?_)
 all_goals (simp only [cT, cF, anyP_lit]; try rfl)
theorem taken_c (g : Pat) (hg : PSm g) : PC zP 25 [Pt g] (Pt (soundP g)) := by
 have h1 := refValidateP_c g hg
 have hc := codeP_ok g
 unfold soundP
 refine PCB.ob Tryz.func25 Tryz.ntmps25 Tryz.results25 ?_
 cases hz : okP g <;> rw [hz] at hc
 all_goals
  repeat' (first | (simp only [go_sem, D, E, H, J, N, O, U, reduceCtorEq, V, W, Y, Z, zL, hc] <;> refine nf ?_) | (refine stp ?_; intro K hK) | (apply hK; clear hK K) | refine stn ?_ | (with_reducible refine ⟨_, h1, ?_⟩) | refine stq ?_ | (clear hK K))
 all_goals (first | exact nn | refine fin0 ?_)
 all_goals (simp only [cT, cF, anyP_lit]; try rfl)
theorem anyP_ok : okP anyP = true := by
 have h1 : cntP anyP = 1 := by rw [cntP_eq]; rfl
 have h2 : treeP anyP = true := by rw [treeP_eq]; rfl
 have h3 : collP anyP = [] := by rw [collP_eq]; rfl
 unfold okP dupP; rw [h1, h2, h3]; rfl
theorem soundP_ok (g : Pat) : okP (soundP g) = true := by
 unfold soundP
 cases hz : okP g
 ·exact anyP_ok
 ·exact hz
theorem okP_cnt {g : Pat} (h : okP g = true) : cntP g ≤ 40 := by
 unfold okP at h; simp only [Bool.and_eq_true, Bool.not_eq_true', decide_eq_false_iff_not] at h; omega
theorem okP_tree {g : Pat} (h : okP g = true) : treeP g = true := by
 unfold okP at h; simp only [Bool.and_eq_true] at h; exact h.2.1
theorem okP_dup {g : Pat} (h : okP g = true) : (collP g).length ≤ (sortedV (collP g)).length := by
 unfold okP dupP at h; simp only [Bool.and_eq_true, Bool.not_eq_true', decide_eq_false_iff_not] at h; omega
end Go.Proofs.YtajfdbdklphonaaGreat