/- A part of the proof: lemmas about the walk of the program and about plain integers and lists. No conditions beyond those that each lemma states. -/
import Derived.Test.YteobojeemflggaaGreatPv6
import Derived.Shelf.SortM.Plain
import Derived.Shelf.SortM.SortNone
import Derived.Shelf.SlicesG.CompactS
import Derived.Test.YteobojeemflggaaGreatPv13
import Derived.Test.YteobojeemflggaaGreatProg
import Derived.Test.YteobojeemflggaaGreatPv9
import Derived.Test.YteobojeemflggaaGreatPv3
set_option linter.unusedVariables false
set_option linter.unusedSimpArgs false
namespace Go.Sx
open Go.Proofs Go.Sort
variable {P : Program}
theorem repRows_str {M : Mem} : ∀ {l : List (List UInt8)} {vs : List Value}, repRows M 1 (l.map Sx.encStr) vs ↔ vs = l.map Go.Proofs.encStr
  | [], vs => by simp [repRows]
  | x :: l, vs => by
    simp only [List.map_cons, repRows, repRows_str (l := l)]
    constructor
    · rintro ⟨v1, v2, e, _, h1, h2⟩
      simp only [Sx.encStr, repRow, C.rep] at h1
      obtain ⟨v, vs', e1, e2, e3⟩ := h1
      subst e1; subst e2; subst e3; subst h2
      exact e
    · intro e
      refine ⟨[Go.Proofs.encStr x], _, e, rfl, ?_, rfl⟩
      simp only [Sx.encStr, repRow, C.rep]
      exact ⟨_, [], rfl, rfl, rfl⟩
theorem onCells_atS {w : World} {b : Nat} {c : Array Value} {et : TypeId} {fz : Nat × Nat} (f : Array Value → Array Value) (h : w.heap[b]? = some (.cells c et fz)) : (mapBlock w b f).heap[b]? = some (.cells (f c) et fz) := by
  unfold mapBlock
  simp [Array.getElem?_modify, h, onCells]
theorem onCells_otherS {w : World} {b i : Nat} (f : Array Value → Array Value) (h : i ≠ b) : (mapBlock w b f).heap[i]? = w.heap[i]? := by
  unfold mapBlock
  simp [Array.getElem?_modify, Ne.symm h]
/-- a function that turns a row of strings -/
theorem str_row_c {f : FuncId} (hent : Ent P f) (l l' tail : List (List UInt8)) (hlen : l'.length + tail.length = l.length) (r : T) (R : Option Addr → Nat → Value)
    (hrep : ∀ M ν, r.rep M ν (R ((ν pin).blk.map fun b => ⟨b, 0, none⟩) (ν pin).cap))
    (hcall : ∀ b cap w, Holds Go.Proofs.encStr w b 0 l.toArray → b < w.heap.size → l.length ≤ cap → cap ≤ maxLen →
      Calls P f #[.slice (some ⟨b, 0, none⟩) l.length cap] w fun e w' => e = .returned (R (some ⟨b, 0, none⟩) cap) ∧ ∃ n os, w' = grow (putRow Go.Proofs.encStr (Sort.ahead w n) b 0 (l' ++ tail).toArray) os)
    (hnone : l = [] → ∀ cap w, Calls P f #[.slice none 0 cap] w fun e w' => e = .returned (R none cap) ∧ w' = w) :
    PCB P f [.one (.own pin l.length)] [(pin, .row 1 (l.map Sx.encStr))] r [(pin, .row 1 (l'.map Sx.encStr))] := by
  refine ⟨hent, ?_⟩
  intro M ν w vs hs hreps
  simp only [T.reps, T.rep, Cell.rep] at hreps
  obtain ⟨v1, vs1, rfl, rfl, rfl⟩ := hreps
  have hr := hs.res pin (.row 1 (l.map Sx.encStr)) (by simp)
  simp only [Res.ok, List.length_map] at hr
  obtain ⟨hc1, hc2, hr⟩ := hr
  have hrp := hrep M ν
  rcases hr with ⟨hn, hc0⟩ | ⟨b, c, et, mid, post, hb, hheap, htl, hrows, hcs⟩
  · have hl0 : l = [] := List.length_eq_zero_iff.1 (by omega)
    have hl1 : l' = [] := List.length_eq_zero_iff.1 (by rw [hl0] at hlen; simp at hlen; exact List.length_eq_zero_iff.2 hlen.1)
    have := hnone hl0 (ν pin).cap w
    rw [hl0] at hs ⊢
    rw [hl1]
    rw [hn] at hrp ⊢
    refine Calls.mono this ?_
    rintro e w' ⟨rfl, rfl⟩
    exact ⟨_, M, rfl, Mem.ext.refl _ M, hrp, hs⟩
  · have hrow : mid = l.map Go.Proofs.encStr := repRows_str.1 hrows
    have hblt : b < w.heap.size := (Array.getElem?_eq_some_iff.1 hheap).1
    have hH : Holds Go.Proofs.encStr w b 0 l.toArray := by
      intro j hj
      have hj1 : j < l.length := by simpa using hj
      have hj2 : j < mid.length := by rw [hrow]; simpa using hj1
      refine ⟨?_, by simp [World.frozen?, hheap]⟩
      simp only [World.cell?, hheap, Nat.zero_add, Option.isSome_none, Bool.false_eq_true, if_false]
      rw [← Array.getElem?_toList, htl, List.getElem?_append_left hj2, hrow, List.getElem?_map, List.getElem?_eq_getElem hj1]
      simp [hj1]
    have hcl := hcall b (ν pin).cap w hH hblt hc1 hc2
    rw [hb] at hrp ⊢
    refine Calls.mono hcl ?_
    rintro e w' ⟨rfl, n, os, rfl⟩
    have hDne : ∀ i, i < w.heap.size → i ≠ b → (grow (putRow Go.Proofs.encStr (Sort.ahead w n) b 0 (l' ++ tail).toArray) os).heap[i]? = w.heap[i]? := by
      intro i hi hne
      rw [heap_grow_old _ _ (by show i < (mapBlock _ _ _).heap.size; simp [mapBlock, ahead]; exact hi)]
      exact onCells_otherS _ hne
    have hDb : (grow (putRow Go.Proofs.encStr (Sort.ahead w n) b 0 (l' ++ tail).toArray) os).heap[b]? = some (.cells (putCells Go.Proofs.encStr 0 (l' ++ tail).toArray c) et (0, 0)) := by
      rw [heap_grow_old _ _ (by show b < (mapBlock _ _ _).heap.size; simp [mapBlock, ahead]; exact hblt)]
      exact onCells_atS _ hheap
    have hnew : (putCells Go.Proofs.encStr 0 (l' ++ tail).toArray c).toList = l'.map Go.Proofs.encStr ++ (tail.map Go.Proofs.encStr ++ post) := by
      rw [← List.append_assoc, ← List.map_append]
      have hfs : ((l' ++ tail).map Go.Proofs.encStr).length = mid.length := by rw [hrow]; simp [hlen]
      apply List.ext_getElem?
      intro t
      rw [Array.getElem?_toList]
      unfold putCells
      rw [Array.getElem?_mapIdx]
      have hsz : (l' ++ tail).toArray.size = mid.length := by rw [hrow]; simp [hlen]
      by_cases ht : t < mid.length
      · rw [List.getElem?_append_left (by rw [hfs]; exact ht)]
        have hct : t < c.size := by rw [← Array.length_toList, htl, List.length_append]; omega
        have hta : t < (l' ++ tail).length := by rw [← List.size_toArray, hsz]; exact ht
        rw [Array.getElem?_eq_getElem hct, Option.map_some, if_pos ⟨Nat.zero_le _, by omega⟩, Nat.sub_zero, List.getElem?_map, List.getElem?_eq_getElem hta, getElem!_pos _ t (by simpa using hta)]
        simp
      · rw [List.getElem?_append_right (by rw [hfs]; omega), hfs]
        have : c[t]? = post[t - mid.length]? := by rw [← Array.getElem?_toList, htl, List.getElem?_append_right (by omega)]
        rw [this]
        cases post[t - mid.length]? with
        | none => rfl
        | some y => rw [Option.map_some, if_neg (by omega)]
    have haway := hs.away pin (.row 1 (l.map Sx.encStr)) b (by simp) hb
    have hDin : boxBlocks [(pin, Res.row 1 (l.map Sx.encStr))] ν b := ⟨pin, .row 1 (l.map Sx.encStr), by simp, hb⟩
    refine ⟨_, M, rfl, Mem.ext.refl _ M, hrp, ⟨rfl, rfl, rfl, ?_, ?_, ?_, ?_, ?_, ?_, ?_, by simp⟩⟩
    · show w.drawn ≤ w.drawn + n; omega
    · show w.heap.size ≤ (grow (putRow Go.Proofs.encStr (Sort.ahead w n) b 0 (l' ++ tail).toArray) os).heap.size
      simp [grow, putRow, mapBlock, ahead]
    · intro i hi hD
      exact hDne i hi (fun e => hD (by rw [e]; exact hDin))
    · intro i o ho
      have h1 := hs.fro i o ho
      have hi : i < w.heap.size := (Array.getElem?_eq_some_iff.1 h1).1
      have hne : i ≠ b := by intro e; subst e; rw [haway.1] at ho; cases ho
      rw [hDne i hi hne]; exact h1
    · intro j r hm
      simp only [List.mem_singleton, Prod.mk.injEq] at hm
      obtain ⟨rfl, rfl⟩ := hm
      simp only [Res.ok, List.length_map]
      refine ⟨by omega, hc2, .inr ⟨b, _, et, l'.map Go.Proofs.encStr, _, hb, hDb, hnew, repRows_str.2 rfl, ?_⟩⟩
      rw [← hcs]; simp [putCells]
    · intro j r i hm hi
      simp only [List.mem_singleton, Prod.mk.injEq] at hm
      obtain ⟨rfl, rfl⟩ := hm
      exact hs.away pin (.row 1 (l.map Sx.encStr)) i (by simp) hi
    · intro j r j' r' i hm hm' _ _
      simp only [List.mem_singleton, Prod.mk.injEq] at hm hm'
      rw [hm.1, hm'.1]
theorem sortStr_c {ρ : Go.Shelf.Ren} (L : SlLaysM.n6 P ρ) (l : List (List UInt8)) (hsz : l.length < 4611686018427387904) :
    PCB P (ρ.f 6) [.one (.own pin l.length)] [(pin, .row 1 (l.map Sx.encStr))] (.tup []) [(pin, .row 1 ((l.mergeSort fun x y => decide (x ≤ y)).map Sx.encStr))] := by
  have hent : Ent P (ρ.f 6) := by
    obtain ⟨nm, hn, hf⟩ := L.f6
    exact ⟨_, hf, hn, rfl⟩
  refine str_row_c hent l _ [] (by simp [List.length_mergeSort]) _ (fun _ _ => .tuple #[]) (fun M ν => by simp [T.rep, T.reps]) (fun b cap w hH hb _ _ => ?_) (fun hl cap w => ?_)
  · rw [List.append_nil]
    exact AnyM.slices_Sort_string L b 0 cap l w hH hb hsz
  · exact AnyM.slices_Sort_string_none L none cap w
theorem comp_len (zs : List (List UInt8)) : (Lib.compact zs).length ≤ zs.length := by
  unfold Lib.compact Lib.compactUpTo
  rw [List.length_map]
  exact Nat.le_trans (List.length_filter_le _ _) (by simp)
theorem compactStr_c {ρ : Go.Shelf.Ren} (L : SlLaysN.n44 P ρ) (l : List (List UInt8)) :
    PCB P (ρ.f 44) [.one (.own pin l.length)] [(pin, .row 1 (l.map Sx.encStr))] (.one (.own pin (Lib.compact l).length)) [(pin, .row 1 ((Lib.compact l).map Sx.encStr))] := by
  have hent : Ent P (ρ.f 44) := by
    obtain ⟨nm, hn, hf⟩ := L.f44
    exact ⟨_, hf, hn, rfl⟩
  have hle := comp_len l
  refine str_row_c hent l _ (List.replicate (l.length - (Lib.compact l).length) []) (by simp; omega) _ (fun a cap => .slice a (Lib.compact l).length cap) (fun M ν => by simp only [T.rep, Cell.rep]) (fun b cap w hH hb hc hm => ?_) (fun hl cap w => ?_)
  · refine Calls.mono (AnyG.slices_Compact_string L b 0 cap l w hH (Nat.le_trans hc hm) hc) ?_
    rintro e w' ⟨rfl, q, rfl⟩
    exact ⟨rfl, q, #[], by simp⟩
  · subst hl
    exact AnyG.slices_Compact_string_empty L none cap w
theorem PCBk.own1 {f : FuncId} {sz : Nat} {rows rows' : List (List C)} {m : Nat} (k : Nat) (h : PCB P f [.one (.own pin m)] [(pin, .row sz rows)] (.tup []) [(pin, .row sz rows')]) :
    PCBk P f [.one (.own k m)] k (.row sz rows) (.tup []) (.row sz rows') := PCBk.mk k h
theorem PCBk.own2 {f : FuncId} {sz : Nat} {rows rows' : List (List C)} {m m' : Nat} (k : Nat) (h : PCB P f [.one (.own pin m)] [(pin, .row sz rows)] (.one (.own pin m')) [(pin, .row sz rows')]) :
    PCBk P f [.one (.own k m)] k (.row sz rows) (.one (.own k m')) (.row sz rows') := PCBk.mk k h
end Go.Sx
set_option linter.unusedVariables false
namespace Go.Proofs.YteobojeemflggaaGreat
open Go Go.Sx
theorem less_eq (x y : List UInt8) : Op.bytesLess x y = decide (x < y) := Go.Proofs.bytesLess_eq x y
theorem strict_ext : ∀ a b : List (List UInt8), a.Pairwise (· < ·) → b.Pairwise (· < ·) → (∀ x, x ∈ a ↔ x ∈ b) → a = b
  | [], b, _, _, h => by
    cases b with
    | nil => rfl
    | cons y b => have := (h y).2 (by simp); simp at this
  | x :: a, [], _, _, h => by have := (h x).1 (by simp); simp at this
  | x :: a, y :: b, ha, hb, h => by
    rw [List.pairwise_cons] at ha hb
    have hxy : x = y := by
      rcases List.mem_cons.1 ((h x).1 (by simp)) with e | h1
      · exact e
      · rcases List.mem_cons.1 ((h y).2 (by simp)) with e | h2
        · exact e.symm
        · exact absurd (hb.1 x h1) (List.lt_asymm (ha.1 y h2))
    subst hxy
    congr 1
    refine strict_ext a b ha.2 hb.2 fun z => ⟨fun hz => ?_, fun hz => ?_⟩
    · rcases List.mem_cons.1 ((h z).1 (List.mem_cons_of_mem _ hz)) with e | hz'
      · subst e; exact absurd (ha.1 z hz) (List.lt_irrefl z)
      · exact hz'
    · rcases List.mem_cons.1 ((h z).2 (List.mem_cons_of_mem _ hz)) with e | hz'
      · subst e; exact absurd (hb.1 z hz) (List.lt_irrefl z)
      · exact hz'
theorem tw_all {α : Type} (p : α → Bool) : ∀ l : List α, ∀ x ∈ l.take (tw p l), p x = true
  | [], x, h => by simp [tw] at h
  | y :: l, x, h => by
    simp only [tw] at h
    cases hp : p y
    · rw [hp] at h; simp at h
    · rw [hp, cond_true, Nat.add_comm, List.take_succ_cons] at h
      rcases List.mem_cons.1 h with rfl | h
      · exact hp
      · exact tw_all p l x h
theorem tw_next {α : Type} (p : α → Bool) : ∀ (l : List α) (y : α), l[tw p l]? = some y → p y = false
  | [], y, h => by simp at h
  | z :: l, y, h => by
    simp only [tw] at h
    cases hp : p z
    · rw [hp] at h; simp at h; subst h; exact hp
    · rw [hp, cond_true, Nat.add_comm, List.getElem?_cons_succ] at h
      exact tw_next p l y h
theorem ins_mem (s : List (List UInt8)) (x z : List UInt8) : z ∈ insS s x ↔ z = x ∨ z ∈ s := by
  unfold insS
  cases h : decide (s[tw (fun y => Op.bytesLess y x) s]? = some x) <;> simp only [cond_true, cond_false]
  · unfold putAt
    have : z ∈ s ↔ z ∈ s.take (tw (fun y => Op.bytesLess y x) s) ∨ z ∈ s.drop (tw (fun y => Op.bytesLess y x) s) := by rw [← List.mem_append, List.take_append_drop]
    rw [List.mem_append, List.mem_append, this]
    simp only [List.mem_singleton]
    constructor
    · rintro ((h | h) | h)
      · exact .inr (.inl h)
      · exact .inl h
      · exact .inr (.inr h)
    · rintro (h | h | h)
      · exact .inl (.inr h)
      · exact .inl (.inl h)
      · exact .inr h
  · have hm : x ∈ s := List.mem_of_getElem? (of_decide_eq_true h)
    constructor
    · exact .inr
    · rintro (rfl | h)
      · exact hm
      · exact h
theorem ins_strict (s : List (List UInt8)) (x : List UInt8) (hs : s.Pairwise (· < ·)) : (insS s x).Pairwise (· < ·) := by
  unfold insS
  cases h : decide (s[tw (fun y => Op.bytesLess y x) s]? = some x) <;> simp only [cond_true, cond_false]
  · have ht := tw_all (fun y => Op.bytesLess y x) s
    have hn := tw_next (fun y => Op.bytesLess y x) s
    generalize tw (fun y => Op.bytesLess y x) s = k at *
    have hsp : (s.take k ++ s.drop k).Pairwise (· < ·) := by rw [List.take_append_drop]; exact hs
    rw [List.pairwise_append] at hsp
    obtain ⟨h1, h2, h3⟩ := hsp
    have hx1 : ∀ y ∈ s.take k, y < x := fun y hy => by have := ht y hy; rw [less_eq] at this; exact of_decide_eq_true this
    have hx2 : ∀ y ∈ s.drop k, x < y := by
      cases hd : s.drop k with
      | nil => intro y hy; cases hy
      | cons z t =>
        have hz : s[k]? = some z := by
          have := List.getElem?_drop (xs := s) (i := k) (j := 0)
          rw [hd] at this; simpa using this.symm
        have hzx : ¬ z < x := by have := hn z hz; rw [less_eq] at this; exact of_decide_eq_false this
        have hne : z ≠ x := by intro e; subst e; rw [hz] at h; simp at h
        have hxz : x < z := by
          rcases Classical.em (x < z) with hq | hq
          · exact hq
          · exact absurd (List.le_antisymm (List.not_lt.1 hq) (List.not_lt.1 hzx)) hne
        rw [hd, List.pairwise_cons] at h2
        intro y hy
        rcases List.mem_cons.1 hy with rfl | hy
        · exact hxz
        · exact List.lt_trans hxz (h2.1 y hy)
    unfold putAt
    rw [List.append_assoc, List.pairwise_append]
    refine ⟨h1, ?_, ?_⟩
    · rw [List.singleton_append, List.pairwise_cons]
      exact ⟨hx2, h2⟩
    · intro a ha b hb
      rw [List.singleton_append] at hb
      rcases List.mem_cons.1 hb with rfl | hb
      · exact hx1 a ha
      · exact h3 a ha b hb
  · exact hs
theorem sortedV_spec (l : List (List UInt8)) : (sortedV l).Pairwise (· < ·) ∧ ∀ z, z ∈ sortedV l ↔ z ∈ l := by
  have : ∀ (l s : List (List UInt8)), s.Pairwise (· < ·) → (l.foldl insS s).Pairwise (· < ·) ∧ ∀ z, z ∈ l.foldl insS s ↔ z ∈ s ∨ z ∈ l := by
    intro l
    induction l with
    | nil => intro s hs; exact ⟨hs, fun z => by simp⟩
    | cons x l ih =>
      intro s hs
      obtain ⟨h1, h2⟩ := ih (insS s x) (ins_strict s x hs)
      refine ⟨h1, fun z => ?_⟩
      rw [List.foldl_cons, h2, ins_mem]
      simp only [List.mem_cons]
      constructor
      · rintro ((h | h) | h)
        · exact .inr (.inl h)
        · exact .inl h
        · exact .inr (.inr h)
      · rintro (h | h | h)
        · exact .inl (.inr h)
        · exact .inl (.inl h)
        · exact .inr h
  obtain ⟨h1, h2⟩ := this l [] List.Pairwise.nil
  exact ⟨h1, fun z => by unfold sortedV; rw [h2]; simp⟩
theorem compact_spec (d : Array (List UInt8)) (hd : ∀ i j, i < j → j < d.size → d[i]! ≤ d[j]!) : ∀ m, m ≤ d.size →
    (Lib.compactUpTo d m).Pairwise (· < ·) ∧ (∀ z, z ∈ Lib.compactUpTo d m ↔ ∃ j, j < m ∧ d[j]! = z) := by
  intro m
  induction m with
  | zero => intro _; exact ⟨by simp [Lib.compactUpTo], fun z => by simp [Lib.compactUpTo]⟩
  | succ m ih =>
    intro hm
    obtain ⟨h1, h2⟩ := ih (by omega)
    rw [Lib.compactUpTo_succ]
    by_cases hk : Lib.keeps d m = true
    · rw [if_pos hk]
      refine ⟨?_, fun z => ?_⟩
      · rw [List.pairwise_append]
        refine ⟨h1, by simp, fun a ha b hb => ?_⟩
        simp only [List.mem_singleton] at hb
        subst hb
        obtain ⟨j, hj, rfl⟩ := (h2 a).1 ha
        have hm0 : m ≠ 0 := by omega
        have hne : d[m]! ≠ d[m - 1]! := by
          unfold Lib.keeps at hk
          rcases of_decide_eq_true hk with h | h
          · exact absurd h hm0
          · exact h
        have hle : d[m - 1]! ≤ d[m]! := hd (m - 1) m (by omega) (by omega)
        have hlt : d[m - 1]! < d[m]! := by
          rcases Classical.em (d[m - 1]! < d[m]!) with hq | hq
          · exact hq
          · exact absurd (List.le_antisymm (List.not_lt.1 hq) hle) hne
        rcases Nat.lt_or_ge j (m - 1) with hj2 | hj2
        · have h3 := hd j (m - 1) hj2 (by omega)
          rcases Classical.em (d[j]! < d[m]!) with hq | hq
          · exact hq
          · exact absurd (List.le_trans (List.not_lt.1 hq) h3) (List.not_le.2 hlt)
        · have : j = m - 1 := by omega
          rw [this]; exact hlt
      · rw [List.mem_append, h2]
        simp only [List.mem_singleton]
        constructor
        · rintro (⟨j, hj, rfl⟩ | rfl)
          · exact ⟨j, by omega, rfl⟩
          · exact ⟨m, by omega, rfl⟩
        · rintro ⟨j, hj, rfl⟩
          rcases Nat.lt_or_ge j m with h | h
          · exact .inl ⟨j, h, rfl⟩
          · have : j = m := by omega
            rw [this]; exact .inr rfl
    · rw [if_neg hk, List.append_nil]
      refine ⟨h1, fun z => ?_⟩
      rw [h2]
      constructor
      · rintro ⟨j, hj, rfl⟩; exact ⟨j, by omega, rfl⟩
      · rintro ⟨j, hj, rfl⟩
        rcases Nat.lt_or_ge j m with h | h
        · exact ⟨j, h, rfl⟩
        · have e : j = m := by omega
          subst e
          have hkn : ¬ (j = 0 ∨ d[j]! ≠ d[j - 1]!) := fun hh => hk (decide_eq_true hh)
          have h0 : j ≠ 0 := fun hh => hkn (.inl hh)
          have he : d[j]! = d[j - 1]! := Classical.byContradiction fun hh => hkn (.inr hh)
          exact ⟨j - 1, by omega, he.symm⟩
theorem compact_sort (l : List (List UInt8)) : Lib.compact (l.mergeSort fun x y => decide (x ≤ y)) = sortedV l := by
  have hsort := List.pairwise_mergeSort (le := fun x y : List UInt8 => decide (x ≤ y)) (fun a b c h k => by
      simp only [decide_eq_true_eq] at *; exact List.le_trans h k) (fun a b => by
      simp only [Bool.or_eq_true, decide_eq_true_eq]; exact List.le_total a b) l
  have hperm := List.mergeSort_perm l (fun x y => decide (x ≤ y))
  generalize l.mergeSort (fun x y => decide (x ≤ y)) = s at *
  have hd : ∀ i j, i < j → j < s.toArray.size → s.toArray[i]! ≤ s.toArray[j]! := by
    intro i j hij hj
    have hj' : j < s.length := by simpa using hj
    have := List.pairwise_iff_getElem.1 hsort i j (by omega) hj' hij
    rw [getElem!_pos _ i (by simp; omega), getElem!_pos _ j hj]
    simpa using this
  obtain ⟨h1, h2⟩ := compact_spec s.toArray hd s.length (by simp)
  obtain ⟨h3, h4⟩ := sortedV_spec l
  refine strict_ext _ _ h1 h3 fun z => ?_
  show z ∈ Lib.compactUpTo s.toArray s.length ↔ _
  rw [h2, h4, ← hperm.mem_iff]
  constructor
  · rintro ⟨j, hj, rfl⟩
    rw [getElem!_pos _ j (by simpa using hj)]
    simp
  · intro hz
    obtain ⟨j, hj, rfl⟩ := List.mem_iff_getElem.1 hz
    exact ⟨j, hj, by rw [getElem!_pos _ j (by simpa using hj)]; simp⟩
end Go.Proofs.YteobojeemflggaaGreat
namespace Go.Proofs
open Go.Shelf
def Tryz.sortS_ren : Go.Shelf.Ren := ⟨fun | 6 => 71 | 8 => 104 | 9 => 103 | 19 => 136 | 20 => 137 | 21 => 127 | 22 => 128 | 23 => 129 | 24 => 130 | 25 => 131 | 26 => 132 | 27 => 133 | 28 => 134 | 29 => 135 | 36 => 155 | 31 => 156 | 32 => 157 | 37 => 158 | 38 => 159 | 39 => 160 | 41 => 168 | n => n, fun | 27 => 23 | 29 => 9 | 3 => 3 | 32 => 110 | 26 => 23 | 0 => 0 | 44 => 131 | 46 => 133 | 4 => 4 | 36 => 123 | 35 => 122 | 41 => 128 | 5 => 5 | 9 => 9 | 53 => 144 | 57 => 148 | 63 => 154 | 64 => 155 | n => n, fun | n => n⟩
theorem Tryz.sortS : Go.Proofs.SlLaysM.n6 Tryz.prog Tryz.sortS_ren := {
  mixed := by kernel_rfl,
  f6 := ⟨"slices.Sort[[]string,string]", by decide, Tryz.func71.trans (congrArg some (by kernel_rfl))⟩,
  f8 := Tryz.func104.trans (congrArg some (by kernel_rfl)),
  f9 := ⟨"slices.pdqsortOrdered[string]", by decide, Tryz.func103.trans (congrArg some (by kernel_rfl))⟩,
  f19 := Tryz.func136.trans (congrArg some (by kernel_rfl)),
  f20 := Tryz.func137.trans (congrArg some (by kernel_rfl)),
  f21 := ⟨"slices.insertionSortOrdered[string]", by decide, Tryz.func127.trans (congrArg some (by kernel_rfl))⟩,
  f22 := ⟨"slices.heapSortOrdered[string]", by decide, Tryz.func128.trans (congrArg some (by kernel_rfl))⟩,
  f23 := ⟨"slices.breakPatternsOrdered[string]", by decide, Tryz.func129.trans (congrArg some (by kernel_rfl))⟩,
  f24 := ⟨"slices.choosePivotOrdered[string]", by decide, Tryz.func130.trans (congrArg some (by kernel_rfl))⟩,
  f25 := ⟨"slices.reverseRangeOrdered[string]", by decide, Tryz.func131.trans (congrArg some (by kernel_rfl))⟩,
  f26 := ⟨"slices.partialInsertionSortOrdered[string]", by decide, Tryz.func132.trans (congrArg some (by kernel_rfl))⟩,
  f27 := ⟨"cmp.Less[string]", by decide, Tryz.func133.trans (congrArg some (by kernel_rfl))⟩,
  f28 := ⟨"slices.partitionEqualOrdered[string]", by decide, Tryz.func134.trans (congrArg some (by kernel_rfl))⟩,
  f29 := ⟨"slices.partitionOrdered[string]", by decide, Tryz.func135.trans (congrArg some (by kernel_rfl))⟩,
  f31 := Tryz.func156.trans (congrArg some (by kernel_rfl)),
  f32 := Tryz.func157.trans (congrArg some (by kernel_rfl)),
  f36 := ⟨"slices.siftDownOrdered[string]", by decide, Tryz.func155.trans (congrArg some (by kernel_rfl))⟩,
  f37 := ⟨"slices.medianAdjacentOrdered[string]", by decide, Tryz.func158.trans (congrArg some (by kernel_rfl))⟩,
  f38 := ⟨"slices.medianOrdered[string]", by decide, Tryz.func159.trans (congrArg some (by kernel_rfl))⟩,
  f39 := ⟨"cmp.isNaN[string]", by decide, Tryz.func160.trans (congrArg some (by kernel_rfl))⟩,
  f41 := ⟨"slices.order2Ordered[string]", by decide, Tryz.func168.trans (congrArg some (by kernel_rfl))⟩,
  t0 := Tryz.underlying0,
  a0 := Tryz.isAgg0,
  z0 := Tryz.sizeOf0,
  v0 := Tryz.zeroValue0,
  t3 := Tryz.underlying3,
  a3 := Tryz.isAgg3,
  z3 := Tryz.sizeOf3,
  v3 := Tryz.zeroValue3,
  t4 := Tryz.underlying4,
  a4 := Tryz.isAgg4,
  z4 := Tryz.sizeOf4,
  v4 := Tryz.zeroValue4,
  t5 := Tryz.underlying5,
  a5 := Tryz.isAgg5,
  z5 := Tryz.sizeOf5,
  v5 := Tryz.zeroValue5,
  t9 := Tryz.underlying9,
  a9 := Tryz.isAgg9,
  z9 := Tryz.sizeOf9,
  v9 := Tryz.zeroValue9,
  t26 := Tryz.underlying23,
  a26 := Tryz.isAgg23,
  z26 := Tryz.sizeOf23,
  v26 := Tryz.zeroValue23,
  t27 := Tryz.underlying23,
  a27 := Tryz.isAgg23,
  z27 := Tryz.sizeOf23,
  v27 := Tryz.zeroValue23,
  t29 := Tryz.underlying9,
  a29 := Tryz.isAgg9,
  z29 := Tryz.sizeOf9,
  v29 := Tryz.zeroValue9,
  t32 := Tryz.underlying110,
  a32 := Tryz.isAgg110,
  z32 := Tryz.sizeOf110,
  v32 := Tryz.zeroValue110,
  t35 := Tryz.underlying122,
  a35 := Tryz.isAgg122,
  z35 := Tryz.sizeOf122,
  v35 := Tryz.zeroValue122,
  t36 := Tryz.underlying123,
  a36 := Tryz.isAgg123,
  z36 := Tryz.sizeOf123,
  v36 := Tryz.zeroValue123,
  t41 := Tryz.underlying128,
  a41 := Tryz.isAgg128,
  z41 := Tryz.sizeOf128,
  v41 := Tryz.zeroValue128,
  t44 := Tryz.underlying131,
  a44 := Tryz.isAgg131,
  z44 := Tryz.sizeOf131,
  v44 := Tryz.zeroValue131,
  t46 := Tryz.underlying133,
  a46 := Tryz.isAgg133,
  z46 := Tryz.sizeOf133,
  v46 := Tryz.zeroValue133,
  t53 := Tryz.underlying144,
  a53 := Tryz.isAgg144,
  z53 := Tryz.sizeOf144,
  v53 := Tryz.zeroValue144,
  t57 := Tryz.underlying148,
  a57 := Tryz.isAgg148,
  z57 := Tryz.sizeOf148,
  v57 := Tryz.zeroValue148,
  t63 := Tryz.underlying154,
  a63 := Tryz.isAgg154,
  z63 := Tryz.sizeOf154,
  v63 := Tryz.zeroValue154,
  t64 := Tryz.underlying155,
  a64 := Tryz.isAgg155,
  z64 := Tryz.sizeOf155,
  v64 := Tryz.zeroValue155 }
def Tryz.compS_ren : Go.Shelf.Ren := ⟨fun | 44 => 73 | n => n, fun | 25 => 23 | 26 => 9 | 3 => 3 | 4 => 4 | 0 => 0 | n => n, fun | n => n⟩
theorem Tryz.compS : Go.Proofs.SlLaysN.n44 Tryz.prog Tryz.compS_ren := {
  mixed := by kernel_rfl,
  f44 := ⟨"slices.Compact[[]string,string]", by decide, Tryz.func73.trans (congrArg some (by kernel_rfl))⟩,
  t0 := Tryz.underlying0,
  a0 := Tryz.isAgg0,
  z0 := Tryz.sizeOf0,
  v0 := Tryz.zeroValue0,
  t3 := Tryz.underlying3,
  a3 := Tryz.isAgg3,
  z3 := Tryz.sizeOf3,
  v3 := Tryz.zeroValue3,
  t4 := Tryz.underlying4,
  a4 := Tryz.isAgg4,
  z4 := Tryz.sizeOf4,
  v4 := Tryz.zeroValue4,
  t25 := Tryz.underlying23,
  a25 := Tryz.isAgg23,
  z25 := Tryz.sizeOf23,
  v25 := Tryz.zeroValue23,
  t26 := Tryz.underlying9,
  a26 := Tryz.isAgg9,
  z26 := Tryz.sizeOf9,
  v26 := Tryz.zeroValue9,
  i26 := by kernel_rfl }
end Go.Proofs
set_option linter.unusedSimpArgs false
set_option linter.unusedVariables false
set_option maxRecDepth 20000
set_option maxHeartbeats 16000000
namespace Go.Proofs.YteobojeemflggaaGreat
open Go Go.Sx
open Nat renaming reduceBEq → zA, reduceBNe → zB, reduceAdd → zC, reduceSub → zD, reduceMul → zE, reduceLeDiff → zF, reduceLT → zG, reduceEqDiff → zH
open Int renaming reduceToNat → zI, reduceLE → zJ, reduceLT → zK, reduceEq → zL
open Bool renaming not_eq_true' → zM, not_eq_false' → zN
def dupP (g : Pat) : Bool := decide (((sortedV (collP g)).length : Int) < ((collP g).length : Int))
def okP (g : Pat) : Bool := !decide ((40 : Int) < (cntP g : Int)) && (treeP g && !dupP g)
def codeP (g : Pat) : Int := bif decide ((40 : Int) < (cntP g : Int)) then 2 else bif treeP g then (bif dupP g then 6 else 0) else 1
theorem codeP_ok (g : Pat) : decide (codeP g = 0) = okP g := by
  unfold codeP okP
  cases decide ((40 : Int) < (cntP g : Int)) <;> cases treeP g <;> cases dupP g <;> rfl
theorem validateP_c (g : Pat) (hg : PSm g) : PC Tryz.prog 41 [Pt g] (I .i64 (codeP g)) := by
  have h1 := count_p g hg
  have h2 := validTreeP_c g
  cases hz : decide ((40 : Int) < (cntP g : Int))
  case true =>
    refine PCB.of_body Tryz.func41 rfl (by decide) Tryz.ntmps41 Tryz.results41 rfl rfl rfl ?_ rfl rfl
    repeat' (first | (simp only [go_sem, zA, zB, zC, zD, zE, zF, zG, reduceCtorEq, zH, zI, zJ, zK, zL, hz]; all_goals fail_if_success guard_target =ₛ False) | (with_reducible first | ((first | refine seqVC_stepN rfl ?_ | refine AWP.seq ?_ | refine AWP.seqR (by kernel_rfl) ?_ | refine parVC_stepN rfl ?_ | refine parEVC_stepN rfl ?_ | refine genVC_stepN rfl ?_); intro K hK) | ((first | refine hK _ _ _ ?_ | refine hK _ _ ?_ | refine hK _ ?_); clear hK K) | refine seqVC_nil ?_ | refine parVC_nil ?_ | refine parEVC_nil ?_ | refine genVC_nil ?_ | refine AWP.block ?_ | (refine AWP.cond (by with_unfolding_all rfl) ?_ ?_ <;> intro h <;> (try simp only [zM, zN] at h) <;> try exact absurd h (by decide)) | refine AWP.skip ?_ | refine AWP.ret ?_ | refine AWP.exit ?_ | refine ⟨_, h1, ?_⟩ | refine AWP.parR mixed (by kernel_rfl) fun K hK => ?_ | refine ⟨(by kernel_rfl : depB _ _ _ = true), ?_⟩ | refine Or.inl ?_) | (clear hK K))
    all_goals (first | exact fun _ h => (by cases h) | (refine fin0 ?_; first | rfl | (simp only [codeP, hz, zb, cond_true, cond_false, decide_true, decide_false] <;> rfl)))
  cases ht : treeP g <;> rw [ht] at h2
  case false =>
    refine PCB.of_body Tryz.func41 rfl (by decide) Tryz.ntmps41 Tryz.results41 rfl rfl rfl ?_ rfl rfl
    repeat' (first | (simp only [go_sem, zA, zB, zC, zD, zE, zF, zG, reduceCtorEq, zH, zI, zJ, zK, zL, hz]; all_goals fail_if_success guard_target =ₛ False) | (with_reducible first | ((first | refine seqVC_stepN rfl ?_ | refine AWP.seq ?_ | refine AWP.seqR (by kernel_rfl) ?_ | refine parVC_stepN rfl ?_ | refine parEVC_stepN rfl ?_ | refine genVC_stepN rfl ?_); intro K hK) | ((first | refine hK _ _ _ ?_ | refine hK _ _ ?_ | refine hK _ ?_); clear hK K) | refine seqVC_nil ?_ | refine parVC_nil ?_ | refine parEVC_nil ?_ | refine genVC_nil ?_ | refine AWP.block ?_ | (refine AWP.cond (by with_unfolding_all rfl) ?_ ?_ <;> intro h <;> (try simp only [zM, zN] at h) <;> try exact absurd h (by decide)) | refine AWP.skip ?_ | refine AWP.ret ?_ | refine AWP.exit ?_ | refine ⟨_, h1, ?_⟩ | refine ⟨_, h2, ?_⟩ | refine AWP.parR mixed (by kernel_rfl) fun K hK => ?_ | refine ⟨(by kernel_rfl : depB _ _ _ = true), ?_⟩ | refine Or.inl ?_) | (clear hK K))
    all_goals (first | exact fun _ h => (by cases h) | (refine fin0 ?_; first | rfl | (simp only [codeP, hz, ht, zb, cond_true, cond_false, decide_true, decide_false] <;> rfl)))
  have h3 := collectP_n g hg
  have h3c := collectP_c g hg
  have hl : (collP g).length ≤ 100000000 := Nat.le_trans (collP_len _) hg
  have h4 : PCBk Tryz.prog 71 [.one (.own 11 (collP g).length)] 11 (.row 1 ((collP g).map Sx.encStr)) (.tup []) (.row 1 (((collP g).mergeSort fun x y => decide (x ≤ y)).map Sx.encStr)) :=
    PCBk.own1 11 (sortStr_c Go.Proofs.Tryz.sortS (collP g) (by omega))
  have h5 : PCBk Tryz.prog 73 [.one (.own 11 (collP g).length)] 11 (.row 1 (((collP g).mergeSort fun x y => decide (x ≤ y)).map Sx.encStr)) (.one (.own 11 (sortedV (collP g)).length)) (.row 1 ((sortedV (collP g)).map Sx.encStr)) := by
    have h := compactStr_c Go.Proofs.Tryz.compS ((collP g).mergeSort fun x y => decide (x ≤ y))
    rw [compact_sort, List.length_mergeSort] at h
    exact PCBk.own2 11 h
  cases hd : dupP g
  all_goals
    have hd' := hd
    unfold dupP at hd'
    refine PCB.of_body Tryz.func41 rfl (by decide) Tryz.ntmps41 Tryz.results41 rfl rfl rfl ?_ rfl rfl
    repeat' (first | (simp only [go_sem, zA, zB, zC, zD, zE, zF, zG, reduceCtorEq, zH, zI, zJ, zK, zL, List.length_map, hz, hd']; all_goals fail_if_success guard_target =ₛ False) | (with_reducible first | ((first | refine seqVC_stepN rfl ?_ | refine AWP.seq ?_ | refine AWP.seqR (by kernel_rfl) ?_ | refine parVC_stepN rfl ?_ | refine parEVC_stepN rfl ?_ | refine genVC_stepN rfl ?_); intro K hK) | ((first | refine hK _ _ _ ?_ | refine hK _ _ ?_ | refine hK _ ?_); clear hK K) | refine seqVC_nil ?_ | refine parVC_nil ?_ | refine parEVC_nil ?_ | refine genVC_nil ?_ | refine AWP.block ?_ | (refine AWP.cond (by with_unfolding_all rfl) ?_ ?_ <;> intro h <;> (try simp only [zM, zN] at h) <;> try exact absurd h (by decide)) | refine AWP.skip ?_ | refine AWP.ret ?_ | refine AWP.exit ?_ | refine ⟨_, h1, ?_⟩ | refine ⟨_, h2, ?_⟩ | refine Or.inr ⟨_, _, h3, ?_⟩ | refine ⟨_, h3c, ?_⟩) | (apply Or.inr; refine ⟨11, _, _, _, h4, rfl, ?_⟩; simp only [go_sem, zA, zB, zC, zD, zE, zF, zG, reduceCtorEq, zH, zI, zJ, zK, zL]) | (apply Or.inr; refine ⟨11, _, _, _, h5, rfl, ?_⟩; simp only [go_sem, zA, zB, zC, zD, zE, zF, zG, reduceCtorEq, zH, zI, zJ, zK, zL]) | (with_reducible first | (refine AWP.genR (id := 7) [1] [11] mixed (by kernel_rfl) fun K hK => ?_; simp only [Bx.outs, Bx.drop, cond_true, cond_false, Nat.reduceBEq, go_sem]) | refine AWP.parR mixed (by kernel_rfl) fun K hK => ?_ | refine ⟨(by kernel_rfl : depB _ _ _ = true), ?_⟩ | refine Or.inl ?_) | (clear hK K))
    all_goals (first | exact fun _ h => (by cases h) | (refine fin0 ?_; first | rfl | (simp only [codeP, hz, ht, hd, zb, cond_true, cond_false, decide_true, decide_false] <;> rfl)))
theorem refValidateP_c (g : Pat) (hg : PSm g) : PC Tryz.prog 44 [Pt g] (I .i64 (codeP g)) := by
  have h1 := patterns_c g hg
  have h2 := goodPattern_c g
  cases hz : decide ((40 : Int) < (cntP g : Int))
  case true =>
    refine PCB.of_body Tryz.func44 rfl (by decide) Tryz.ntmps44 Tryz.results44 rfl rfl rfl ?_ rfl rfl
    repeat' (first | (simp only [go_sem, zA, zB, zC, zD, zE, zF, zG, reduceCtorEq, zH, zI, zJ, zK, zL, hz]; all_goals fail_if_success guard_target =ₛ False) | (with_reducible first | ((first | refine seqVC_stepN rfl ?_ | refine AWP.seq ?_ | refine AWP.seqR (by kernel_rfl) ?_); intro K hK) | ((first | refine hK _ _ _ ?_ | refine hK _ _ ?_ | refine hK _ ?_); clear hK K) | refine seqVC_nil ?_ | refine AWP.block ?_ | (refine AWP.cond (by with_unfolding_all rfl) ?_ ?_ <;> intro h <;> (try simp only [zM, zN] at h) <;> try exact absurd h (by decide)) | refine AWP.skip ?_ | refine AWP.ret ?_ | refine AWP.exit ?_ | refine ⟨_, h1, ?_⟩ | refine Or.inl ?_) | (clear hK K))
    all_goals (first | exact fun _ h => (by cases h) | (refine fin0 ?_; first | rfl | (simp only [codeP, hz, zb, cond_true, cond_false, decide_true, decide_false] <;> rfl)))
  cases ht : treeP g <;> rw [ht] at h2
  case false =>
    refine PCB.of_body Tryz.func44 rfl (by decide) Tryz.ntmps44 Tryz.results44 rfl rfl rfl ?_ rfl rfl
    repeat' (first | (simp only [go_sem, zA, zB, zC, zD, zE, zF, zG, reduceCtorEq, zH, zI, zJ, zK, zL, hz]; all_goals fail_if_success guard_target =ₛ False) | (with_reducible first | ((first | refine seqVC_stepN rfl ?_ | refine AWP.seq ?_ | refine AWP.seqR (by kernel_rfl) ?_); intro K hK) | ((first | refine hK _ _ _ ?_ | refine hK _ _ ?_ | refine hK _ ?_); clear hK K) | refine seqVC_nil ?_ | refine AWP.block ?_ | (refine AWP.cond (by with_unfolding_all rfl) ?_ ?_ <;> intro h <;> (try simp only [zM, zN] at h) <;> try exact absurd h (by decide)) | refine AWP.skip ?_ | refine AWP.ret ?_ | refine AWP.exit ?_ | refine ⟨_, h1, ?_⟩ | refine ⟨_, h2, ?_⟩ | refine Or.inl ?_) | (clear hK K))
    all_goals (first | exact fun _ h => (by cases h) | (refine fin0 ?_; first | rfl | (simp only [codeP, hz, ht, zb, cond_true, cond_false, decide_true, decide_false] <;> rfl)))
  have h3 := occurrences_c g hg
  have hcl := collP_len g
  have h4 := sorted_c (collP g) (by simp only [decide_eq_false_iff_not] at hz; omega)
  cases hd : dupP g
  all_goals
    have hd' := hd
    unfold dupP at hd'
    refine PCB.of_body Tryz.func44 rfl (by decide) Tryz.ntmps44 Tryz.results44 rfl rfl rfl ?_ rfl rfl
    repeat' (first | (simp only [go_sem, zA, zB, zC, zD, zE, zF, zG, reduceCtorEq, zH, zI, zJ, zK, zL, List.length_map, hz, hd']; all_goals fail_if_success guard_target =ₛ False) | (with_reducible first | ((first | refine seqVC_stepN rfl ?_ | refine AWP.seq ?_ | refine AWP.seqR (by kernel_rfl) ?_); intro K hK) | ((first | refine hK _ _ _ ?_ | refine hK _ _ ?_ | refine hK _ ?_); clear hK K) | refine seqVC_nil ?_ | refine AWP.block ?_ | (refine AWP.cond (by with_unfolding_all rfl) ?_ ?_ <;> intro h <;> (try simp only [zM, zN] at h) <;> try exact absurd h (by decide)) | refine AWP.skip ?_ | refine AWP.ret ?_ | refine AWP.exit ?_ | refine ⟨_, h1, ?_⟩ | refine ⟨_, h2, ?_⟩ | refine ⟨_, h3, ?_⟩ | refine ⟨_, h4, ?_⟩ | refine Or.inl ?_) | (clear hK K))
    all_goals (first | exact fun _ h => (by cases h) | (refine fin0 ?_; first | rfl | (simp only [codeP, hz, ht, hd, zb, cond_true, cond_false, decide_true, decide_false] <;> rfl)))
def anyP : Pat := ⟨1, 0, [], [], []⟩
theorem anyP_lit : Pt anyP = .st [.int .i64 1, .int .i64 0, .str [], .sl 5 [], .sl 2 []] := by rw [show Pt anyP = T.st (encP anyP) from rfl, encP_eq]; rfl
def soundP (g : Pat) : Pat := bif okP g then g else anyP
theorem soundP_c (g : Pat) (hg : PSm g) : PC Tryz.prog 75 [Pt g] (Pt (soundP g)) := by
  have h1 := validateP_c g hg
  have hc := codeP_ok g
  unfold soundP
  refine PCB.of_body Tryz.func75 rfl (by decide) Tryz.ntmps75 Tryz.results75 rfl rfl rfl ?_ rfl rfl
  cases hz : okP g <;> rw [hz] at hc
  all_goals
    repeat' (first | (simp only [go_sem, zA, zB, zC, zD, zE, zF, zG, reduceCtorEq, zH, zI, zJ, zK, zL, hc]; all_goals fail_if_success guard_target =ₛ False) | (with_reducible first | ((first | refine seqVC_stepN rfl ?_ | refine AWP.seq ?_ | refine AWP.seqR (by kernel_rfl) ?_); intro K hK) | ((first | refine hK _ _ _ ?_ | refine hK _ _ ?_ | refine hK _ ?_); clear hK K) | refine seqVC_nil ?_ | refine AWP.block ?_ | (refine AWP.cond (by with_unfolding_all rfl) ?_ ?_ <;> intro h <;> (try simp only [zM, zN] at h) <;> try exact absurd h (by decide)) | refine AWP.skip ?_ | refine AWP.ret ?_ | refine AWP.exit ?_ | refine ⟨_, h1, ?_⟩ | refine Or.inl ?_) | (clear hK K))
  all_goals (first | exact fun _ h => (by cases h) | refine fin0 ?_)
  all_goals (simp only [cond_true, cond_false, anyP_lit]; try rfl)
theorem taken_c (g : Pat) (hg : PSm g) : PC Tryz.prog 82 [Pt g] (Pt (soundP g)) := by
  have h1 := refValidateP_c g hg
  have hc := codeP_ok g
  unfold soundP
  refine PCB.of_body Tryz.func82 rfl (by decide) Tryz.ntmps82 Tryz.results82 rfl rfl rfl ?_ rfl rfl
  cases hz : okP g <;> rw [hz] at hc
  all_goals
    repeat' (first | (simp only [go_sem, zA, zB, zC, zD, zE, zF, zG, reduceCtorEq, zH, zI, zJ, zK, zL, hc]; all_goals fail_if_success guard_target =ₛ False) | (with_reducible first | ((first | refine seqVC_stepN rfl ?_ | refine AWP.seq ?_ | refine AWP.seqR (by kernel_rfl) ?_); intro K hK) | ((first | refine hK _ _ _ ?_ | refine hK _ _ ?_ | refine hK _ ?_); clear hK K) | refine seqVC_nil ?_ | refine AWP.block ?_ | (refine AWP.cond (by with_unfolding_all rfl) ?_ ?_ <;> intro h <;> (try simp only [zM, zN] at h) <;> try exact absurd h (by decide)) | refine AWP.skip ?_ | refine AWP.ret ?_ | refine AWP.exit ?_ | refine ⟨_, h1, ?_⟩ | refine Or.inl ?_) | (clear hK K))
  all_goals (first | exact fun _ h => (by cases h) | refine fin0 ?_)
  all_goals (simp only [cond_true, cond_false, anyP_lit]; try rfl)
theorem anyP_ok : okP anyP = true := by
  have h1 : cntP anyP = 1 := by rw [cntP_eq]; rfl
  have h2 : treeP anyP = true := by rw [treeP_eq]; rfl
  have h3 : collP anyP = [] := by rw [collP_eq]; rfl
  unfold okP dupP; rw [h1, h2, h3]; rfl
theorem soundP_ok (g : Pat) : okP (soundP g) = true := by
  unfold soundP
  cases hz : okP g
  · exact anyP_ok
  · exact hz
theorem okP_cnt {g : Pat} (h : okP g = true) : cntP g ≤ 40 := by
  unfold okP at h; simp only [Bool.and_eq_true, Bool.not_eq_true', decide_eq_false_iff_not] at h; omega
theorem okP_tree {g : Pat} (h : okP g = true) : treeP g = true := by
  unfold okP at h; simp only [Bool.and_eq_true] at h; exact h.2.1
theorem okP_dup {g : Pat} (h : okP g = true) : (collP g).length ≤ (sortedV (collP g)).length := by
  unfold okP dupP at h; simp only [Bool.and_eq_true, Bool.not_eq_true', decide_eq_false_iff_not] at h; omega
theorem soundP_sm (g : Pat) : PSm (soundP g) := by have := okP_cnt (soundP_ok g); unfold PSm; omega
/-- without doubles, sorting alone is the set in order -/
theorem compact_full (l : List (List UInt8)) (h : l.length ≤ (Lib.compact l).length) : Lib.compact l = l := by
  unfold Lib.compact Lib.compactUpTo at *
  rw [List.length_map] at h
  have hf : (List.range l.length).filter (Lib.keeps l.toArray) = List.range l.length :=
    List.Sublist.eq_of_length_le List.filter_sublist (by rw [List.length_range]; exact h)
  rw [hf]
  apply List.ext_getElem
  · simp
  · intro i h1 h2
    simp [h2]
theorem sorted_nodup (l : List (List UInt8)) (h : l.length ≤ (sortedV l).length) : (l.mergeSort fun x y => decide (x ≤ y)) = sortedV l := by
  rw [← compact_sort] at h ⊢
  exact (compact_full _ (by rw [List.length_mergeSort]; exact h)).symm
def namesP (g : Pat) : List (List UInt8) := sortedV (collP (soundP g))
theorem NamesP_c (g : Pat) (hg : PSm g) : PC Tryz.prog 42 [Pt g] (SsP (namesP g)) := by
  have h1 := soundP_c g hg
  have hs := soundP_sm g
  have h2 := collectP_n (soundP g) hs
  have hl : (collP (soundP g)).length ≤ 100000000 := Nat.le_trans (collP_len _) hs
  have h3 : PCBk Tryz.prog 71 [.one (.own 6 (collP (soundP g)).length)] 6 (.row 1 ((collP (soundP g)).map Sx.encStr)) (.tup []) (.row 1 ((namesP g).map Sx.encStr)) := by
    have h := PCBk.own1 6 (sortStr_c Go.Proofs.Tryz.sortS (collP (soundP g)) (by omega))
    rw [sorted_nodup _ (okP_dup (soundP_ok g))] at h
    exact h
  have hlen : (collP (soundP g)).length = (namesP g).length := by
    have h := congrArg List.length (sorted_nodup _ (okP_dup (soundP_ok g)))
    rwa [List.length_mergeSort] at h
  rw [hlen] at h2 h3
  refine PCB.of_body Tryz.func42 rfl (by decide) Tryz.ntmps42 Tryz.results42 rfl rfl rfl ?_ rfl rfl
  refine AWP.ghQ ?_
  repeat' (first | (simp only [go_sem, zA, zB, zC, zD, zE, zF, zG, reduceCtorEq, zH, zI, zJ, zK, zL, List.length_map]; all_goals fail_if_success guard_target =ₛ False) | (with_reducible first | ((first | refine seqVC_stepN rfl ?_ | refine AWP.seq ?_ | refine AWP.seqR (by kernel_rfl) ?_); intro K hK) | ((first | refine hK _ _ _ ?_ | refine hK _ _ ?_ | refine hK _ ?_); clear hK K) | refine seqVC_nil ?_ | refine AWP.block ?_ | (refine AWP.cond (by with_unfolding_all rfl) ?_ ?_ <;> intro h <;> (try simp only [zM, zN] at h) <;> try exact absurd h (by decide)) | refine AWP.skip ?_ | refine AWP.ret ?_ | refine AWP.exit ?_ | refine ⟨_, h1, ?_⟩ | refine Or.inr ⟨_, _, h2, ?_⟩) | (apply Or.inr; refine ⟨6, _, _, _, h3, rfl, ?_⟩; simp only [go_sem, zA, zB, zC, zD, zE, zF, zG, reduceCtorEq, zH, zI, zJ, zK, zL]) | (with_reducible first | refine Or.inl ?_) | (clear hK K))
  refine ⟨_, Gh.freeze 6 rfl rfl (by simp only [go_sem, zA, zB, zC, zD, zE, zF, zG, reduceCtorEq, zH, zI, zJ, zK, zL, List.length_map]) (by simp only [go_sem, zA, zB, zC, zD, zE, zF, zG, reduceCtorEq, zH, zI, zJ, zK, zL, List.length_map]), ?_⟩
  simp only [go_sem, zA, zB, zC, zD, zE, zF, zG, reduceCtorEq, zH, zI, zJ, zK, zL, List.length_map]
  all_goals (first | exact fun _ h => (by cases h) | refine fin0 ?_)
theorem PatternNames_c (g : Pat) (hg : PSm g) : PC Tryz.prog 43 [Pt g] (SsP (namesP g)) := by
  have h1 := taken_c g hg
  have hs := soundP_sm g
  have h2 := occurrences_c (soundP g) hs
  have h3 := sorted_c (collP (soundP g)) (by have := collP_len (soundP g); have := okP_cnt (soundP_ok g); omega)
  refine PCB.of_body Tryz.func43 rfl (by decide) Tryz.ntmps43 Tryz.results43 rfl rfl rfl ?_ rfl rfl
  repeat' (first | (simp only [go_sem, zA, zB, zC, zD, zE, zF, zG, reduceCtorEq, zH, zI, zJ, zK, zL]; all_goals fail_if_success guard_target =ₛ False) | (with_reducible first | ((first | refine seqVC_stepN rfl ?_ | refine AWP.seq ?_ | refine AWP.seqR (by kernel_rfl) ?_); intro K hK) | ((first | refine hK _ _ _ ?_ | refine hK _ _ ?_ | refine hK _ ?_); clear hK K) | refine seqVC_nil ?_ | refine AWP.block ?_ | (refine AWP.cond (by with_unfolding_all rfl) ?_ ?_ <;> intro h <;> (try simp only [zM, zN] at h) <;> try exact absurd h (by decide)) | refine AWP.skip ?_ | refine AWP.ret ?_ | refine AWP.exit ?_ | refine ⟨_, h1, ?_⟩ | refine ⟨_, h2, ?_⟩ | refine ⟨_, h3, ?_⟩ | refine Or.inl ?_) | (clear hK K))
  all_goals (first | exact fun _ h => (by cases h) | (refine fin0 ?_; first | rfl | (simp only [zb, cond_true, cond_false, decide_true, decide_false] <;> rfl)))
theorem judgedP_c (g : Pat) (hg : PSm g) : PC Tryz.prog 21 [Pt g] (Bo true) := by
  have h1 := NamesP_c g hg
  have h2 := PatternNames_c g hg
  have h3 := validateP_c g hg
  have h4 := refValidateP_c g hg
  generalize namesP g = L at *
  generalize codeP g = cd at *
  refine PCB.of_body Tryz.func21 rfl (by decide) Tryz.ntmps21 Tryz.results21 rfl rfl rfl ?_ rfl rfl
  repeat' (first | (simp only [go_sem, zA, zB, zC, zD, zE, zF, zG, reduceCtorEq, zH, zI, zJ, zK, zL, List.length_map]; all_goals fail_if_success guard_target =ₛ False) | (with_reducible first | ((first | refine seqVC_stepN rfl ?_ | refine AWP.seq ?_ | refine AWP.seqR (by kernel_rfl) ?_ | refine parVC_stepN rfl ?_ | refine parEVC_stepN rfl ?_ | refine genVC_stepN rfl ?_); intro K hK) | ((first | refine hK _ _ _ ?_ | refine hK _ _ ?_ | refine hK _ ?_); clear hK K) | refine seqVC_nil ?_ | refine parVC_nil ?_ | refine parEVC_nil ?_ | refine genVC_nil ?_ | refine AWP.block ?_ | (refine AWP.cond (by with_unfolding_all rfl) ?_ ?_ <;> intro h <;> (try simp only [zM, zN] at h) <;> try exact absurd h (by decide)) | refine AWP.skip ?_ | refine AWP.ret ?_ | refine AWP.exit ?_ | refine ⟨_, h1, ?_⟩ | refine ⟨_, h2, ?_⟩ | refine AWP.parR mixed (by kernel_rfl) fun K hK => ?_ | refine ⟨(by kernel_rfl : depB _ _ _ = true), ?_⟩ | refine Or.inl ?_) | (clear hK K))
  refine AWP.len 3 rfl fun hlen0 => ?_
  (try rw [List.length_map] at hlen0)
  refine AWP.range (S := Unit) (L) Sx.encStr (fun k s => (5, I .i64 (k : Nat)) :: []) (fun k s => []) [1, 3, 4] [1] (fun k s => Is () s) (()) (by simp only [go_sem, zA, zB, zC, zD, zE, zF, zG, reduceCtorEq, zH, zI, zJ, zK, zL]; exact Gh.to [] (by repeat (first | exact trivial | refine ⟨rfl, ?_⟩ | refine ⟨by (simp only [go_sem, zA, zB, zC, zD, zE, zF, zG, reduceCtorEq, zH, zI, zJ, zK, zL, List.length_append, List.length_map, List.length_cons, List.length_nil, Nat.zero_add]) <;> rfl, ?_⟩)) (by repeat (first | exact trivial | refine ⟨rfl, ?_⟩ | refine ⟨by (simp only [go_sem, zA, zB, zC, zD, zE, zF, zG, reduceCtorEq, zH, zI, zJ, zK, zL, List.length_append, List.length_map, List.length_cons, List.length_nil, Nat.zero_add]) <;> rfl, ?_⟩)) rfl rfl rfl) ?_ ?_ ?_
  · rfl
  · intro k s x hlt hx hx' hb hok
    simp only [go_sem, zA, zB, zC, zD, zE, zF, zG, reduceCtorEq, zH, zI, zJ, zK, zL]
    repeat' (first | (simp only [go_sem, zA, zB, zC, zD, zE, zF, zG, reduceCtorEq, zH, zI, zJ, zK, zL, Sx.encStr, List.length_map, hb]; all_goals fail_if_success guard_target =ₛ False) | (with_reducible first | ((first | refine seqVC_stepN rfl ?_ | refine AWP.seq ?_ | refine AWP.seqR (by kernel_rfl) ?_ | refine parVC_stepN rfl ?_ | refine parEVC_stepN rfl ?_ | refine genVC_stepN rfl ?_); intro K hK) | ((first | refine hK _ _ _ ?_ | refine hK _ _ ?_ | refine hK _ ?_); clear hK K) | refine seqVC_nil ?_ | refine parVC_nil ?_ | refine parEVC_nil ?_ | refine genVC_nil ?_ | refine AWP.block ?_ | (refine AWP.cond (by with_unfolding_all rfl) ?_ ?_ <;> intro h <;> (try simp only [zM, zN] at h) <;> try exact absurd h (by decide)) | refine AWP.skip ?_ | refine AWP.ret ?_ | refine AWP.exit ?_ | refine ⟨by omega, Sx.encStr x, hx', ?_⟩ | refine AWP.parR mixed (by kernel_rfl) fun K hK => ?_ | refine ⟨(by kernel_rfl : depB _ _ _ = true), ?_⟩ | refine Or.inl ?_) | (clear hK K))
    all_goals (rw [wrap_succ hlt hlen0])
    all_goals (refine ⟨(), ?_, Gh.to [] (by repeat (first | exact trivial | refine ⟨rfl, ?_⟩ | refine ⟨by (simp only [go_sem, zA, zB, zC, zD, zE, zF, zG, reduceCtorEq, zH, zI, zJ, zK, zL, List.length_append, List.length_map, List.length_cons, List.length_nil, Nat.zero_add]) <;> rfl, ?_⟩)) (by repeat (first | exact trivial | refine ⟨rfl, ?_⟩ | refine ⟨by (simp only [go_sem, zA, zB, zC, zD, zE, zF, zG, reduceCtorEq, zH, zI, zJ, zK, zL, List.length_append, List.length_map, List.length_cons, List.length_nil, Nat.zero_add]) <;> rfl, ?_⟩)) rfl rfl rfl⟩)
    all_goals rfl
  · intro s hb hok
    simp only [go_sem, zA, zB, zC, zD, zE, zF, zG, reduceCtorEq, zH, zI, zJ, zK, zL]
    repeat' (first | (simp only [go_sem, zA, zB, zC, zD, zE, zF, zG, reduceCtorEq, zH, zI, zJ, zK, zL, List.length_map, hb]; all_goals fail_if_success guard_target =ₛ False) | (with_reducible first | ((first | refine seqVC_stepN rfl ?_ | refine AWP.seq ?_ | refine AWP.seqR (by kernel_rfl) ?_ | refine parVC_stepN rfl ?_ | refine parEVC_stepN rfl ?_ | refine genVC_stepN rfl ?_); intro K hK) | ((first | refine hK _ _ _ ?_ | refine hK _ _ ?_ | refine hK _ ?_); clear hK K) | refine seqVC_nil ?_ | refine parVC_nil ?_ | refine parEVC_nil ?_ | refine genVC_nil ?_ | refine AWP.block ?_ | (refine AWP.cond (by with_unfolding_all rfl) ?_ ?_ <;> intro h <;> (try simp only [zM, zN] at h) <;> try exact absurd h (by decide)) | refine AWP.skip ?_ | refine AWP.ret ?_ | refine AWP.exit ?_ | refine ⟨_, h3, ?_⟩ | refine ⟨_, h4, ?_⟩ | refine AWP.parR mixed (by kernel_rfl) fun K hK => ?_ | refine ⟨(by kernel_rfl : depB _ _ _ = true), ?_⟩ | refine Or.inl ?_) | (clear hK K))
    all_goals (first | exact fun _ h => (by cases h) | (refine fin0 ?_; first | rfl | (simp only [zb, cond_true, cond_false, decide_true, decide_false] <;> rfl)))
@[go_sem] theorem mp92 : mpT Tryz.prog 92 = some ([.int .i64 0, .int .i64 0, .str [], .nil 7, .nil 2, .nil 9, .nil 1], true) := by kernel_rfl
abbrev ME := List (List UInt8 × Val)
def encM (m : ME) : List (List UInt8 × List C) := m.map fun p => (p.1, encVal p.2)
def putV (k : List UInt8) (v : Val) : ME → ME
  | [] => [(k, v)]
  | p :: m => bif decide (p.1 = k) then (k, v) :: m else p :: putV k v m
def getV (k : List UInt8) : ME → Option Val
  | [] => none
  | p :: m => bif decide (p.1 = k) then some p.2 else getV k m
theorem putA_enc (k : List UInt8) (v : Val) : ∀ m : ME, putA k (encVal v) (encM m) = encM (putV k v m)
  | [] => rfl
  | p :: m => by
    have ih := putA_enc k v m
    unfold encM at ih ⊢
    simp only [List.map_cons, putA, putV]
    cases decide (p.1 = k)
    · simp only [cond_false, List.map_cons, ih]
    · simp only [cond_true, List.map_cons]
theorem assoc_enc (k : List UInt8) : ∀ m : ME, assoc k (encM m) = (getV k m).map encVal
  | [] => rfl
  | p :: m => by
    have ih := assoc_enc k m
    unfold encM at ih ⊢
    simp only [List.map_cons, assoc, getV]
    cases decide (p.1 = k)
    · simp only [cond_false, ih]
    · simp only [cond_true, Option.map_some]
abbrev MR := Bool × ME
/-- the value of a key of a map value -/
def valAt (v : Val) (k : KeyD) : Option Val :=
  bif decide (findI (fun x => sameK k x) 0 v.keys < 0) then none else v.kids[(findI (fun x => sameK k x) 0 v.keys).toNat]?
mutual
def matchP : Pat → Val → ME → MR
  | ⟨kind, num, text, kids, keys⟩, v, m =>
    bif decide (kind = 1) then (true, m) else
    bif decide (kind = 2) then (true, putV text v m) else
    bif decide (kind = 10) then matchH kids v (putV text v m) else
    bif decide (kind = 3) then (decide (v.kind = 1) && decide (v.num = num), m) else
    bif decide (kind = 4) then (decide (v.kind = 2) && decide (v.text = text), m) else
    bif decide (kind = 5) then (decide (v.kind = 3) && decide (v.text = text), m) else
    bif decide (kind = 6) then (decide (v.kind = 5), m) else
    bif decide (kind = 7) then (bif decide (v.kind = 6) && decide (kids.length = v.kids.length) then matchL kids v.kids m else (false, m)) else
    bif decide (kind = 8) then (bif decide (v.kind = 7) && decide (kids.length = v.kids.length) then matchL kids v.kids m else (false, m)) else
    bif decide (v.kind = 8) then matchM keys kids v m else (false, m)
def matchH : List Pat → Val → ME → MR
  | [], _, m => (false, m)
  | g :: _, v, m => matchP g v m
def matchL : List Pat → List Val → ME → MR
  | g :: l, v :: vs, m => bif (matchP g v m).1 then matchL l vs (matchP g v m).2 else (false, (matchP g v m).2)
  | _, _, m => (true, m)
def matchM : List KeyD → List Pat → Val → ME → MR
  | k :: ks, g :: l, v, m => match valAt v k with
    | some w => bif (matchP g w m).1 then matchM ks l v (matchP g w m).2 else (false, (matchP g w m).2)
    | none => (false, m)
  | _, _, _, m => (true, m)
end
def MatchC (g : Pat) (v : Val) : Prop := ∀ m : ME, PCB Tryz.prog 76 [Pt g, Vt v, .one (.mp pin)] [(pin, .mp true (encM m))] (Bo (matchP g v m).1) [(pin, .mp true (encM (matchP g v m).2))]
theorem matchL_drop {l : List Pat} {vs : List Val} {k : Nat} {g : Pat} {v : Val} {m : ME} (hg : l[k]? = some g) (hv : vs[k]? = some v) :
    matchL (l.drop k) (vs.drop k) m = bif (matchP g v m).1 then matchL (l.drop (k + 1)) (vs.drop (k + 1)) (matchP g v m).2 else (false, (matchP g v m).2) := by
  obtain ⟨h1, h2⟩ := List.getElem?_eq_some_iff.1 hg
  obtain ⟨h3, h4⟩ := List.getElem?_eq_some_iff.1 hv
  rw [List.drop_eq_getElem_cons h1, List.drop_eq_getElem_cons h3, h2, h4, matchL]
theorem matchL_nil (vs : List Val) (m : ME) : matchL [] vs m = (true, m) := by cases vs <;> rfl
theorem matchAll_c (l : List Pat) (vs : List Val) (m : ME) (hl : ∀ g ∈ l, ∀ v ∈ vs, MatchC g v) :
    PCB Tryz.prog 105 [.one (.dat (.sl 5 (l.map encP))), .one (.dat (.sl 7 (vs.map encVal))), .one (.mp pin)] [(pin, .mp true (encM m))]
      (Bo (bif decide (l.length = vs.length) then matchL l vs m else (false, m)).1) [(pin, .mp true (encM (bif decide (l.length = vs.length) then matchL l vs m else (false, m)).2))] := by
  by_cases hlen : l.length = vs.length
  case neg =>
    have hd : decide ((l.length : Int) = (vs.length : Int)) = false := by simp only [decide_eq_false_iff_not]; omega
    rw [decide_eq_false hlen]
    refine PCB.of_body Tryz.func105 rfl (by decide) Tryz.ntmps105 Tryz.results105 rfl rfl rfl ?_ rfl rfl
    repeat' (first | (simp only [go_sem, zA, zB, zC, zD, zE, zF, zG, reduceCtorEq, zH, zI, zJ, zK, zL, pin, List.length_map, hd]; all_goals fail_if_success guard_target =ₛ False) | (with_reducible first | ((first | refine seqVC_stepN rfl ?_ | refine AWP.seq ?_ | refine AWP.seqR (by kernel_rfl) ?_ | refine parVC_stepN rfl ?_ | refine parEVC_stepN rfl ?_ | refine genVC_stepN rfl ?_); intro K hK) | ((first | refine hK _ _ _ ?_ | refine hK _ _ ?_ | refine hK _ ?_); clear hK K) | refine seqVC_nil ?_ | refine parVC_nil ?_ | refine parEVC_nil ?_ | refine genVC_nil ?_ | refine AWP.block ?_ | (refine AWP.cond (by with_unfolding_all rfl) ?_ ?_ <;> intro h <;> (try simp only [zM, zN] at h) <;> try exact absurd h (by decide)) | refine AWP.skip ?_ | refine AWP.ret ?_ | refine AWP.exit ?_ | refine AWP.parR mixed (by kernel_rfl) fun K hK => ?_ | refine ⟨(by kernel_rfl : depB _ _ _ = true), ?_⟩ | refine Or.inl ?_) | (clear hK K))
    all_goals ((try refine ⟨by first | trivial | rfl, ?_⟩); intro q hq; simp only [List.mem_singleton] at hq; subst hq; simp)
  have hd : decide ((l.length : Int) = (vs.length : Int)) = true := by simp only [decide_eq_true_eq]; omega
  rw [decide_eq_true hlen, cond_true]
  refine PCB.of_body Tryz.func105 rfl (by decide) Tryz.ntmps105 Tryz.results105 rfl rfl rfl ?_ rfl rfl
  repeat' (first | (simp only [go_sem, zA, zB, zC, zD, zE, zF, zG, reduceCtorEq, zH, zI, zJ, zK, zL, pin, List.length_map, hd]; all_goals fail_if_success guard_target =ₛ False) | (with_reducible first | ((first | refine seqVC_stepN rfl ?_ | refine AWP.seq ?_ | refine AWP.seqR (by kernel_rfl) ?_ | refine parVC_stepN rfl ?_ | refine parEVC_stepN rfl ?_ | refine genVC_stepN rfl ?_); intro K hK) | ((first | refine hK _ _ _ ?_ | refine hK _ _ ?_ | refine hK _ ?_); clear hK K) | refine seqVC_nil ?_ | refine parVC_nil ?_ | refine parEVC_nil ?_ | refine genVC_nil ?_ | refine AWP.block ?_ | (refine AWP.cond (by with_unfolding_all rfl) ?_ ?_ <;> intro h <;> (try simp only [zM, zN] at h) <;> try exact absurd h (by decide)) | refine AWP.skip ?_ | refine AWP.ret ?_ | refine AWP.exit ?_ | refine AWP.parR mixed (by kernel_rfl) fun K hK => ?_ | refine ⟨(by kernel_rfl : depB _ _ _ = true), ?_⟩ | refine Or.inl ?_) | (clear hK K))
  refine AWP.len 14 rfl fun hlen0 => ?_
  (try rw [List.length_map] at hlen0)
  refine AWP.range (S := ME) (l) encP (fun k s => (16, I .i64 (k : Nat)) :: []) (fun k s => [(1000000, .mp true (encM s))]) [1, 2, 14, 15] [] (fun k s => matchL l vs m = matchL (l.drop k) (vs.drop k) s) (m) (by simp only [go_sem, zA, zB, zC, zD, zE, zF, zG, reduceCtorEq, zH, zI, zJ, zK, zL, pin]; exact Gh.to [] (by repeat (first | exact trivial | refine ⟨rfl, ?_⟩ | refine ⟨by (simp only [go_sem, zA, zB, zC, zD, zE, zF, zG, reduceCtorEq, zH, zI, zJ, zK, zL, List.length_append, List.length_map, List.length_cons, List.length_nil, Nat.zero_add]) <;> rfl, ?_⟩)) (by repeat (first | exact trivial | refine ⟨rfl, ?_⟩ | refine ⟨by (simp only [go_sem, zA, zB, zC, zD, zE, zF, zG, reduceCtorEq, zH, zI, zJ, zK, zL, List.length_append, List.length_map, List.length_cons, List.length_nil, Nat.zero_add]) <;> rfl, ?_⟩)) rfl rfl rfl) ?_ ?_ ?_
  · rfl
  · intro k s x hlt hx hx' hb hok
    simp only [go_sem, zA, zB, zC, zD, zE, zF, zG, reduceCtorEq, zH, zI, zJ, zK, zL]
    obtain ⟨v, hv, hv', _, _⟩ := at_lt (enc := encVal) (show k < vs.length by omega)
    have hix := hl x (List.mem_of_getElem? hx) v (List.mem_of_getElem? hv) s
    rw [matchL_drop hx hv] at hok
    cases hz : (matchP x v s).1 <;> rw [hz] at hok hix <;> simp only [cond_true, cond_false] at hok
    ·
      repeat' (first | (simp only [go_sem, zA, zB, zC, zD, zE, zF, zG, reduceCtorEq, zH, zI, zJ, zK, zL, pin, List.length_map, hb, hz]; all_goals fail_if_success guard_target =ₛ False) | (with_reducible first | ((first | refine seqVC_stepN rfl ?_ | refine AWP.seq ?_ | refine AWP.seqR (by kernel_rfl) ?_ | refine parVC_stepN rfl ?_ | refine parEVC_stepN rfl ?_ | refine genVC_stepN rfl ?_); intro K hK) | ((first | refine hK _ _ _ ?_ | refine hK _ _ ?_ | refine hK _ ?_); clear hK K) | refine seqVC_nil ?_ | refine parVC_nil ?_ | refine parEVC_nil ?_ | refine genVC_nil ?_ | refine AWP.block ?_ | (refine AWP.cond (by with_unfolding_all rfl) ?_ ?_ <;> intro h <;> (try simp only [zM, zN] at h) <;> try exact absurd h (by decide)) | refine AWP.skip ?_ | refine AWP.ret ?_ | refine AWP.exit ?_ | refine ⟨by omega, encP x, hx', ?_⟩ | refine ⟨by omega, encVal v, hv', ?_⟩) | (refine ⟨1000000, _, _, _, PCBk.mk 1000000 hix, rfl, ?_⟩) | (with_reducible first | (refine AWP.genR (id := 6) [6] [1000000] mixed (by kernel_rfl) fun K hK => ?_; simp only [Bx.outs, Bx.drop, cond_true, cond_false, Nat.reduceBEq, go_sem]) | refine AWP.parR mixed (by kernel_rfl) fun K hK => ?_ | refine ⟨(by kernel_rfl : depB _ _ _ = true), ?_⟩ | refine Or.inl ?_) | (clear hK K))
      all_goals (rw [hok]; (try refine ⟨by first | trivial | rfl, ?_⟩); intro q hq; simp only [List.mem_singleton] at hq; subst hq; simp)
    ·
      repeat' (first | (simp only [go_sem, zA, zB, zC, zD, zE, zF, zG, reduceCtorEq, zH, zI, zJ, zK, zL, pin, List.length_map, hb, hz]; all_goals fail_if_success guard_target =ₛ False) | (with_reducible first | ((first | refine seqVC_stepN rfl ?_ | refine AWP.seq ?_ | refine AWP.seqR (by kernel_rfl) ?_ | refine parVC_stepN rfl ?_ | refine parEVC_stepN rfl ?_ | refine genVC_stepN rfl ?_); intro K hK) | ((first | refine hK _ _ _ ?_ | refine hK _ _ ?_ | refine hK _ ?_); clear hK K) | refine seqVC_nil ?_ | refine parVC_nil ?_ | refine parEVC_nil ?_ | refine genVC_nil ?_ | refine AWP.block ?_ | (refine AWP.cond (by with_unfolding_all rfl) ?_ ?_ <;> intro h <;> (try simp only [zM, zN] at h) <;> try exact absurd h (by decide)) | refine AWP.skip ?_ | refine AWP.ret ?_ | refine AWP.exit ?_ | refine ⟨by omega, encP x, hx', ?_⟩ | refine ⟨by omega, encVal v, hv', ?_⟩) | (refine ⟨1000000, _, _, _, PCBk.mk 1000000 hix, rfl, ?_⟩) | (with_reducible first | (refine AWP.genR (id := 6) [6] [1000000] mixed (by kernel_rfl) fun K hK => ?_; simp only [Bx.outs, Bx.drop, cond_true, cond_false, Nat.reduceBEq, go_sem]) | refine AWP.parR mixed (by kernel_rfl) fun K hK => ?_ | refine ⟨(by kernel_rfl : depB _ _ _ = true), ?_⟩ | refine Or.inl ?_) | (clear hK K))
      all_goals (rw [wrap_succ hlt hlen0])
      all_goals (refine ⟨(matchP x v s).2, ?_, Gh.to [] (by repeat (first | exact trivial | refine ⟨rfl, ?_⟩ | refine ⟨by (simp only [go_sem, zA, zB, zC, zD, zE, zF, zG, reduceCtorEq, zH, zI, zJ, zK, zL, List.length_append, List.length_map, List.length_cons, List.length_nil, Nat.zero_add]) <;> rfl, ?_⟩)) (by repeat (first | exact trivial | refine ⟨rfl, ?_⟩ | refine ⟨by (simp only [go_sem, zA, zB, zC, zD, zE, zF, zG, reduceCtorEq, zH, zI, zJ, zK, zL, List.length_append, List.length_map, List.length_cons, List.length_nil, Nat.zero_add]) <;> rfl, ?_⟩)) rfl rfl rfl⟩)
      all_goals exact hok
  · intro s hb hok
    simp only [go_sem, zA, zB, zC, zD, zE, zF, zG, reduceCtorEq, zH, zI, zJ, zK, zL]
    rw [List.drop_length, matchL_nil] at hok
    repeat' (first | (simp only [go_sem, zA, zB, zC, zD, zE, zF, zG, reduceCtorEq, zH, zI, zJ, zK, zL, pin, List.length_map, hb]; all_goals fail_if_success guard_target =ₛ False) | (with_reducible first | ((first | refine seqVC_stepN rfl ?_ | refine AWP.seq ?_ | refine AWP.seqR (by kernel_rfl) ?_ | refine parVC_stepN rfl ?_ | refine parEVC_stepN rfl ?_ | refine genVC_stepN rfl ?_); intro K hK) | ((first | refine hK _ _ _ ?_ | refine hK _ _ ?_ | refine hK _ ?_); clear hK K) | refine seqVC_nil ?_ | refine parVC_nil ?_ | refine parEVC_nil ?_ | refine genVC_nil ?_ | refine AWP.block ?_ | (refine AWP.cond (by with_unfolding_all rfl) ?_ ?_ <;> intro h <;> (try simp only [zM, zN] at h) <;> try exact absurd h (by decide)) | refine AWP.skip ?_ | refine AWP.ret ?_ | refine AWP.exit ?_ | refine AWP.parR mixed (by kernel_rfl) fun K hK => ?_ | refine ⟨(by kernel_rfl : depB _ _ _ = true), ?_⟩ | refine Or.inl ?_) | (clear hK K))
    all_goals (rw [hok]; (try refine ⟨by first | trivial | rfl, ?_⟩); intro q hq; simp only [List.mem_singleton] at hq; subst hq; simp)
theorem matchM_drop {ks : List KeyD} {l : List Pat} {i : Nat} {k : KeyD} {g : Pat} {v : Val} {m : ME} (hk : ks[i]? = some k) (hg : l[i]? = some g) :
    matchM (ks.drop i) (l.drop i) v m = match valAt v k with
      | some w => bif (matchP g w m).1 then matchM (ks.drop (i + 1)) (l.drop (i + 1)) v (matchP g w m).2 else (false, (matchP g w m).2)
      | none => (false, m) := by
  obtain ⟨h1, h2⟩ := List.getElem?_eq_some_iff.1 hk
  obtain ⟨h3, h4⟩ := List.getElem?_eq_some_iff.1 hg
  rw [List.drop_eq_getElem_cons h1, List.drop_eq_getElem_cons h3, h2, h4, matchM]
  all_goals (cases valAt v k <;> rfl)
theorem matchM_nil (l : List Pat) (v : Val) (m : ME) : matchM [] l v m = (true, m) := by cases l <;> rfl
theorem matchMap_c (g : Pat) (v : Val) (m : ME) (hgk : g.keys.length ≤ g.kids.length) (hvk : v.keys.length = v.kids.length) (hl : ∀ k ∈ g.kids, ∀ w ∈ v.kids, MatchC k w) :
    PCB Tryz.prog 106 [Pt g, Vt v, .one (.mp pin)] [(pin, .mp true (encM m))] (Bo (matchM g.keys g.kids v m).1) [(pin, .mp true (encM (matchM g.keys g.kids v m).2))] := by
  refine PCB.of_body Tryz.func106 rfl (by decide) Tryz.ntmps106 Tryz.results106 rfl rfl rfl ?_ rfl rfl
  repeat' (first | (simp only [go_sem, zA, zB, zC, zD, zE, zF, zG, reduceCtorEq, zH, zI, zJ, zK, zL, pin, encP_eq g, encVal_eq v, List.length_map]; all_goals fail_if_success guard_target =ₛ False) | (with_reducible first | ((first | refine seqVC_stepN rfl ?_ | refine seqVC_stepG rfl (by with_unfolding_all rfl) ?_ | refine AWP.seq ?_ | refine AWP.seqR (by kernel_rfl) ?_ | refine parVC_stepN rfl ?_ | refine parVC_stepG rfl (by with_unfolding_all rfl) ?_ | refine parEVC_stepN rfl ?_ | refine parEVC_stepG rfl (by with_unfolding_all rfl) ?_ | refine genVC_stepN rfl ?_ | refine genVC_stepG rfl (by with_unfolding_all rfl) ?_); intro K hK) | ((first | refine hK _ _ _ ?_ | refine hK _ _ ?_ | refine hK _ ?_); clear hK K) | refine seqVC_nil ?_ | refine parVC_nil ?_ | refine parEVC_nil ?_ | refine genVC_nil ?_ | refine AWP.block ?_ | (refine AWP.cond (by with_unfolding_all rfl) ?_ ?_ <;> intro h <;> (try simp only [zM, zN] at h) <;> try exact absurd h (by decide)) | refine AWP.skip ?_ | refine AWP.ret ?_ | refine AWP.exit ?_ | (refine ⟨fun h => ?_, fun h => ?_⟩ <;> (try simp only [zM, zN] at h) <;> try simp only [h]) | refine AWP.parR mixed (by kernel_rfl) fun K hK => ?_ | refine ⟨(by kernel_rfl : depB _ _ _ = true), ?_⟩ | refine Or.inl ?_) | (clear hK K))
  refine AWP.len 11 rfl fun hlen0 => ?_
  (try rw [List.length_map] at hlen0)
  refine AWP.range (S := ME) (g.keys) encKey (fun k s => (13, I .i64 (k : Nat)) :: []) (fun k s => [(1000000, .mp true (encM s))]) [2, 3, 4, 11, 12] [3, 4] (fun k s => matchM g.keys g.kids v m = matchM (g.keys.drop k) (g.kids.drop k) v s) (m) (by simp only [go_sem, zA, zB, zC, zD, zE, zF, zG, reduceCtorEq, zH, zI, zJ, zK, zL, pin, encP_eq g, encVal_eq v]; exact Gh.to [] (by repeat (first | exact trivial | refine ⟨rfl, ?_⟩ | refine ⟨by (simp only [go_sem, zA, zB, zC, zD, zE, zF, zG, reduceCtorEq, zH, zI, zJ, zK, zL, List.length_append, List.length_map, List.length_cons, List.length_nil, Nat.zero_add]) <;> rfl, ?_⟩)) (by repeat (first | exact trivial | refine ⟨rfl, ?_⟩ | refine ⟨by (simp only [go_sem, zA, zB, zC, zD, zE, zF, zG, reduceCtorEq, zH, zI, zJ, zK, zL, List.length_append, List.length_map, List.length_cons, List.length_nil, Nat.zero_add]) <;> rfl, ?_⟩)) rfl rfl rfl) ?_ ?_ ?_
  · rfl
  · intro k s x hlt hx hx' hb hok
    simp only [go_sem, zA, zB, zC, zD, zE, zF, zG, reduceCtorEq, zH, zI, zJ, zK, zL]
    obtain ⟨gk, hg1, hg2, _, _⟩ := at_lt (enc := encP) (show k < g.kids.length by omega)
    have hix := indexKey_c v.keys x
    rw [matchM_drop hx hg1] at hok
    rcases find_cases (fun y => sameK x y) v.keys 0 with h | ⟨n, h, _, h2⟩
    · have hva : valAt v x = none := by unfold valAt; rw [h]; rfl
      rw [hva] at hok
      rw [h] at hix
      repeat' (first | (simp only [go_sem, zA, zB, zC, zD, zE, zF, zG, reduceCtorEq, zH, zI, zJ, zK, zL, pin, encP_eq g, encVal_eq v, List.length_map, hb, Int.reduceLT]; all_goals fail_if_success guard_target =ₛ False) | (with_reducible first | ((first | refine seqVC_stepN rfl ?_ | refine seqVC_stepG rfl (by with_unfolding_all rfl) ?_ | refine AWP.seq ?_ | refine AWP.seqR (by kernel_rfl) ?_ | refine parVC_stepN rfl ?_ | refine parVC_stepG rfl (by with_unfolding_all rfl) ?_ | refine parEVC_stepN rfl ?_ | refine parEVC_stepG rfl (by with_unfolding_all rfl) ?_ | refine genVC_stepN rfl ?_ | refine genVC_stepG rfl (by with_unfolding_all rfl) ?_); intro K hK) | ((first | refine hK _ _ _ ?_ | refine hK _ _ ?_ | refine hK _ ?_); clear hK K) | refine seqVC_nil ?_ | refine parVC_nil ?_ | refine parEVC_nil ?_ | refine genVC_nil ?_ | refine AWP.block ?_ | (refine AWP.cond (by with_unfolding_all rfl) ?_ ?_ <;> intro h <;> (try simp only [zM, zN] at h) <;> try exact absurd h (by decide)) | refine AWP.skip ?_ | refine AWP.ret ?_ | refine AWP.exit ?_ | (refine ⟨fun h => ?_, fun h => ?_⟩ <;> (try simp only [zM, zN] at h) <;> try simp only [h]) | refine ⟨_, hix, ?_⟩ | refine ⟨by omega, encKey x, hx', ?_⟩ | refine AWP.parR mixed (by kernel_rfl) fun K hK => ?_ | refine ⟨(by kernel_rfl : depB _ _ _ = true), ?_⟩ | refine Or.inl ?_) | (clear hK K))
      all_goals (rw [hok]; (try refine ⟨by first | trivial | rfl, ?_⟩); intro q hq; simp only [List.mem_singleton] at hq; subst hq; simp)
    · obtain ⟨w, hw, hw', _, _⟩ := at_lt (enc := encVal) (show n < v.kids.length by omega)
      have hneg : decide ((n : Int) < 0) = false := by simp only [decide_eq_false_iff_not]; omega
      have hva : valAt v x = some w := by unfold valAt; rw [h, hneg, cond_false, Int.toNat_natCast, hw]
      have hmx := hl gk (List.mem_of_getElem? hg1) w (List.mem_of_getElem? hw) s
      rw [hva] at hok
      rw [h] at hix
      simp only at hok
      cases hz : (matchP gk w s).1 <;> rw [hz] at hok hmx <;> simp only [cond_true, cond_false] at hok
      ·
        repeat' (first | (simp only [go_sem, zA, zB, zC, zD, zE, zF, zG, reduceCtorEq, zH, zI, zJ, zK, zL, pin, encP_eq g, encVal_eq v, List.length_map, hb, hz, hneg]; all_goals fail_if_success guard_target =ₛ False) | (with_reducible first | ((first | refine seqVC_stepN rfl ?_ | refine seqVC_stepG rfl (by with_unfolding_all rfl) ?_ | refine AWP.seq ?_ | refine AWP.seqR (by kernel_rfl) ?_ | refine parVC_stepN rfl ?_ | refine parVC_stepG rfl (by with_unfolding_all rfl) ?_ | refine parEVC_stepN rfl ?_ | refine parEVC_stepG rfl (by with_unfolding_all rfl) ?_ | refine genVC_stepN rfl ?_ | refine genVC_stepG rfl (by with_unfolding_all rfl) ?_); intro K hK) | ((first | refine hK _ _ _ ?_ | refine hK _ _ ?_ | refine hK _ ?_); clear hK K) | refine seqVC_nil ?_ | refine parVC_nil ?_ | refine parEVC_nil ?_ | refine genVC_nil ?_ | refine AWP.block ?_ | (refine AWP.cond (by with_unfolding_all rfl) ?_ ?_ <;> intro h <;> (try simp only [zM, zN] at h) <;> try exact absurd h (by decide)) | refine AWP.skip ?_ | refine AWP.ret ?_ | refine AWP.exit ?_ | (refine ⟨fun h => ?_, fun h => ?_⟩ <;> (try simp only [zM, zN] at h) <;> try simp only [h]) | refine ⟨_, hix, ?_⟩ | refine ⟨by omega, encKey x, hx', ?_⟩ | refine ⟨by omega, encP gk, hg2, ?_⟩ | refine ⟨by omega, encVal w, hw', ?_⟩) | (refine ⟨1000000, _, _, _, PCBk.mk 1000000 hmx, rfl, ?_⟩) | (with_reducible first | (refine AWP.genR (id := 5) [14] [1000000] mixed (by kernel_rfl) fun K hK => ?_; simp only [Bx.outs, Bx.drop, cond_true, cond_false, Nat.reduceBEq, go_sem]) | refine AWP.parR mixed (by kernel_rfl) fun K hK => ?_ | refine ⟨(by kernel_rfl : depB _ _ _ = true), ?_⟩ | refine Or.inl ?_) | (clear hK K))
        all_goals (rw [hok]; (try refine ⟨by first | trivial | rfl, ?_⟩); intro q hq; simp only [List.mem_singleton] at hq; subst hq; simp)
      ·
        repeat' (first | (simp only [go_sem, zA, zB, zC, zD, zE, zF, zG, reduceCtorEq, zH, zI, zJ, zK, zL, pin, encP_eq g, encVal_eq v, List.length_map, hb, hz, hneg]; all_goals fail_if_success guard_target =ₛ False) | (with_reducible first | ((first | refine seqVC_stepN rfl ?_ | refine seqVC_stepG rfl (by with_unfolding_all rfl) ?_ | refine AWP.seq ?_ | refine AWP.seqR (by kernel_rfl) ?_ | refine parVC_stepN rfl ?_ | refine parVC_stepG rfl (by with_unfolding_all rfl) ?_ | refine parEVC_stepN rfl ?_ | refine parEVC_stepG rfl (by with_unfolding_all rfl) ?_ | refine genVC_stepN rfl ?_ | refine genVC_stepG rfl (by with_unfolding_all rfl) ?_); intro K hK) | ((first | refine hK _ _ _ ?_ | refine hK _ _ ?_ | refine hK _ ?_); clear hK K) | refine seqVC_nil ?_ | refine parVC_nil ?_ | refine parEVC_nil ?_ | refine genVC_nil ?_ | refine AWP.block ?_ | (refine AWP.cond (by with_unfolding_all rfl) ?_ ?_ <;> intro h <;> (try simp only [zM, zN] at h) <;> try exact absurd h (by decide)) | refine AWP.skip ?_ | refine AWP.ret ?_ | refine AWP.exit ?_ | (refine ⟨fun h => ?_, fun h => ?_⟩ <;> (try simp only [zM, zN] at h) <;> try simp only [h]) | refine ⟨_, hix, ?_⟩ | refine ⟨by omega, encKey x, hx', ?_⟩ | refine ⟨by omega, encP gk, hg2, ?_⟩ | refine ⟨by omega, encVal w, hw', ?_⟩) | (refine ⟨1000000, _, _, _, PCBk.mk 1000000 hmx, rfl, ?_⟩) | (with_reducible first | (refine AWP.genR (id := 5) [14] [1000000] mixed (by kernel_rfl) fun K hK => ?_; simp only [Bx.outs, Bx.drop, cond_true, cond_false, Nat.reduceBEq, go_sem]) | refine AWP.parR mixed (by kernel_rfl) fun K hK => ?_ | refine ⟨(by kernel_rfl : depB _ _ _ = true), ?_⟩ | refine Or.inl ?_) | (clear hK K))
        all_goals (rw [wrap_succ hlt hlen0])
        all_goals (refine ⟨(matchP gk w s).2, ?_, Gh.to [] (by repeat (first | exact trivial | refine ⟨rfl, ?_⟩ | refine ⟨by (simp only [go_sem, zA, zB, zC, zD, zE, zF, zG, reduceCtorEq, zH, zI, zJ, zK, zL, List.length_append, List.length_map, List.length_cons, List.length_nil, Nat.zero_add]) <;> rfl, ?_⟩)) (by repeat (first | exact trivial | refine ⟨rfl, ?_⟩ | refine ⟨by (simp only [go_sem, zA, zB, zC, zD, zE, zF, zG, reduceCtorEq, zH, zI, zJ, zK, zL, List.length_append, List.length_map, List.length_cons, List.length_nil, Nat.zero_add]) <;> rfl, ?_⟩)) rfl rfl rfl⟩)
        all_goals exact hok
  · intro s hb hok
    simp only [go_sem, zA, zB, zC, zD, zE, zF, zG, reduceCtorEq, zH, zI, zJ, zK, zL]
    rw [List.drop_length, matchM_nil] at hok
    repeat' (first | (simp only [go_sem, zA, zB, zC, zD, zE, zF, zG, reduceCtorEq, zH, zI, zJ, zK, zL, pin, encP_eq g, encVal_eq v, List.length_map, hb]; all_goals fail_if_success guard_target =ₛ False) | (with_reducible first | ((first | refine seqVC_stepN rfl ?_ | refine seqVC_stepG rfl (by with_unfolding_all rfl) ?_ | refine AWP.seq ?_ | refine AWP.seqR (by kernel_rfl) ?_ | refine parVC_stepN rfl ?_ | refine parVC_stepG rfl (by with_unfolding_all rfl) ?_ | refine parEVC_stepN rfl ?_ | refine parEVC_stepG rfl (by with_unfolding_all rfl) ?_ | refine genVC_stepN rfl ?_ | refine genVC_stepG rfl (by with_unfolding_all rfl) ?_); intro K hK) | ((first | refine hK _ _ _ ?_ | refine hK _ _ ?_ | refine hK _ ?_); clear hK K) | refine seqVC_nil ?_ | refine parVC_nil ?_ | refine parEVC_nil ?_ | refine genVC_nil ?_ | refine AWP.block ?_ | (refine AWP.cond (by with_unfolding_all rfl) ?_ ?_ <;> intro h <;> (try simp only [zM, zN] at h) <;> try exact absurd h (by decide)) | refine AWP.skip ?_ | refine AWP.ret ?_ | refine AWP.exit ?_ | (refine ⟨fun h => ?_, fun h => ?_⟩ <;> (try simp only [zM, zN] at h) <;> try simp only [h]) | refine AWP.parR mixed (by kernel_rfl) fun K hK => ?_ | refine ⟨(by kernel_rfl : depB _ _ _ = true), ?_⟩ | refine Or.inl ?_) | (clear hK K))
    all_goals (rw [hok]; (try refine ⟨by first | trivial | rfl, ?_⟩); intro q hq; simp only [List.mem_singleton] at hq; subst hq; simp)
end Go.Proofs.YteobojeemflggaaGreat
