/- Lemmas of the proof. -/
import Derived.Test.YthbcdhfiibpeaaaGreatTy48
open List renaming length_append → lA, length_map → lB, length_cons → lC, length_nil → lD, map_cons → lE, length_take → lQ
open Go.Sx.AWP renaming range → xC
open Nat renaming reduceBEq → zA, reduceBNe → zB, reduceAdd → zC, reduceSub → zD, reduceMul → zE, reduceLeDiff → zF, reduceLT → zG, reduceEqDiff → zH
open Int renaming reduceToNat → zI, reduceLE → zJ, reduceLT → zK, reduceEq → zL
open Bool renaming not_eq_true' → zM, not_eq_false' → zN
set_option linter.unusedSimpArgs false
set_option linter.unusedVariables false
set_option maxRecDepth 20000
set_option maxHeartbeats 64000000
namespace Go.Sx
variable {P : Program}
theorem arg_int {n : Nat} {t : TypeId} {row : List C} (hu : P.underlying t = some (.int .i64)) (ha : aggT P t = some false) (h : hasT P n t row) : ∃ m, argT P t row = I .i64 m ∧ -9223372036854775808 ≤ m ∧ m ≤ 9223372036854775807 := by
  obtain ⟨m, rfl, h1⟩ := cells_int hu h
  exact ⟨m, by simp only [argT, ha]; rfl, h1⟩
theorem cells_bool {n : Nat} {t : TypeId} {row : List C} (hu : P.underlying t = some .bool) (h : hasT P n t row) : ∃ b, row = [.bool b] := by
  cases n with
  | zero => exact h.elim
  | succ n => simpa only [hasT, hu] using h
theorem cells_str {n : Nat} {t : TypeId} {row : List C} (hu : P.underlying t = some .string) (h : hasT P n t row) : ∃ s : List UInt8, row = [.str s] ∧ s.length ≤ maxLen := by
  cases n with
  | zero => exact h.elim
  | succ n => simpa only [hasT, hu] using h
end Go.Sx
namespace Go.Sx
open Go.RowKit Go.ChangeShapes Go.WideShapes
variable {P : Program}
mutual
def cbC : C → Nat
  | .str s => s.length + 1
  | .sl _ rows => cbRs rows + 1
  | _ => 1
def cbRs : List (List C) → Nat
  | [] => 0
  | r :: l => cbL r + cbRs l
def cbL : List C → Nat
  | [] => 0
  | c :: l => cbC c + cbL l
end
theorem cbL_append : ∀ a b : List C, cbL (a ++ b) = cbL a + cbL b
  | [], b => by simp [cbL]
  | c :: a, b => by simp only [List.cons_append, cbL, cbL_append a b]; omega
structure Blk {H : Type} (β : DataW H → Nat) : Prop where
  lit : ∀ l, 1 ≤ β (.lit l)
  str : ∀ l, l.length + 1 ≤ β (.lit (.string l))
  nil : 1 ≤ β .nil
  sl : ∀ a b, (a.map β).sum + 1 ≤ β (.slice a b)
  agg : ∀ a, (a.map β).sum ≤ β (.agg a)
def argsOkB (P : Program) (B : Nat) : List TypeId → List T → Prop
  | [], us => us = []
  | t :: ts, us => ∃ n row us', us = argT P t row :: us' ∧ hasT P n t row ∧ cbL row ≤ B ∧ argsOkB P B ts us'
theorem rows_ofB (M : Mem0) (k : Nat) (p : List C → Prop) : ∀ (ws : List Nat) (l : List Value), ws.length * k ≤ l.length → (∀ i, i < ws.length → ∃ r, (p r ∧ cbL r ≤ ws.getD i 0) ∧ repRow M r ((l.drop (i * k)).take k) ∧ r.length = k) →
  ∃ rows : List (List C), rows.length = ws.length ∧ ((∀ x ∈ rows, p x) ∧ cbRs rows ≤ ws.sum) ∧ repRows M k rows (l.take (ws.length * k))
 | [], l, _, _ => ⟨[], rfl, by simp [cbRs], by simp [repRows]⟩
 | wt :: ws, l, hl, h => by
  simp only [lC] at hl ⊢
  have hlen : (wt :: ws).length = ws.length + 1 := rfl
  generalize hle : ws.length = len at *
  obtain ⟨r, ⟨h1, hw1⟩, h2, h3⟩ := h 0 (by omega)
  have hk : (len + 1) * k = k + len * k := by rw [Nat.add_mul, Nat.one_mul, Nat.add_comm]
  obtain ⟨rows, g1, ⟨g2, gw⟩, g3⟩ := rows_ofB M k p ws (l.drop k) (by rw [hle]; simp; omega) (fun i hi => by
   obtain ⟨r, a, b, c⟩ := h (i + 1) (by omega)
   refine ⟨r, by simpa using a, ?_, c⟩
   rw [List.drop_drop, show k + i * k = (i + 1) * k by rw [Nat.add_mul, Nat.one_mul, Nat.add_comm]]
   exact b)
  rw [hle] at g1 g3
  refine ⟨r :: rows, by simp [g1], ⟨?_, ?_⟩, ?_⟩
  ·intro x hx
   rcases List.mem_cons.1 hx with rfl | hx
   ·exact h1
   ·exact g2 x hx
  ·simp at hw1; simp only [cbRs, List.sum_cons]; omega
  ·simp only [repRows]
   refine ⟨l.take k, (l.drop k).take (len * k), ?_, h3, by simpa using h2, g3⟩
   rw [hk, List.take_add]
section
variable {H : Type} {enc : TypeId × Value → H} {w : World} {base : Nat} {spare : Nat → Bool} {held : Bool} {β : DataW H → Nat}
theorem open_fieldsB {L : List TypeId} {n : Nat} (ih : ∀ t cs x, t ∈ L → DataW.trod enc P w base spare held n t cs = some x → ∃ r, (hasT P n t r ∧ cbL r ≤ β x.1) ∧ repRow (fun b => w.heap[b]?) r cs ∧ r.length = P.cellsOf t) :
  ∀ (fs : List Field) (xs : List (DataW H × List MemPlace)) (off tot : Nat) (cs : List Value), xs.length = fs.length → tiles P L off fs tot = true → cs.length = tot → off ≤ tot →
   (∀ (i : Nat) (f : Field), fs[i]? = some f → DataW.trod enc P w base spare held n f.type ((cs.drop f.offset).take (P.cellsOf f.type)) = xs[i]?) →
   ∃ parts : List (List C), parts.length = fs.length ∧ ((∀ (i : Nat) (f : Field) (p : List C), fs[i]? = some f → parts[i]? = some p → hasT P n f.type p) ∧ cbL parts.flatten ≤ (xs.map (fun x => β x.1)).sum) ∧ repRow (fun b => w.heap[b]?) parts.flatten (cs.drop off) ∧ parts.flatten.length = tot - off
 | [], xs, off, tot, cs, hx0, ht, hl, hle, h => by
  simp only [tiles, beq_iff_eq] at ht
  subst ht
  refine ⟨[], rfl, by simp [cbL], ?_, by simp⟩
  rw [List.drop_eq_nil_of_le (by omega)]
  simp [repRow]
 | f :: fs, [], off, tot, cs, hx0, ht, hl, hle, h => by simp at hx0
 | f :: fs, x :: xs, off, tot, cs, hx0, ht, hl, hle, h => by
  simp only [tiles, Bool.and_eq_true, beq_iff_eq] at ht
  obtain ⟨⟨h1, h2⟩, h3⟩ := ht
  have hx := h 0 f rfl
  simp only [List.getElem?_cons_zero] at hx
  obtain ⟨r, ⟨a, aw⟩, b, c⟩ := ih f.type _ x (by simpa using h2) hx
  have hlen := repRow_length b
  rw [lQ, List.length_drop, c, h1] at hlen
  have hle2 : off + P.cellsOf f.type ≤ tot := by omega
  obtain ⟨parts, g1, ⟨g2, gw⟩, g3, g4⟩ := open_fieldsB ih fs xs (off + P.cellsOf f.type) tot cs (by simpa using hx0) h3 hl hle2 (fun i f' hf => by simpa using h (i + 1) f' (by simpa using hf))
  refine ⟨r :: parts, by simp [g1], ⟨?_, by simp only [List.flatten_cons, cbL_append, lE, List.sum_cons]; omega⟩, ?_, by simp only [List.flatten_cons, lA, g4, c]; omega⟩
  ·intro i f' p hf hp
   cases i with
   | zero => simp at hf hp; subst hf; subst hp; exact a
   | succ i => exact g2 i f' p (by simpa using hf) (by simpa using hp)
  ·simp only [List.flatten_cons]
   have : cs.drop off = (cs.drop off).take (P.cellsOf f.type) ++ cs.drop (off + P.cellsOf f.type) := by
    rw [← List.drop_drop, List.take_append_drop]
   rw [this]
   rw [h1] at b
   exact repRow_append b g3
theorem open_elemsB {L : List TypeId} {n e : Nat} (he : e ∈ L) (ih : ∀ t cs x, t ∈ L → DataW.trod enc P w base spare held n t cs = some x → ∃ r, (hasT P n t r ∧ cbL r ≤ β x.1) ∧ repRow (fun b => w.heap[b]?) r cs ∧ r.length = P.cellsOf t) :
  ∀ (k : Nat) (xs : List (DataW H × List MemPlace)) (cs : List Value), xs.length = k → cs.length = k * P.cellsOf e →
   (∀ i, i < k → DataW.trod enc P w base spare held n e ((cs.drop (i * P.cellsOf e)).take (P.cellsOf e)) = xs[i]?) →
   ∃ parts : List (List C), parts.length = k ∧ ((∀ x ∈ parts, hasT P n e x) ∧ cbL parts.flatten ≤ (xs.map (fun x => β x.1)).sum) ∧ repRow (fun b => w.heap[b]?) parts.flatten cs ∧ parts.flatten.length = k * P.cellsOf e
 | 0, xs, cs, hx0, hl, h => ⟨[], rfl, by simp [cbL], by
   have : cs = [] := List.length_eq_zero_iff.1 (by simpa using hl)
   subst this; simp [repRow], by simp⟩
 | k + 1, [], cs, hx0, hl, h => by simp at hx0
 | k + 1, x :: xs, cs, hx0, hl, h => by
  have hk : (k + 1) * P.cellsOf e = P.cellsOf e + k * P.cellsOf e := by rw [Nat.add_mul, Nat.one_mul, Nat.add_comm]
  have hx := h 0 (by omega)
  simp only [List.getElem?_cons_zero] at hx
  obtain ⟨r, ⟨a, aw⟩, b, c⟩ := ih e _ x he hx
  obtain ⟨parts, g1, ⟨g2, gw⟩, g3, g4⟩ := open_elemsB he ih k xs (cs.drop (P.cellsOf e)) (by simpa using hx0) (by simp; omega) (fun i hi => by
   have hx := h (i + 1) (by omega)
   simp only [List.getElem?_cons_succ] at hx
   rw [List.drop_drop, show P.cellsOf e + i * P.cellsOf e = (i + 1) * P.cellsOf e by rw [Nat.add_mul, Nat.one_mul, Nat.add_comm]]
   exact hx)
  refine ⟨r :: parts, by simp [g1], ⟨?_, by simp only [List.flatten_cons, cbL_append, lE, List.sum_cons]; omega⟩, ?_, by simp only [List.flatten_cons, lA, g4, c]; omega⟩
  ·intro x hx
   rcases List.mem_cons.1 hx with rfl | hx
   ·exact a
   ·exact g2 x hx
  ·simp only [List.flatten_cons]
   rw [show cs = cs.take (P.cellsOf e) ++ cs.drop (P.cellsOf e) from (List.take_append_drop ..).symm]
   refine repRow_append (by simpa using b) ?_
   simpa using g3
theorem open_cellsB (hβ : Blk β) {L : List TypeId} (hok : okAll P L = true) : ∀ (fuel : Nat) (t : TypeId) (cs : List Value) (x : DataW H × List MemPlace), t ∈ L → DataW.trod enc P w base spare held fuel t cs = some x →
  ∃ r, (hasT P fuel t r ∧ cbL r ≤ β x.1) ∧ repRow (fun b => w.heap[b]?) r cs ∧ r.length = P.cellsOf t
 | 0, t, cs, x, _, h => by simp [DataW.trod] at h
 | n + 1, t, cs, x, ht, h => by
  have ho : okAt P L t = true := List.all_eq_true.1 hok t ht
  have ih := fun t cs x h1 h2 => open_cellsB hβ hok n t cs x h1 h2
  unfold okAt at ho
  unfold hasT
  split at ho
  ·rename_i k hu
   obtain ⟨m, rfl, rfl, hw⟩ := DataW.trod_int hu h
   try simp only [hu]
   exact ⟨_, ⟨⟨m, rfl, hw⟩, by have := hβ.lit (.int k m); simp only [cbL, cbC]; omega⟩, by simp [repRow, C.rep], by simpa using (beq_iff_eq.1 ho).symm⟩
  ·rename_i hu
   obtain ⟨b, rfl, rfl⟩ := DataW.trod_bool hu h
   try simp only [hu]
   exact ⟨_, ⟨⟨b, rfl⟩, by have := hβ.lit (.bool b); simp only [cbL, cbC]; omega⟩, by simp [repRow, C.rep], by simpa using (beq_iff_eq.1 ho).symm⟩
  ·rename_i hu
   obtain ⟨s, rfl, rfl, hs⟩ := DataW.trod_string hu h
   try simp only [hu]
   exact ⟨_, ⟨⟨s.data.toList, rfl, by simpa using hs⟩, by have := hβ.str s.data.toList; simp only [cbL, cbC]; omega⟩, by simp [repRow, C.rep], by simpa using (beq_iff_eq.1 ho).symm⟩
  ·rename_i e hu
   try simp only [hu]
   simp only [Bool.and_eq_true, beq_iff_eq] at ho
   obtain ⟨h1, h2, h3⟩ := ho
   have he : e ∈ L := by simpa using h2
   have hpos : 0 < P.cellsOf e := by simpa using h3
   rcases DataW.trod_slice hu h with ⟨rfl, rfl⟩ | ⟨a, len, cap, elems, rest, m, hm, rfl, rfl, hb, hlc, hcm, hel, hat, _, _⟩
   ·refine ⟨_, ⟨⟨[], rfl, by simp, by simp⟩, by have := hβ.nil; simp only [cbL, cbC, cbRs]; omega⟩, ?_, by simp [h1]⟩
    simp only [repRow, C.rep]
    exact ⟨_, [], rfl, ⟨none, 0, [], rfl, by simp, by simp, by simp [repRows], .inl trivial⟩, rfl⟩
   ·cases hm
    by_cases h0 : len = 0
    ·subst h0
     refine ⟨_, ⟨⟨[], rfl, by simp, by simp⟩, by have := hβ.sl (elems.map (·.1)) (rest.map (·.1)); simp only [cbL, cbC, cbRs]; omega⟩, ?_, by simp [h1]⟩
     simp only [repRow, C.rep]
     exact ⟨_, [], rfl, ⟨some a, cap, [], rfl, by simp, hcm, by simp [repRows], .inl trivial⟩, rfl⟩
    ·have get : ∀ i, i < len → ∃ ci x, w.cells? base (a.add (i * P.cellsOf e)) (P.cellsOf e) = some ci ∧ DataW.trod enc P w base spare held n e ci = some x ∧ elems[i]? = some x := by
      intro i hi
      have := hat i hi
      rw [List.getElem?_eq_getElem (by omega)] at this
      obtain ⟨ci, e1, e2⟩ := Option.bind_eq_some_iff.1 this
      exact ⟨ci, _, e1, e2, List.getElem?_eq_getElem (by omega)⟩
     obtain ⟨c0, x0, e0, _, _⟩ := get 0 (by omega)
     obtain ⟨l0, f0⟩ := cells?_spec e0
     have ha0 : a.add (0 * P.cellsOf e) = a := by simp [Addr.add]
     rw [ha0] at f0
     have hv0 := f0 0 hpos
     have haa : a.add 0 = a := by simp [Addr.add]
     rw [haa, List.getElem?_eq_getElem (by omega)] at hv0
     obtain ⟨hspot, c, et, fz, hheap, hc0⟩ := cell?_some hv0
     obtain ⟨ab, ao, asp⟩ := a
     simp only at hspot hheap hc0
     subst hspot
     have cellat : ∀ i ci, i < len → w.cells? base (Addr.add ⟨ab, ao, none⟩ (i * P.cellsOf e)) (P.cellsOf e) = some ci → ci = (c.toList.drop (ao + i * P.cellsOf e)).take (P.cellsOf e) := by
      intro i ci hi hci
      obtain ⟨l1, f1⟩ := cells?_spec hci
      apply List.ext_getElem?
      intro j
      by_cases hj : j < P.cellsOf e
      ·rw [← f1 j hj]
       have : (Addr.add (Addr.add ⟨ab, ao, none⟩ (i * P.cellsOf e)) j) = ⟨ab, ao + i * P.cellsOf e + j, none⟩ := by
        simp only [Addr.add]
        split <;> split <;> simp_all
       rw [this]
       simp only [World.cell?, hheap]
       rw [List.getElem?_take, if_pos hj, List.getElem?_drop]
       simp
      ·rw [List.getElem?_eq_none (by omega), List.getElem?_eq_none (by simp; omega)]
     have hsz : ao + len * P.cellsOf e ≤ c.toList.length := by
      obtain ⟨ci, x, e1, e2, _⟩ := get (len - 1) (by omega)
      have := cellat _ _ (by omega) e1
      have h3 := (cells?_spec e1).1
      rw [this] at h3
      simp only [lQ, List.length_drop] at h3
      have : len * P.cellsOf e = (len - 1) * P.cellsOf e + P.cellsOf e := by
       obtain ⟨q, rfl⟩ : ∃ q, len = q + 1 := ⟨len - 1, by omega⟩
       simp [Nat.add_mul]
      omega
     have hwl : (elems.map (fun x => β x.1)).length = len := by simp; omega
     obtain ⟨rows, g1, ⟨g2, gw⟩, g3⟩ := rows_ofB (fun b => w.heap[b]?) (P.cellsOf e) (hasT P n e) (elems.map (fun x => β x.1)) (c.toList.drop ao) (by rw [hwl]; simp only [List.length_drop]; omega) (fun i hi => by
      rw [hwl] at hi
      obtain ⟨ci, x, e1, e2, e3⟩ := get i hi
      obtain ⟨r, ⟨q1, qw⟩, q2, q3⟩ := ih e ci x he e2
      rw [cellat i ci hi e1, ← List.drop_drop] at q2
      exact ⟨r, ⟨q1, by rw [List.getD_eq_getElem?_getD, List.getElem?_map, e3]; exact qw⟩, q2, q3⟩)
     rw [hwl] at g1 g3
     refine ⟨_, ⟨⟨rows, rfl, by omega, g2⟩, by have := hβ.sl (elems.map (·.1)) (rest.map (·.1)); simp only [List.map_map] at this; exact Nat.le_trans (Nat.succ_le_succ gw) this⟩, ?_, by simp [h1]⟩
     simp only [repRow, C.rep]
     refine ⟨_, [], rfl, ⟨some ⟨ab, ao, none⟩, cap, _, by rw [g1], by omega, hcm, g3, .inr ⟨ab, ao, rfl, c, et, fz, c.toList.take ao, (c.toList.drop ao).drop (len * P.cellsOf e), hheap, ?_, ?_⟩⟩, rfl⟩
     ·rw [List.take_append_drop, List.take_append_drop]
     ·rw [lQ]; omega
  ·rename_i fs hu
   try simp only [hu]
   obtain ⟨xs, m, hm, rfl, hl, hxl, hf⟩ := DataW.trod_struct hu h
   cases hm
   obtain ⟨parts, g1, ⟨g2, gw⟩, g3, g4⟩ := open_fieldsB (P := P) (L := L) (n := n) (β := β) ih fs.toList xs 0 (P.cellsOf t) cs (by simpa using hxl) ho hl (by omega) (fun i f hif => by
    have h1 : fs[i]? = some f := by simpa using hif
    exact hf i f h1)
   exact ⟨_, ⟨⟨parts, rfl, by simpa using g1, fun i f p h1 h2 => g2 i f p (by simpa using h1) h2⟩, by have := hβ.agg (xs.map (·.1)); simp only [List.map_map] at this; exact Nat.le_trans gw this⟩, by simpa using g3, by simpa using g4⟩
  ·rename_i k e hu
   try simp only [hu]
   simp only [Bool.and_eq_true, beq_iff_eq] at ho
   obtain ⟨xs, m, hm, rfl, hl, hxl, hf⟩ := DataW.trod_array hu h
   cases hm
   obtain ⟨parts, g1, ⟨g2, gw⟩, g3, g4⟩ := open_elemsB (P := P) (L := L) (n := n) (e := e) (β := β) (by simpa using ho.2) ih k xs cs hxl (by rw [hl, ho.1]) (fun i hi => hf i hi)
   exact ⟨_, ⟨⟨parts, rfl, g1, g2⟩, by have := hβ.agg (xs.map (·.1)); simp only [List.map_map] at this; exact Nat.le_trans gw this⟩, g3, by rw [g4, ho.1]⟩
  ·cases ho
theorem open_argB (hβ : Blk β) {L : List TypeId} (hok : okAll P L = true) {r : Reach} {b0 : Nat} {t : TypeId} {v : Value} {d : DataW H} {ps : List MemPlace} (ht : t ∈ L) (hval : Value.okWide P w r b0 t v) (hd : DataW.Trod enc P w base spare held t v d ps) :
  ∃ n row, (hasT P n t row ∧ cbL row ≤ β d) ∧ ∀ ν, (argT P t row).rep (fun b => w.heap[b]?) ν v := by
 obtain ⟨fuel, hf⟩ := hd
 obtain ⟨row, h1, h2, h3⟩ := open_cellsB hβ hok fuel t _ _ ht hf
 refine ⟨fuel, row, h1, fun ν => ?_⟩
 have ho : okAt P L t = true := List.all_eq_true.1 hok t ht
 unfold Value.okWide at hval
 unfold argT aggT
 unfold okAt at ho
 have one : P.cellsOf t = 1 → (∀ cs, v = .agg cs → False) → (match row with
   | [c] => T.one (.dat c)
   | _ => .un).rep (fun b => w.heap[b]?) ν v := by
  intro h hna
  have hv : v.cells.toList = [v] := by
   cases v <;> first | rfl | exact (hna _ rfl).elim
  rw [hv] at h2
  match row, h3, h2 with
  | [c], _, h2 =>
   simp only [repRow] at h2
   obtain ⟨v', vs', e, h5, h6⟩ := h2
   cases e
   simpa only [T.rep, Cell.rep] using h5
  | [], h3, _ => simp at h3; omega
  | _ :: _ :: _, h3, _ => simp at h3; omega
 split at ho
 ·rename_i k hu
  simp only [hu] at hval ⊢
  exact one (beq_iff_eq.1 ho) (fun cs e => by subst e; simp [Cell.okWide, hu, Cell.ok] at hval)
 ·rename_i hu
  simp only [hu] at hval ⊢
  exact one (beq_iff_eq.1 ho) (fun cs e => by subst e; simp [Cell.okWide, hu, Cell.ok] at hval)
 ·rename_i hu
  simp only [hu] at hval ⊢
  exact one (beq_iff_eq.1 ho) (fun cs e => by subst e; simp [Cell.okWide, hu, Cell.ok] at hval)
 ·rename_i e hu
  simp only [hu] at hval ⊢
  simp only [Bool.and_eq_true, beq_iff_eq] at ho
  exact one ho.1 (fun cs e => by subst e; simp [Cell.okWide, hu, Cell.ok] at hval)
 ·rename_i fs hu
  simp only [hu] at hval ⊢
  obtain ⟨cs, rfl, _, _⟩ := hval
  simp only [Option.map_some, isAggD, Option.getD_some, cond_true, T.rep]
  exact ⟨cs, rfl, h2⟩
 ·rename_i k e hu
  simp only [hu] at hval ⊢
  obtain ⟨cs, rfl, _, _⟩ := hval
  simp only [Option.map_some, isAggD, Option.getD_some, cond_true, T.rep]
  exact ⟨cs, rfl, h2⟩
 ·cases ho
theorem open_allB (hβ : Blk β) {B : Nat} {L : List TypeId} (hok : okAll P L = true) {r : Reach} {b0 : Nat} : ∀ {ts : List TypeId} {vs : List Value} {ds : List (DataW H)} {ps : List MemPlace}, (∀ t ∈ ts, t ∈ L) → DataW.TrodAll enc P w base spare held ts vs ds ps →
  (∀ (j : Nat) t v, ts[j]? = some t → vs[j]? = some v → Value.okWide P w r b0 t v) → (ds.map β).sum ≤ B → ∃ us, argsOkB P B ts us ∧ ∀ ν, T.reps (fun b => w.heap[b]?) ν us vs
 | [], vs, ds, ps, _, h, _, _ => by
  cases vs <;> cases ds <;> simp [DataW.TrodAll] at h
  exact ⟨[], rfl, fun ν => by simp [T.reps]⟩
 | t :: ts, vs, ds, ps, hts, h, hval, hB => by
  obtain ⟨v, vs', d, ds', p, q, rfl, rfl, rfl, h1, h2⟩ := trodAll_cons h
  simp only [lE, List.sum_cons] at hB
  obtain ⟨n, row, ⟨h3, h3w⟩, h4⟩ := open_argB hβ hok (hts t (by simp)) (hval 0 t v rfl rfl) h1
  obtain ⟨us, h5, h6⟩ := open_allB hβ (B := B) hok (fun t ht => hts t (List.mem_cons_of_mem _ ht)) h2 (fun j t v hj hv => hval (j + 1) t v (by simpa using hj) (by simpa using hv)) (by omega)
  refine ⟨argT P t row :: us, ⟨n, row, us, rfl, h3, by omega, h5⟩, fun ν => ?_⟩
  simp only [T.reps]
  exact ⟨v, vs', rfl, h4 ν, h6 ν⟩
end
theorem law_postB {H : Type} {β : DataW H → Nat} (hβ : Blk β) {B : Nat} {enc : TypeId × Value → H} {C : Checked} {F : FuncId} {fn : Func} {s : ChangeSpec} {L : List TypeId} {tb : TypeId} {apart fresh handsOn again : Bool}
  (hlaid : laidOutB C.prog = true) (hok : okAll C.prog L = true) (hts : fn.params.toList.all (fun t => L.contains t && C.prog.readableRec t && decide (t < C.prog.types.size)) = true)
  (hvars : s.vars = []) (hres : fn.resultTypes = #[tb]) (hbool : C.prog.underlying tb = some .bool)
  (hspec : ∀ (ds : List (DataW H)), ds.length = fn.params.toList.length → s.fn H ds = { results := [.lit (.bool true)], args := ds })
  (hwalk : ∀ us, argsOkB C.prog B fn.params.toList us → PC C.prog F us (Bo true))
  (W : World) (hg : GlobOk (fun b => W.heap[b]?)) (base : Nat) (args : Array Value) (ds gs : List (DataW H)) (before : List MemPlace)
  (hval : ∀ (j : Nat) t v, fn.params[j]? = some t → args[j]? = some v → Value.okWide C.prog W .any base t v)
  (hW : DataW.Whole enc C.prog fn.params.toList s.vars apart W args.toList ds gs before) (hB : (ds.map β).sum ≤ B) :
  Calls C.prog F args W fun e W' => ∃ v, e = .returned v ∧ s.post enc C.prog fn apart fresh handsOn again W args v W' := by
 have hW' := hW
 obtain ⟨p, q, hA, hV, rfl, hfz, hnd⟩ := hW
 have hgs : gs = [] ∧ q = [] := by
  rw [hvars] at hV
  cases gs <;> simp [DataW.TrodVars] at hV
  exact ⟨rfl, hV⟩
 obtain ⟨rfl, rfl⟩ := hgs
 have hin : ∀ t ∈ fn.params.toList, t ∈ L ∧ C.prog.readableRec t = true ∧ t < C.prog.types.size := fun t ht => by
  have := List.all_eq_true.1 hts t ht
  simp only [Bool.and_eq_true, decide_eq_true_eq] at this
  exact ⟨by simpa using this.1.1, this.1.2, this.2⟩
 obtain ⟨us, hus, hreps⟩ := open_allB hβ hok (fun t ht => (hin t ht).1) hA (fun j t v hj hv => hval j t v (by simpa using hj) (by simpa using hv)) hB
 have hlen : ds.length = fn.params.toList.length := by
  have : ∀ {ts : List TypeId} {vs : List Value} {ds : List (DataW H)} {ps : List MemPlace}, DataW.TrodAll enc C.prog W 0 (fun _ => true) true ts vs ds ps → ds.length = ts.length := by
   intro ts
   induction ts with
   | nil => intro vs ds ps h; cases vs <;> cases ds <;> simp [DataW.TrodAll] at h; rfl
   | cons t ts ih =>
    intro vs ds ps h
    obtain ⟨v, vs', d, ds', p, q, rfl, rfl, rfl, h1, h2⟩ := trodAll_cons h
    simp [ih h2]
  exact this hA
 have hs : s.fn H (ds ++ []) = { results := [.lit (.bool true)], args := ds } := by rw [List.append_nil]; exact hspec ds hlen
 have hcall := PC.calls (hwalk us hus) W hg args.toList (hreps _)
 refine Calls.mono hcall fun e W' ⟨he, hos, hout, hu⟩ => ?_
 subst he
 have hlt : ∀ x ∈ p, x.block < W.heap.size := fun x hx => hW'.lt x (by simpa using hx)
 refine ⟨_, rfl, post_of_old (pa := p) (pv := []) hW' ?_ ?_ ?_ rfl (keptBut_same _ hos hout hu) (fun a ha => by simp only [World.frozen?, hu a.block ha]) (ok_one hres rfl (okWide_bool_mk hbool _))⟩
 ·intro b sp hd
  rw [hs, hres]
  exact trodAll_cons_mk (shut_bool hbool _) trodAll_mk0
 ·intro sp hsp
  rw [hs]
  refine trodAll_stays hlaid (fun t ht => (hin t ht).2) hA (fun x hx => ?_) (fun x hx => hsp x (by simpa using hx))
  have h1 := hu x.block (hlt x hx)
  cases x with
  | cell b off => simp only [MemPlace.block] at h1; simp only [World.sameAt, World.cell?, h1]
  | map b => simp only [MemPlace.block] at h1; simp only [World.sameAt, h1]
 ·intro sp hsp
  rw [hs, hvars]
  simp [DataW.TrodVars]
theorem cells_st {n : Nat} {t : TypeId} {row : List C} {fs : Array Field} (hu : P.underlying t = some (.struct fs)) (h : hasT P n t row) :
  ∃ (m : Nat) (parts : List (List C)), n = m + 1 ∧ row = parts.flatten ∧ parts.length = fs.size ∧ ∀ (i : Nat) (f : Field) (p : List C), fs[i]? = some f → parts[i]? = some p → hasT P m f.type p := by
 cases n with
 | zero => exact h.elim
 | succ n =>
  simp only [hasT, hu] at h
  obtain ⟨parts, h1, h2, h3⟩ := h
  exact ⟨n, parts, rfl, h1, h2, h3⟩
theorem cells_i64 {n : Nat} {t : TypeId} {row : List C} (hu : P.underlying t = some (.int .i64)) (h : hasT P n t row) : ∃ m, row = [.int .i64 m] := by
  obtain ⟨m, e, _⟩ := cells_int hu h
  exact ⟨m, e⟩
theorem cells_text {n : Nat} {t : TypeId} {row : List C} (hu : P.underlying t = some .string) (h : hasT P n t row) : ∃ s : List UInt8, row = [.str s] := by
  obtain ⟨m, e, _⟩ := cells_str hu h
  exact ⟨m, e⟩
theorem cells_row {α : Type} {enc : α → List C} {n : Nat} {t e : TypeId} {row : List C} {sz : Nat} (hu : P.underlying t = some (.slice e)) (hsz : P.cellsOf e = sz) (f : ∀ row, hasT P (n - 1) e row → ∃ a, row = enc a) (h : hasT P n t row) :
  ∃ l : List α, row = [.sl sz (l.map enc)] := by
 obtain ⟨l, e1, _⟩ := cells_sl (p := fun _ => True) hu hsz (fun row h => by obtain ⟨a, e⟩ := f row h; exact ⟨a, e, trivial⟩) h
 exact ⟨l, e1⟩
theorem arg_st {n : Nat} {t : TypeId} {row : List C} (ha : aggT P t = some true) : argT P t row = .st row := by simp only [argT, ha]; rfl
end Go.Sx
namespace Go.Proofs.YthbcdhfiibpeaaaGreat
open Go Go.Sx
@[go_sem] theorem sz93 : szT Tryz.prog 93 = some 1 := by kernel_rfl
@[go_sem] theorem ag93 : aggT Tryz.prog 93 = some false := by kernel_rfl
@[go_sem] theorem kd93 : kdT Tryz.prog 93 = some (.other) := by kernel_rfl
@[go_sem] theorem ze93 : zeroT Tryz.prog 93 = some [.fnil] := by kernel_rfl
end Go.Proofs.YthbcdhfiibpeaaaGreat
namespace Go.Sx
variable {P : Program} {n : Nat} {σ : AS} {Q : Exit → AS → Prop}
theorem genMS_sound {κ : Kap} {M0 : Mem} {l : List Oper} {B0 : Bx} {t : Nat → T} {mk : Nat → Option (Nat × Res)} {env0 : Env} {Q' : Exit → Act → World → Prop}
  (hback : Back l) (hpairs : Pairs l) (hap : Apart mk B0) (hro : RowsOnly mk) (hlen : ∀ i p, mk i = some p → i < l.length)
  {L : Nat} {oL : Oper} {B' : Bx} (hL : l.length = L + 1) (hoL : l[L]? = some oL) (hdL : dstOk n oL = true) (hgL : oL.guard = none) (hdep : ∀ i, i < L → depB l L i = true) (hopL : OpE P oL (envA l t (fun _ => true) env0 L) (bxX mk B0 (fun _ => true) L) (t L) B')
  (hs : ∀ i o, i < L → l[i]? = some o → OSpecM P n l B0 o (envA l t (fun _ => true) env0 i) (t i) (mk i))
  (hfr : ∀ g k p, mk g = some p → g < k → k < l.length → (t k).fresh p.1 = true ∨ depB l k g = true)
  (hQ : ∀ a w, St κ M0 n ⟨envA l t (fun _ => true) env0 l.length, B'⟩ a w → Q' .normal a w) :
  ∀ (fuel : Nat) (listed : Array Bool) (a : Act) (w : World), cnt l listed = fuel → (MidM κ M0 n l t mk B0 env0 listed a w ∧ listed.getD L false = false) →
   wpAny P .any l.toArray Q' fuel listed a w := by
 have fin : ∀ (fuel : Nat) (listed : Array Bool) (a : Act) (w : World), listed.size = l.length → (∀ i, i < l.length → listed.getD i false = true) → St κ M0 n ⟨envA l t (fun _ => true) env0 l.length, B'⟩ a w → wpAny P .any l.toArray Q' fuel listed a w := by
  intro fuel listed a w hsz hall hst
  cases fuel with
  | zero => exact ⟨ready_none hsz hall, hQ a w hst⟩
  | succ fuel =>
   refine ⟨fun _ => hQ a w hst, fun i hi => ?_⟩
   exfalso
   rw [ready_none hsz hall] at hi
   cases hi
 intro fuel
 induction fuel with
 | zero =>
  intro listed a w hfuel ⟨hm, hxL⟩
  have hall := cnt_zero hfuel L (by omega)
  rw [hxL] at hall; cases hall
 | succ fuel ih =>
  intro listed a w hfuel ⟨hm, hxL⟩
  refine ⟨fun hr => (by have := ready_least hback hm.size hr L (by omega); rw [hxL] at this; cases this), fun i hi => ?_⟩
  obtain ⟨h0, oi, hoi, hall⟩ := mem_ready.1 hi
  have hil : i < l.length := by have := (Array.getElem?_eq_some_iff.1 hoi).1; simpa using this
  have hoi' : l[i]? = some oi := by simpa using hoi
  have hisz : i < listed.size := by rw [hm.size]; exact hil
  have hxi : listed.getD i false = false := by simp [hisz] at h0 ⊢; exact h0
  obtain ⟨M, ν, h1, h2, h3, h4, h7, h8⟩ := hm.st
  have hd : dstOk n oi = true := by
   by_cases hiL : i < L
   ·exact (hs i oi hiL hoi').1
   ·have : i = L := by omega
    subst this
    rw [hoL] at hoi'; cases hoi'; exact hdL
  have look : ∀ d, d ∈ oi.looksAt l.toArray → (envA l t (xs listed) env0 l.length).lookup d = (envA l t (fun _ => true) env0 i).lookup d := by
   intro d hdm
   rw [envA_skip l t (xs listed) env0 d i l.length (by omega) ?_, envA_same l t (xs listed) (fun _ => true) env0 d i ?_]
   ·intro j o hj ho hod
    rcases hpairs j i o oi hj ho hoi' with ⟨e', he', hb', hon⟩ | hap
    ·exact hon ▸ hall e' he' hb'
    ·exact absurd hdm ((Oper.apart_spec hap).1 d hod)
   ·intro j o hj hjl ho hod
    by_cases hji : i = j
    ·subst hji; exact hxi
    ·cases hxj : xs listed j with
     | false => rfl
     | true =>
      rcases hpairs i j oi o (by omega) hoi' ho with ⟨e', he', hb', hon⟩ | hap
      ·have := hm.closed j o ho hxj e' he' hb'
       rw [hon, hxi] at this; cases this
      ·exact absurd hdm ((Oper.apart_spec hap).2.2 d hod)
  have hclosed : Closed l (listed.setIfInBounds i true) := by
   intro j oj hj hx e' he' hb'
   by_cases hji : i = j
   ·subst hji
    rw [hoi'] at hj; cases hj
    exact getD_set_true (hall e' he' hb')
   ·rw [getD_set_ne false hji] at hx
    exact getD_set_true (hm.closed j oj hj hx e' he' hb')
  have hcount : cnt l (listed.setIfInBounds i true) = fuel := by
   have := cnt_set hm.size hil hxi; omega
  have after : ∀ (M' : Mem) (ν' : Nu) (v : Value) (w' : World), M.ext κ M' → EnvOk M ν' a.tmps (envA l t (xs listed) env0 l.length) → (t i).rep M' ν' v → Sat κ M' ν' (bxX mk B0 (xs (listed.setIfInBounds i true)) l.length) w' → (∀ k, pin ≤ k → ν' k = κ.nu k) →
    MidM κ M0 n l t mk B0 env0 (listed.setIfInBounds i true) (a.put oi.dst v) w' := by
   intro M' ν' v w' hle h4 hr hsat hpin
   refine ⟨by simpa using hm.size, hclosed, M', ν', h1.trans hle, by rw [Act.put_size]; exact h2, by rw [Act.put_defers']; exact h3, ?_, hsat, hpin⟩
   have hput := EnvOk.put (df := a.defers) (h4.mono hle.1) (dst := oi.dst) (v := v) (t := t i) (fun d he => by rw [h2]; exact dstOk_spec hd d he) hr
   intro k u hu
   refine hput k u ?_
   rw [putE_lookup]
   by_cases hk : oi.dst = some k
   ·rw [if_pos hk]
    have e1 := envA_skip l t (xs (listed.setIfInBounds i true)) env0 k (i + 1) l.length (by omega) (fun j o hj hjl ho hod => by
     cases hxj : xs (listed.setIfInBounds i true) j with
     | false => rfl
     | true =>
      have hne : i ≠ j := by omega
      have hxj' : listed.getD j false = true := by rw [← getD_set_ne false hne]; exact hxj
      rcases hpairs i j oi o (by omega) hoi' ho with ⟨e', he', hb', hon⟩ | hap
      ·have := hm.closed j o ho hxj' e' he' hb'
       rw [hon, hxi] at this; cases this
      ·exact absurd hod ((Oper.apart_spec hap).2.1 k hk))
    rw [e1] at hu
    have hself : xs (listed.setIfInBounds i true) i = true := by simp [xs, hisz]
    rw [envA, hself] at hu
    simp only [cond_true, putE_lookup, hoi', Option.bind_some, hk, if_true] at hu
    exact hu
   ·rw [if_neg hk]
    have e2 := envA_same l t (xs (listed.setIfInBounds i true)) (xs listed) env0 k l.length (fun j o hj ho hod => by
     have hne : i ≠ j := fun h => by subst h; rw [hoi'] at ho; cases ho; exact hk hod
     exact getD_set_ne false hne)
    rw [← e2]; exact hu
  have hon : EnvOn M ν a (envA l t (fun _ => true) env0 i) oi := by
   intro d u hdo hu
   refine h4 d u ?_
   rw [look d (looksAt_op hdo)]; exact hu
  have hgd : ∀ g want d u, oi.guard = some (g, want) → (l[g]?).bind (·.dst) = some d → (envA l t (fun _ => true) env0 i).lookup d = some u → u.rep M ν (a.tmps.getD d undef) := by
   intro g want d u hg hgd hu
   refine h4 d u ?_
   rw [look d (looksAt_guard hg hgd)]; exact hu
  by_cases hiL : i = L
  ·subst hiL
   rw [hoL] at hoi'; cases hoi'
   have hlist : ∀ j, j < i → listed.getD j false = true := fun j hj => dep_of (hdep j hj) hoL hm.closed (fun e' he' hb' => hall e' he' hb')
   unfold wpOp
   rw [hoi]
   simp only []
   rw [if_pos (by simp [Region.wanted, hgL])]
   left
   have hbx : ∀ x ∈ bxX mk B0 (fun _ => true) i, x ∈ bxX mk B0 (xs listed) l.length := by
    intro x hx
    rcases mem_bxX.1 hx with h | ⟨j, hj, _, hk⟩
    ·exact mem_bxX.2 (.inl h)
    ·exact mem_bxX.2 (.inr ⟨j, by omega, hlist j hj, hk⟩)
   refine Oper.wp_mono_Q (Oper.wp_mono ?_ (hopL κ M ν a w hon (h7.drop hbx (nodup_bxX hap (nodup_B0 h7.nodup) _))))
   rintro a' w' ⟨v, M', rfl, hle, hr, hsat⟩
   have hall' : ∀ j, j < l.length → (listed.setIfInBounds i true).getD j false = true := by
    intro j hj
    by_cases hji : j = i
    ·subst hji; simp [hisz]
    ·exact getD_set_true (hlist j (by omega))
   refine fin _ _ _ _ (by simpa using hm.size) hall' ⟨M', ν, h1.trans hle, by rw [Act.put_size]; exact h2, by rw [Act.put_defers']; exact h3, ?_, hsat, h8⟩
   have hput := EnvOk.put (df := a.defers) (h4.mono hle.1) (dst := oL.dst) (v := v) (t := t i) (fun d he => by rw [h2]; exact dstOk_spec hd d he) hr
   intro k u hu
   refine hput k u ?_
   rw [putE_lookup]
   have e0 : envA l t (fun _ => true) env0 l.length = putE (envA l t (fun _ => true) env0 i) oL.dst (t i) := by
    rw [hL, envA]
    simp only [cond_true, hoL, Option.bind_some]
    try (cases oL.dst <;> rfl)
   have hup : (putE (envA l t (fun _ => true) env0 i) oL.dst (t i)).lookup k = some u := by rw [← e0]; exact hu
   rw [putE_lookup] at hup
   by_cases hk : oL.dst = some k
   ·rw [if_pos hk] at hup ⊢; exact hup
   ·rw [if_neg hk] at hup ⊢
    have e1 : envA l t (xs listed) env0 l.length = envA l t (xs listed) env0 i := by
     rw [hL, envA]
     have : xs listed i = false := hxL
     rw [this]; rfl
    rw [e1, envA_same l t (xs listed) (fun _ => true) env0 k i (fun j o hj _ _ => hlist j hj)]
    exact hup
  have hiL' : i < L := by omega
  have hspec := (hs i oi hiL' hoi').2
  have hxL' : (listed.setIfInBounds i true).getD L false = false := by rw [getD_set_ne false (by omega)]; exact hxL
  have hself : xs (listed.setIfInBounds i true) i = true := by simp [xs, hisz]
  have hold : ∀ j, i ≠ j → xs (listed.setIfInBounds i true) j = xs listed j := fun j hj => getD_set_ne false hj
  have nod : ((bxX mk B0 (xs (listed.setIfInBounds i true)) l.length).map (·.1)).Nodup := nodup_bxX hap (nodup_B0 h7.nodup) _
  have same : mk i = none → ∀ x ∈ bxX mk B0 (xs (listed.setIfInBounds i true)) l.length, x ∈ bxX mk B0 (xs listed) l.length := by
   intro hk x hx
   rcases mem_bxX.1 hx with h | ⟨j, hj, hX, hkj⟩
   ·exact mem_bxX.2 (.inl h)
   ·have hne : i ≠ j := fun e => by subst e; rw [hk] at hkj; cases hkj
    exact mem_bxX.2 (.inr ⟨j, hj, by rw [← hold j hne]; exact hX, hkj⟩)
  unfold wpOp
  rw [hoi]
  simp only []
  rcases hspec with ⟨hg, ⟨hjn, hop⟩ | ⟨k, r, hjn, hkp, hfk, hfB0, hop⟩⟩ | ⟨hg, ht, hjn⟩
  ·rw [if_pos (wanted_of hg hgd)]
   left
   refine Oper.wp_mono_Q (Oper.wp_mono ?_ (hop κ M ν a w _ (fun x hx => mem_bxX.2 (.inl hx)) hon h7))
   rintro a' w' ⟨v, M', rfl, hle, hr, hsat⟩
   exact ih _ _ _ hcount ⟨after M' ν v w' hle h4 hr (hsat.drop (same hjn) nod) h8, hxL'⟩
  ·rw [if_pos (wanted_of hg hgd)]
   left
   have hfB : Bx.fresh k (bxX mk B0 (xs listed) l.length) = true := by
    refine bx_fresh_of fun x hx => ?_
    rcases mem_bxX.1 hx with h | ⟨j, hj, hX, hkj⟩
    ·exact Bx.fresh_spec (j := x.1) (r := x.2) hfB0 h
    ·have hne : j ≠ i := fun e => by subst e; unfold xs at hX; rw [hxi] at hX; cases hX
     refine ⟨hap.1 j i x _ hkj hjn hne, fun cs e => ?_⟩
     exact hro j x hkj k cs e
   refine Oper.wp_mono_Q (Oper.wp_mono ?_ (hop _ (fun x hx => mem_bxX.2 (.inl hx)) hfB κ M ν a w hon h7))
   rintro a' w' ⟨v, M', ν', rfl, hle, hν, hr, hsat⟩
   obtain ⟨hf0, hft⟩ := fresh_envA i hfk
   have hfresh : Env.fresh k (envA l t (xs listed) env0 l.length) = true := by
    refine envA_fresh' hf0 l.length (fun q hq hx hdq => ?_)
    rcases Nat.lt_trichotomy q i with h | h | h
    ·exact hft q h hdq
    ·subst h; unfold xs at hx; rw [hxi] at hx; cases hx
    ·rcases hfr i q _ hjn h hq with h' | h'
     ·exact h'
     ·exfalso
      have := dep_of h' (List.getElem?_eq_getElem hq) hm.closed (fun e' he' hb' => hm.closed q l[q] (List.getElem?_eq_getElem hq) hx e' he' hb')
      rw [hxi] at this; cases this
   refine ih _ _ _ hcount ⟨after M' ν' v w' hle (h4.fresh hfresh hν) hr (hsat.drop ?_ nod) (fun q hq => by rw [hν q (by omega)]; exact h8 q hq), hxL'⟩
   intro x hx
   rcases mem_bxX.1 hx with h | ⟨j, hj, hX, hkj⟩
   ·exact List.mem_cons_of_mem _ (mem_bxX.2 (.inl h))
   ·by_cases hne : i = j
    ·subst hne; rw [hjn] at hkj; cases hkj; exact List.mem_cons_self
    ·exact List.mem_cons_of_mem _ (mem_bxX.2 (.inr ⟨j, hj, by rw [← hold j hne]; exact hX, hkj⟩))
  ·rw [unwanted_of hg hgd]
   simp only [Bool.false_eq_true, if_false]
   refine ih _ _ _ hcount ⟨after M ν undef w (Mem.ext.refl κ M) h4 (by rw [ht]; simp [undefT, T.rep, Cell.rep, C.rep]) (h7.drop (same hjn) nod) h8, hxL'⟩
def genMSOk (n : Nat) (l : List Oper) (m : Nat) : Bool := genMOk n l && (l.length == m + 1 && ((List.range m).all (fun i => depB l m i) && (match l[m]? with | some o => o.guard.isNone | none => false)))
theorem AWP.genMS {id : Nat} {l : List Oper} {env : Env} {B : Bx} (es : List Nat) (m : Nat) (hm : P.follows .mixedOrders = true) (hl : genMSOk n l m = true)
  (h : ∀ K : Env → Bx → Prop, (∀ e b, Q .normal ⟨e, b⟩ → K e b) → genVCM P l es B 0 [] (l.take m) env B fun env B => lastVC P (l.drop m) env B K) : AWP P n (.region id l.toArray true) ⟨env, B⟩ Q := by
 simp only [genMSOk, genMOk, Bool.and_eq_true, beq_iff_eq] at hl
 obtain ⟨⟨hlex, hds⟩, hlen1, hdep, hgd⟩ := hl
 have hlt : m < l.length := by omega
 obtain ⟨oL, hoL⟩ : ∃ o, l[m]? = some o := ⟨l[m], by simp [hlt]⟩
 have hsplit : l = l.take m ++ [oL] := by
  conv => lhs; rw [← List.take_append_drop m l]
  congr 1
  rw [List.drop_eq_getElem_cons hlt, List.drop_eq_nil_of_le (by omega)]
  have := List.getElem?_eq_getElem hlt
  rw [hoL] at this
  rw [Option.some.inj this]
 have hdrop : l.drop m = [oL] := by
  rw [List.drop_eq_getElem_cons hlt, List.drop_eq_nil_of_le (by omega)]
  have := List.getElem?_eq_getElem hlt
  rw [hoL] at this
  rw [Option.some.inj this]
 have htl : (l.take m).length = m := by simp; omega
 have hds' : dstsOk n (l.take m) = true ∧ dstOk n oL = true := by
  unfold dstsOk at *
  rw [hsplit] at hds
  rw [List.all_append, Bool.and_eq_true] at hds
  refine ⟨hds.1, ?_⟩
  have := hds.2
  simp only [List.all_cons, List.all_nil, Bool.and_true, Bool.and_eq_true] at this
  exact this.1
 rw [hoL] at hgd
 have hgL : oL.guard = none := by simpa using hgd
 intro κ M0 a w hs
 obtain ⟨hback, hpairs, _⟩ := lex_pairs hlex
 obtain ⟨t, mk, hsp, hlen, hro, hfb, hdis, _, hjj, hK⟩ := genM_trace l es B _ (l.take m) 0 [] env B hds'.1 (fun x hx => hx) (h (fun e b => Q .normal ⟨e, b⟩) (fun _ _ k => k))
 rw [htl] at hlen hjj hK
 rw [hdrop] at hK
 have henv : ∀ (t' : Nat → T), (∀ i, i < m → t' i = t i) → ∀ i, i ≤ m → envA l t' (fun _ => true) env i = envA (l.take m) t (fun _ => true) env i := by
  intro t' ht i
  induction i with
  | zero => intro _; rfl
  | succ i ih =>
   intro hi
   rw [envA, envA, ih (by omega), ht i (by omega), List.getElem?_take_of_lt (by omega)]
 obtain ⟨B', hop, hKB⟩ : ∃ B', OpE P oL (envA (l.take m) t (fun _ => true) env m) (bxX mk B (fun _ => true) m) undefT B' ∧ Q .normal ⟨putE (envA (l.take m) t (fun _ => true) env m) oL.dst undefT, B'⟩ := by
  simp only [lastVC] at hK
  split at hK
  ·rename_i ho
   exact vStore_sound ho hK
  ·exact hK.elim
 refine wp_region_any hm ?_
 have hsz : l.toArray.size = l.length := by simp
 rw [hsz]
 have hrep : ∀ j, (Array.replicate l.length false).getD j false = false := fun j => rep_getD _ j
 have hxs : ∀ j, xs (Array.replicate l.length false) j = false := fun j => rep_getD _ j
 let t' : Nat → T := fun i => if i < m then t i else undefT
 have ht' : ∀ i, i < m → t' i = t i := fun i hi => by simp [t', hi]
 have htm : t' m = undefT := by simp [t']
 have hmkm : ∀ i, m ≤ i → mk i = none := by
  intro i hi
  cases hk : mk i with
  | none => rfl
  | some p => have := hlen i p hk; omega
 have hend : envA l t' (fun _ => true) env l.length = putE (envA (l.take m) t (fun _ => true) env m) oL.dst undefT := by
  rw [hlen1, envA]
  simp only [cond_true, hoL, Option.bind_some, htm, henv t' ht' m (Nat.le_refl _)]
 refine genMS_sound (κ := κ) (M0 := M0) (t := t') (mk := mk) (B0 := B) (env0 := env) (L := m) (oL := oL) (B' := B') hback hpairs ⟨hdis, fun i p hp x hx => (Bx.fresh_spec (j := x.1) (r := x.2) (hfb i p hp) hx).1⟩ hro (fun i p hp => by have := hlen i p hp; omega) hlen1 hoL hds'.2 hgL (fun i hi => List.all_eq_true.1 hdep i (List.mem_range.2 hi)) ?_ ?_ ?_ (fun a w s => ?_) l.length _ a _ ?_ ?_
 ·rw [htm, henv t' ht' m (Nat.le_refl _)]; exact hop
 ·intro i o hi ho
  rw [henv t' ht' i (by omega), ht' i hi]
  exact hsp i o (by rw [List.getElem?_take_of_lt hi]; exact ho)
 ·intro g k p hg hgk hk
  by_cases hkm : k < m
  ·rw [ht' k hkm]
   have := hjj g k p hg hgk hkm; simpa using this
  ·left
   have : t' k = undefT := by simp [t', hkm]
   rw [this]; rfl
 ·rw [hend] at s
  exact ⟨_, s, hKB⟩
 ·unfold cnt
  have hfil : (List.range l.length).filter (fun i => !(Array.replicate l.length false).getD i false) = List.range l.length := by
   rw [List.filter_eq_self]
   intro x _
   simp only [hrep x, Bool.not_false]
  rw [hfil, List.length_range]
 ·have hst := mid_start (σ := ⟨env, B⟩) (l := l) (t := t') (b := fun _ => B) (e := fun _ => false) rfl hs
  obtain ⟨M, ν, _, h1, h2, h3, h4, _, _, h7, h8⟩ := hst.st
  have hbx : ∀ q, bxX mk B (xs (Array.replicate l.length false)) q = B := by
   intro q
   induction q with
   | zero => rfl
   | succ q ih => unfold bxX; rw [hxs q]; simp only [ih]
  exact ⟨⟨hst.size, hst.closed, M, ν, h1, h2, h3, h4, by rw [hbx]; exact h7, h8⟩, hrep m⟩
end Go.Sx
namespace Go.Gr
variable (es : Nat → List Nat)
theorem rep_false (n j : Nat) : (List.replicate n false).getD j false = false := by
  rw [List.getD_eq_getElem?_getD, List.getElem?_replicate]; split <;> rfl
theorem dfR_iff (n : Nat) (hk : ∀ i, i < n → ∀ k ∈ es i, k < n) (r : Nat) (hr : r < n) (j : Nat) : (dfR es (n + 1) (List.replicate n false) r).getD j false = true ↔ Rch es r j := by
 have a := dfR_ok es n hk (n + 1) (List.replicate n false) r (by simp) hr (by have := zeB_le (List.replicate n false); simp at this; omega)
 exact marks es (a.has r List.mem_cons_self) (fun j h => a.cls j h (rep_false n j)) (fun j h => by
  obtain ⟨x, hx, h2⟩ := a.rch j h (rep_false n j)
  rw [List.mem_singleton.1 hx] at h2; exact h2) j
def wrk : Nat → List Bool → List Nat → List Bool
 | 0, st, w => st
 | f + 1, st, w => match w.getLast? with
  | none => st
  | some k => bif st.getD k false then wrk f st w.dropLast else wrk f (st.set k true) (w.dropLast ++ es k)
def wgt (n : Nat) (es : Nat → List Nat) (st : List Bool) : Nat := ((List.range n).map fun i => bif st.getD i false then 0 else (es i).length + 1).sum
theorem sum_one : ∀ (l : List Nat) (f g : Nat → Nat) (k d : Nat), l.Nodup → k ∈ l → (∀ i ∈ l, i ≠ k → f i = g i) → f k + d = g k → (l.map f).sum + d = (l.map g).sum
 | [], f, g, k, d, hn, hk, h, hd => by cases hk
 | a :: l, f, g, k, d, hn, hk, h, hd => by
  rw [List.nodup_cons] at hn
  simp only [lE, List.sum_cons]
  by_cases e : a = k
  ·subst e
   have : l.map f = l.map g := List.map_congr_left fun i hi => h i (List.mem_cons_of_mem _ hi) fun e => hn.1 (e ▸ hi)
   rw [this]; omega
  ·have := sum_one l f g k d hn.2 ((List.mem_cons.1 hk).resolve_left fun e2 => e e2.symm) (fun i hi => h i (List.mem_cons_of_mem _ hi)) hd
   have := h a List.mem_cons_self e
   omega
theorem wgt_set (n : Nat) (st : List Bool) (k : Nat) (hl : st.length = n) (hk : k < n) (h0 : st.getD k false = false) : wgt n es (st.set k true) + ((es k).length + 1) = wgt n es st := by
  unfold wgt
  have hg := fun j => getD_setB st k j true (by omega)
  refine sum_one (List.range n) _ _ k _ List.nodup_range (List.mem_range.2 hk) (fun i _ hne => ?_) ?_
  · simp only [hg, if_neg hne]
  · simp only [hg, if_pos, h0, cond_true, cond_false]; omega
theorem wrk_ok (n : Nat) (hk : ∀ i, i < n → ∀ k ∈ es i, k < n) (r : Nat) : ∀ (f : Nat) (st : List Bool) (w : List Nat), st.length = n → (∀ k ∈ w, k < n) → wgt n es st + w.length < f →
  (st.getD r false = true ∨ r ∈ w) → (∀ j, st.getD j false = true → ∀ k ∈ es j, st.getD k false = true ∨ k ∈ w) → (∀ j, st.getD j false = true → Rch es r j) → (∀ k ∈ w, Rch es r k) →
  (wrk es f st w).length = n ∧ ∀ j, (wrk es f st w).getD j false = true ↔ Rch es r j
 | 0, st, w, hl, hw, hf, h1, h2, h3, h4 => by omega
 | f + 1, st, w, hl, hw, hf, h1, h2, h3, h4 => by
  rw [wrk]
  cases hg : w.getLast? with
  | none =>
   have hw0 : w = [] := List.getLast?_eq_none_iff.1 hg
   subst hw0
   exact ⟨hl, marks es (h1.resolve_right (by simp)) (fun j hj k hk => (h2 j hj k hk).resolve_right (by simp)) h3⟩
  | some k =>
   have he : w = w.dropLast ++ [k] := (List.getLast?_eq_some_iff.1 hg).elim fun ys e => by rw [e, List.dropLast_concat]
   have hkm : k ∈ w := by rw [he]; simp
   have hlen : w.length = w.dropLast.length + 1 := by rw [List.length_dropLast]; have := List.length_pos_of_mem hkm; omega
   have hsub : ∀ x ∈ w.dropLast, x ∈ w := fun x hx => by rw [he]; exact List.mem_append_left _ hx
   have hin : ∀ x, x ∈ w → x ∈ w.dropLast ∨ x = k := fun x hx => by
    rw [he] at hx
    rcases List.mem_append.1 hx with hx | hx
    ·exact .inl hx
    ·exact .inr (List.mem_singleton.1 hx)
   simp only []
   cases hs : st.getD k false with
   | true =>
    rw [cond_true]
    refine wrk_ok n hk r f st w.dropLast hl (fun x hx => hw x (hsub x hx)) (by omega) ?_ (fun j hj x hx => ?_) h3 fun x hx => h4 x (hsub x hx)
    ·rcases h1 with h1 | h1
     ·exact .inl h1
     ·rcases hin r h1 with h | h
      ·exact .inr h
      ·rw [h]; exact .inl hs
    ·rcases h2 j hj x hx with h | h
     ·exact .inl h
     ·rcases hin x h with h | h
      ·exact .inr h
      ·rw [h]; exact .inl hs
   | false =>
    rw [cond_false]
    have hkn := hw k hkm
    have hg := fun j => getD_setB st k j true (by omega)
    have hwg := wgt_set es n st k hl hkn hs
    refine wrk_ok n hk r f (st.set k true) (w.dropLast ++ es k) (by rw [List.length_set]; exact hl) (fun x hx => ?_) (by rw [lA]; omega) ?_ (fun j hj x hx => ?_) (fun j hj => ?_) fun x hx => ?_
    ·rcases List.mem_append.1 hx with hx | hx
     ·exact hw x (hsub x hx)
     ·exact hk k hkn x hx
    ·rw [hg]
     by_cases e : r = k
     ·exact .inl (if_pos e)
     ·rw [if_neg e]
      rcases h1 with h1 | h1
      ·exact .inl h1
      ·exact .inr (List.mem_append_left _ ((hin r h1).resolve_right e))
    ·rw [hg] at hj ⊢
     by_cases e : j = k
     ·subst e; exact .inr (List.mem_append_right _ hx)
     ·rw [if_neg e] at hj
      by_cases ex : x = k
      ·exact .inl (if_pos ex)
      ·rw [if_neg ex]
       rcases h2 j hj x hx with h | h
       ·exact .inl h
       ·exact .inr (List.mem_append_left _ ((hin x h).resolve_right ex))
    ·rw [hg] at hj
     by_cases e : j = k
     ·subst e; exact h4 j hkm
     ·rw [if_neg e] at hj; exact h3 j hj
    ·rcases List.mem_append.1 hx with hx | hx
     ·exact h4 x (hsub x hx)
     ·exact .step (h4 k hkm) hx
theorem wrk_iff (n : Nat) (hk : ∀ i, i < n → ∀ k ∈ es i, k < n) (r : Nat) (hr : r < n) (f : Nat) (hf : wgt n es (List.replicate n false) + 1 < f) :
  (wrk es f (List.replicate n false) [r]).length = n ∧ ∀ j, (wrk es f (List.replicate n false) [r]).getD j false = true ↔ Rch es r j :=
 wrk_ok es n hk r f _ [r] (by simp) (fun x hx => by rw [List.mem_singleton.1 hx]; exact hr) (by simpa using hf) (.inr List.mem_cons_self) (fun j hj => by rw [rep_false] at hj; cases hj) (fun j hj => by rw [rep_false] at hj; cases hj) fun x hx => by rw [List.mem_singleton.1 hx]; exact .refl r
theorem same_marks (n : Nat) (hk : ∀ i, i < n → ∀ k ∈ es i, k < n) (r : Nat) (hr : r < n) (f : Nat) (hf : wgt n es (List.replicate n false) + 1 < f) : dfR es (n + 1) (List.replicate n false) r = wrk es f (List.replicate n false) [r] := by
  obtain ⟨h1, h2⟩ := wrk_iff es n hk r hr f hf
  have h3 := dfR_len es n hk r hr
  apply List.ext_getElem (by rw [h1, h3])
  intro i hi hi2
  have e := (dfR_iff es n hk r hr i).trans (h2 i).symm
  rw [List.getD_eq_getElem?_getD, List.getD_eq_getElem?_getD, List.getElem?_eq_getElem hi, List.getElem?_eq_getElem hi2, Option.getD_some, Option.getD_some] at e
  exact Bool.eq_iff_iff.2 e
end Go.Gr
namespace Go.Sx
variable {P : Program} {n : Nat} {Q : Exit → AS → Prop}
theorem Sat.shrink {κ : Kap} {M : Mem} {ν : Nu} {B : Bx} {w : World} {k : Nat} {r r' : Res} (h : Sat κ M ν B w) (hk : (k, r) ∈ B) (hr : r'.ok M ν w k) : Sat κ M ν (Bx.put k r' B) w where
 os := h.os
 tape := h.tape
 output := h.output
 dr := Nat.zero_le _
 size := h.size
 unch := h.unch
 fro := h.fro
 res := fun j q hm => by
  rcases Bx.mem_put h.nodup hm with e | ⟨hm, hj⟩
  ·cases e; exact hr
  ·exact h.res j q hm
 away := fun j q d hm hd => by
  rcases Bx.mem_put h.nodup hm with e | ⟨hm, hj⟩
  ·cases e; exact h.away k r d hk hd
  ·exact h.away j q d hm hd
 inj := fun j q j' q' d hm hm' hd hd' => by
  have f : ∀ i p, (i, p) ∈ Bx.put k r' B → ∃ p', (i, p') ∈ B := by
   intro i p hp
   rcases Bx.mem_put h.nodup hp with e | ⟨hp, _⟩
   ·cases e; exact ⟨r, hk⟩
   ·exact ⟨p, hp⟩
  obtain ⟨p, hp⟩ := f j q hm
  obtain ⟨p', hp'⟩ := f j' q' hm'
  exact h.inj j p j' p' d hp hp' hd hd'
 nodup := by rw [Bx.put_keys]; exact h.nodup
theorem vOwnS_sound {t : TypeId} {x y : Operand} {tx ti : TypeId} {env : Env} {B : Bx} {o : Oper} {K : T → Bx → Prop} (ho : o.op = .slice t x none (some y) none)
  (h : vOwnS P t (ev P env tx x) (ev P env ti y) B K) : ∃ u B', OpE P o env B u B' ∧ K u B' := by
 have hx : x ∈ o.op.operands := by rw [ho]; simp [Op.operands]
 have hy : y ∈ o.op.operands := by rw [ho]; simp [Op.operands]
 have hex : ∀ (a : Act), execOp a.eval o = (do pure (.value (← Instr.sliceAt t (a.eval x) none (some (a.eval y)) none))) := by
  intro a; unfold execOp; rw [ho]; rfl
 unfold vOwnS at h
 split at h
 ·rename_i k m kd j ex ey
  split at h
  ·rename_i e agg sz rows hel hb
   obtain ⟨rfl, h0, hj, hm, hK⟩ := h
   obtain ⟨ee, hu, hsz, _⟩ := elT_spec hel
   refine ⟨_, _, ?_, hK⟩
   intro κ M ν a w he hs
   have hxv := ev_rep he hx ex
   simp only [T.rep, Cell.rep] at hxv
   have hyv := rep_int.1 (ev_rep he hy ey)
   have hmem := lookup_box hb
   have hres := hs.res k _ hmem
   have hcap : m ≤ (ν k).cap := by
    simp only [Res.ok] at hres
    omega
   have hbd := run_bounds (P := P) (isSlice := true) (len := m) (cap := (ν k).cap) (lo := none) (hi := some (.int kd j)) w (.inl ⟨rfl, rfl⟩) (.inr ⟨kd, rfl⟩) (Int.le_refl _) h0 (by omega)
   have hrun : (execOp a.eval o).run P w = .ok (.value (.slice ((ν k).blk.map fun b => ⟨b, 0, none⟩) j.toNat (ν k).cap)) w := by
    refine exec_v (hex a) ?_
    rw [hxv, hyv]
    simp only [Instr.sliceAt, Sem.run_bind, run_underlying hu, Result.andThen_ok, Instr.slice, hbd, run_sz hsz, Sem.run_pure, Int.toNat_zero, Nat.zero_mul, Nat.sub_zero]
    congr 2
    cases (ν k).blk with
    | none => simp
    | some b => simp [addr_add]
   unfold Oper.wp
   rw [hrun]
   simp only [Oper.upon]
   refine ⟨_, M, rfl, Mem.ext.refl κ M, ?_, hs.shrink hmem ?_⟩
   ·simp only [T.rep, Cell.rep]
   ·simp only [Res.ok] at hres ⊢
    obtain ⟨h1, h2, h3⟩ := hres
    refine ⟨by simp; omega, h2, ?_⟩
    rcases h3 with h3 | ⟨b, c, et, mid, post, e1, e2, e3, e4, e5⟩
    ·exact .inl h3
    ·rw [← List.take_append_drop j.toNat rows] at e4
     obtain ⟨v1, v2, e6, e7, e8⟩ := repRows_split e4
     exact .inr ⟨b, c, et, v1, v2 ++ post, e1, e2, by rw [e3, e6, List.append_assoc], e7, e5⟩
  ·exact h.elim
 ·exact h.elim
theorem AWP.ownS {id : Nat} {l : List Oper} {env : Env} {B : Bx} (i : Nat) {o : Oper} {t : TypeId} {x y : Operand} (hi : l[i]? = some o) (ho : o.op = .slice t x none (some y) none) (hg : o.guard = none) (hd : dstsOk n l = true)
  (h : ∀ K : Env → Bx → Prop, (∀ e b, Q .normal ⟨e, b⟩ → K e b) → seqVC P l (l.take i) env B fun env1 B1 => vOwnS P t (ev P env1 0 x) (ev P env1 0 y) B1 fun u B2 => seqVC P l (l.drop (i + 1)) (putE env1 o.dst u) B2 K) : AWP P n (.region id l.toArray false) ⟨env, B⟩ Q := by
 refine AWP.region_seq fun K hK => ?_
 have hsub : ∀ l' : List Oper, (∀ x ∈ l', x ∈ l) → dstsOk n l' = true := fun l' hs => List.all_eq_true.2 fun x hx => List.all_eq_true.1 hd x (hs x hx)
 have hil : i < l.length := (List.getElem?_eq_some_iff.1 hi).1
 have hoi : l[i] = o := (List.getElem?_eq_some_iff.1 hi).2
 have e : l = l.take i ++ (o :: l.drop (i + 1)) := by
  conv => lhs; rw [← List.take_append_drop i l]
  rw [List.drop_eq_getElem_cons hil, hoi]
 have hv := h (fun e b => K ⟨e, b⟩) (fun e b q => hK _ q)
 have hs : seqSem P n l (l.take i) ⟨env, B⟩ (fun τ => seqSem P n l (o :: l.drop (i + 1)) τ K) := by
  refine seqSem_mn l ?_ _ _ (seqVC_sound l (fun τ => vOwnS P t (ev P τ.env 0 x) (ev P τ.env 0 y) τ.B fun u B2 => seqVC P l (l.drop (i + 1)) (putE τ.env o.dst u) B2 fun e b => K ⟨e, b⟩) (l.take i) env B (hsub _ fun x hx => List.mem_of_mem_take hx) hv)
  rintro ⟨env1, B1⟩ hb
  obtain ⟨u, B2, hop, hk⟩ := vOwnS_sound (B := B1) ho hb
  unfold seqSem guardT
  rw [hg]
  have ho1 : dstOk n o = true := by
   have := List.all_eq_true.1 hd o (List.mem_of_getElem? hi)
   simp only [Bool.and_eq_true] at this
   exact this.1
  exact .eff u B2 hop ho1 (by rw [put_as]; exact seqVC_sound l K (l.drop (i + 1)) _ B2 (hsub _ fun x hx => List.mem_of_mem_drop hx) hk)
 have := seqSem_ap l K (o :: l.drop (i + 1)) (l.take i) ⟨env, B⟩ hs
 rw [← e] at this
 exact this
end Go.Sx
namespace Go.Proofs.YthbcdhfiibpeaaaGreat
open Go Go.Sx
theorem edges7_c (x : NodeD) (hk : x.kids.length ≤ 1000000) (hf : x.fields.length ≤ 1000000) : PC Tryz.prog 113 [Nt x] (IsP (edgeL x)) := by
 refine PCB.ob Tryz.func113 Tryz.ntmps113 Tryz.results113 ?_
 refine AWP.ghQ ?_
 repeat' (first | (simp only [go_sem, zA, zB, zC, zD, zE, zF, zG, reduceCtorEq, zH, zI, zJ, zK, zL, encNode_lit, lB]; all_goals refine nf ?_) | (refine stp ?_; intro K hK) | (apply hK; clear hK K) | refine stn ?_ | (with_reducible (refine ⟨(by first | omega | (simp only [lA, lB, lQ, List.length_drop, lC, lD, List.length_replicate]; omega) : _ ≤ _), ?_⟩)) | fail)
 refine AWP.lenB 1 5 rfl rfl fun hlen0 => ?_
 (try rw [lB] at hlen0)
 refine xC (S := List Int) (x.fields) encField (fun k s => (4, I .i64 (k : Nat)) :: [(3, .one (.own 7 s.length))]) (fun k s => [(7, .row 1 (s.map encInt))]) [1] [1] (fun k s => Is s (x.kids ++ (x.fields.take k).map (·.node))) (x.kids) (by refine sts ?_; exact Gh.tt []) ?_ ?_ ?_
 ·simp [Is]
 ·intro k s y hlt hy hy' hbb hok
  refine sts ?_
  have hsl : s.length ≤ 2000000 := by rw [show s = _ from hok, lA, lB, lQ]; omega
  repeat' (first | (simp only [go_sem, zA, zB, zC, zD, zE, zF, zG, reduceCtorEq, zH, zI, zJ, zK, zL, lB, lA, hbb, encField_lit, snocI]; all_goals refine nf ?_) | (refine stp ?_; intro K hK) | (apply hK; clear hK K) | refine stn ?_ | (with_reducible first | refine ⟨by omega, encField y, hy', ?_⟩ | refine ⟨(by omega : _ ≤ _), ?_⟩) | refine stq ?_ | (clear hK K))
  all_goals (rw [wrap_succ hlt hlen0])
  all_goals (refine ⟨s ++ [y.node], ?_, Gh.tt [(7, 23)]⟩)
  rw [Is, show s = _ from hok, List.take_succ_eq_append_getElem hlt]
  have := (List.getElem?_eq_some_iff.1 hy).2
  simp [this]
 ·intro s hbb hok
  refine sts ?_
  rw [List.take_length] at hok
  have hsl : s.length ≤ 2000000 := by rw [show s = _ from hok, lA, lB]; omega
  cases hz : decide (x.kind = 13)
  ·
   repeat' (first | (simp only [go_sem, zA, zB, zC, zD, zE, zF, zG, reduceCtorEq, zH, zI, zJ, zK, zL, lB, hbb, hz, encNode_lit]; all_goals refine nf ?_) | (refine stp ?_; intro K hK) | (apply hK; clear hK K) | refine stn ?_ | (clear hK K))
   refine ⟨_, Gh.fz 7, ?_⟩
   simp only [go_sem, zA, zB, zC, zD, zE, zF, zG, reduceCtorEq, zH, zI, zJ, zK, zL, lB]
   all_goals (first | exact fun _ h => absurd h List.not_mem_nil | refine fin0 ?_)
   all_goals (rw [edgeL, hz, show s = _ from hok]; simp)
  ·
   repeat' (first | (simp only [go_sem, zA, zB, zC, zD, zE, zF, zG, reduceCtorEq, zH, zI, zJ, zK, zL, lB, lA, hbb, hz, encNode_lit, snocI2]; all_goals refine nf ?_) | (refine stp ?_; intro K hK) | (apply hK; clear hK K) | refine stn ?_ | (with_reducible refine ⟨(by omega : _ ≤ _), ?_⟩) | refine stq ?_ | (clear hK K))
   refine ⟨_, Gh.freeze 35 rfl rfl (by simp only [go_sem, zA, zB, zC, zD, zE, zF, zG, reduceCtorEq, zH, zI, zJ, zK, zL, lB, lA, lC, lD, Nat.zero_add, Nat.reduceAdd]) (by simp only [go_sem, zA, zB, zC, zD, zE, zF, zG, reduceCtorEq, zH, zI, zJ, zK, zL, lB, lA, lC, lD, Nat.zero_add, Nat.reduceAdd]), ?_⟩
   simp only [go_sem, zA, zB, zC, zD, zE, zF, zG, reduceCtorEq, zH, zI, zJ, zK, zL, lB, lA, lC, lD, Nat.zero_add, Nat.reduceAdd]
   all_goals (first | exact fun _ h => absurd h List.not_mem_nil | refine fin0 ?_)
   all_goals (rw [edgeL, hz, show s = _ from hok]; rfl)
theorem edges7_f (x : NodeD) (hk : x.kids.length ≤ 1000000) (hf : x.fields.length ≤ 1000000) : PC Tryz.prog 113 [.st [.int .i64 x.kind, .int .i64 x.lo, .int .i64 x.hi, .str x.text, .sl 1 (x.kids.map encInt), .sl 4 (x.fields.map encField), .int .i64 x.r0, .int .i64 x.r1]] (IsP (edgeL x)) := edges7_c x hk hf
theorem edgeL_len {x : NodeD} (hk : x.kids.length ≤ 1000000) (hf : x.fields.length ≤ 1000000) : (edgeL x).length ≤ 2000002 := by
  unfold edgeL
  rw [lA, lA, lB]
  cases decide (x.kind = 13) <;> simp <;> omega
theorem wgt_le {l : List NodeD} (hl : TSm l) (st : List Bool) : Gr.wgt l.length (es l) st ≤ l.length * 2000003 := by
 unfold Gr.wgt
 have key : ∀ (is : List Nat), (∀ i ∈ is, i < l.length) → ((is.map fun i => bif st.getD i false then 0 else (es l i).length + 1).sum) ≤ is.length * 2000003 := by
  intro is
  induction is with
  | nil => intro _; simp
  | cons i is ih =>
   intro h
   have h1 := ih fun j hj => h j (List.mem_cons_of_mem _ hj)
   have hi := h i List.mem_cons_self
   have h2 : (es l i).length ≤ 2000002 := by
    unfold es
    rw [List.getElem?_eq_getElem hi]
    simp only [lB]
    exact edgeL_len (hl.kids _ (List.getElem_mem hi)) (hl.fields _ (List.getElem_mem hi))
   rw [lE, List.sum_cons, lC, Nat.add_mul]
   have h3 : (bif st.getD i false then 0 else (es l i).length + 1) ≤ 2000003 := by cases st.getD i false <;> simp <;> omega
   omega
 have := key (List.range l.length) fun i hi => List.mem_range.1 hi
 rwa [List.length_range] at this
def wrkF (l : List NodeD) : Nat := Gr.wgt l.length (es l) (List.replicate l.length false) + 2
theorem reached7_c (l : List NodeD) (r : Int) (hr : InE l) (hl : TSm l) (h0 : 0 ≤ r) (hi : r < (l.length : Int)) : PC Tryz.prog 72 [Tt l r] (BsP (reachV l r)) := by
 have hll := hl.len
 have hF : wrkF l ≤ 2000003000002 := by have := wgt_le hl (List.replicate l.length false); unfold wrkF; omega
 have hsame : reachV l r = Gr.wrk (es l) (wrkF l) (List.replicate l.length false) [r.toNat] := Gr.same_marks (es l) l.length (es_in hr) r.toNat (by omega) (wrkF l) (by unfold wrkF; omega)
 have hrl := reachV_len hr h0 hi
 refine PCB.ob Tryz.func72 Tryz.ntmps72 Tryz.results72 ?_
 refine AWP.ghQ ?_
 repeat' (first | ( refine AWP.mkB (id := 1) 3 rfl rfl rfl (by kernel_rfl) (by kernel_rfl) fun K hK => ?_; simp only [List.take_succ_cons, List.take_zero, List.drop_succ_cons, List.drop_zero]) | (simp only [go_sem, zA, zB, zC, zD, zE, zF, zG, reduceCtorEq, zH, zI, zJ, zK, zL, lB, rowsB_rep, Int.toNat_natCast]; all_goals refine nf ?_) | (refine stp ?_; intro K hK) | (apply hK; clear hK K) | refine stn ?_ | (with_reducible first | refine ⟨by omega, by omega, ?_⟩ | (refine Or.inr (show vBuildOwn _ 12 _ _ _ _ _ _ from ?_); unfold vBuildOwn; with_reducible refine Or.inr ?_; simp only [vBuildRow, go_sem, zA, zB, zC, zD, zE, zF, zG, reduceCtorEq, zH, zI, zJ, zK, zL, lB, rowsB_rep, Int.toNat_natCast])) | fail)
 refine AWP.loopF (X := Nat × List Bool × List Int) (fun x => [(3, .one (.own 9 l.length)), (4, .one (.own 12 x.2.2.length))]) (fun x => [(9, .row 1 (x.2.1.map encB)), (12, .row 1 (x.2.2.map encInt))]) [1] [1] (fun x => Is (reachV l r) (Gr.wrk (es l) x.1 x.2.1 (x.2.2.map Int.toNat)) ∧ x.2.1.length = l.length ∧ (∀ k ∈ x.2.2, 0 ≤ k ∧ k < (l.length : Int)) ∧ Gr.wgt l.length (es l) x.2.1 + x.2.2.length < x.1 ∧ x.1 ≤ wrkF l) (fun x => x.1) ((wrkF l, List.replicate l.length false, [r])) (by refine sts ?_; exact Gh.tt []) ?_ ?_
 ·refine ⟨hsame, by simp, fun k hk => ?_, by simp [wrkF], Nat.le_refl _⟩
  simp only [List.mem_singleton] at hk
  subst hk; exact ⟨h0, hi⟩
 ·rintro ⟨f, st, w⟩ ⟨hok, hsl, hw, hwf, hfF⟩
  refine sts ?_
  simp only at hok hsl hw hwf hfF
  obtain ⟨f, rfl⟩ : ∃ f', f = f' + 1 := ⟨f - 1, by omega⟩
  rcases List.eq_nil_or_concat w with rfl | ⟨w', k, rfl⟩
  ·have hst : reachV l r = st := hok
   repeat' (first | (simp only [go_sem, zA, zB, zC, zD, zE, zF, zG, reduceCtorEq, zH, zI, zJ, zK, zL, lB, lD, hsl]; all_goals refine nf ?_) | (refine stp ?_; intro K hK) | (apply hK; clear hK K) | refine stn ?_ | (clear hK K))
   refine ⟨_, Gh.freeze 9 rfl rfl (by simp only [go_sem, zA, zB, zC, zD, zE, zF, zG, reduceCtorEq, zH, zI, zJ, zK, zL, lB, hsl]) (by simp only [go_sem, zA, zB, zC, zD, zE, zF, zG, reduceCtorEq, zH, zI, zJ, zK, zL, lB, hsl]), ?_⟩
   simp only [go_sem, zA, zB, zC, zD, zE, zF, zG, reduceCtorEq, zH, zI, zJ, zK, zL, lB, hsl]
   all_goals (first | exact fun _ h => absurd h List.not_mem_nil | refine fin0 ?_)
   all_goals rw [hst]
  ·have hk := hw k (by simp)
   have hlt : k.toNat < l.length := by omega
   have hx : l[k.toNat]? = some l[k.toNat] := List.getElem?_eq_getElem hlt
   obtain ⟨x, hxe⟩ : ∃ x, x = l[k.toNat] := ⟨_, rfl⟩
   rw [← hxe] at hx
   have hxm : x ∈ l := List.mem_of_getElem? hx
   have hxe2 := get_map encNode hx
   have hes : es l k.toNat = (edgeL x).map Int.toNat := by unfold es; rw [hx]
   have hel := edgeL_len (hl.kids x hxm) (hl.fields x hxm)
   obtain ⟨m, hm⟩ : ∃ m, m = w'.length := ⟨_, rfl⟩
   have hlen : (w' ++ [k]).length = m + 1 := by simp [hm]
   have hlen2 : (w'.concat k).length = m + 1 := by simp [hm]
   simp only [List.concat_eq_append] at hok hw hwf ⊢
   rw [hlen] at hwf
   have hpos : decide ((0 : Int) < ((m + 1 : Nat) : Int)) = true := by rw [decide_eq_true_eq]; omega
   have hsub : IntKind.i64.wrap (((m + 1 : Nat) : Int) - 1) = (m : Int) := by rw [w64 (by omega)]; omega
   have hget : ((w' ++ [k]).map encInt)[m]? = some (encInt k) := get_map encInt (by rw [hm]; simp)
   have htake : ((w' ++ [k]).map encInt).take m = w'.map encInt := by rw [List.map_append, hm, List.take_left' (by simp)]
   have hs := getB_get (l := st) (i := k.toNat) (by omega)
   obtain ⟨v, hv⟩ : ∃ v, v = st.getD k.toNat false := ⟨_, rfl⟩
   rw [← hv] at hs
   have hse := get_map encB hs
   have hstep : Gr.wrk (es l) (f + 1) st ((w' ++ [k]).map Int.toNat) = bif v then Gr.wrk (es l) f st (w'.map Int.toNat) else Gr.wrk (es l) f (st.set k.toNat true) (w'.map Int.toNat ++ (edgeL x).map Int.toNat) := by
    rw [Gr.wrk, List.map_append, lE, List.map_nil, List.getLast?_append, List.getLast?_singleton]
    simp only [Option.or_some, Option.some_or, List.dropLast_concat]
    rw [← hv, hes]
   have hok2 : reachV l r = _ := hok.trans hstep
   obtain ⟨m1, hm1⟩ : ∃ m1, m1 = m + 1 := ⟨_, rfl⟩
   rw [← hm1] at hlen hlen2 hpos hsub
   cases v with
   | true =>
    repeat' (first | ( refine AWP.ownS (id := 5) 4 rfl rfl rfl (by kernel_rfl) fun K hK => ?_; simp only [List.take_succ_cons, List.take_zero, List.drop_succ_cons, List.drop_zero]) | (simp only [go_sem, zA, zB, zC, zD, zE, zF, zG, reduceCtorEq, zH, zI, zJ, zK, zL, lB, hsl, hlen, hlen2, hpos, hsub, htake, Int.toNat_natCast, encInt, encB]; all_goals refine nf ?_) | (refine stp ?_; intro K hK) | (apply hK; clear hK K) | refine stn ?_ | (with_reducible first | refine ⟨(by omega : _ ≤ _), (by omega : _ ≤ _), (by omega : _ < _), ?_⟩ | refine ⟨(by omega : _ ≤ _), ?_⟩ | refine ⟨_, hget, ?_⟩ | refine ⟨_, hse, ?_⟩) | (clear hK K))
    all_goals (subst hm)
    all_goals (refine ⟨(f, st, w'), by show f < f + 1; omega, ⟨hok2, hsl, fun k h => hw k (by simp [h]), by show Gr.wgt l.length (es l) st + w'.length < f; clear hsub; omega, by show f ≤ _; clear hsub; omega⟩, Gh.tt []⟩)
   | false =>
    have hz : Gr.wgt l.length (es l) (st.set k.toNat true) + ((es l k.toNat).length + 1) = Gr.wgt l.length (es l) st := Gr.wgt_set (es l) l.length st k.toNat hsl hlt hv.symm
    rw [hes, lB] at hz
    rw [cond_false, ← List.map_append] at hok2
    have happ : w'.map encInt ++ (edgeL x).map encInt = (w' ++ edgeL x).map encInt := by rw [List.map_append]
    repeat' (first | ( refine AWP.ownS (id := 5) 4 rfl rfl rfl (by kernel_rfl) fun K hK => ?_; simp only [List.take_succ_cons, List.take_zero, List.drop_succ_cons, List.drop_zero]) | (simp only [go_sem, zA, zB, zC, zD, zE, zF, zG, reduceCtorEq, zH, zI, zJ, zK, zL, lB, hsl, hlen, hlen2, hpos, hsub, htake, Int.toNat_natCast, encInt, encB, encNode_lit, rowsB_set, happ]; all_goals refine nf ?_) | (refine stp ?_; intro K hK) | (apply hK; clear hK K) | refine stn ?_ | (with_reducible first | refine ⟨(by omega : _ ≤ _), (by omega : _ ≤ _), (by omega : _ < _), ?_⟩ | refine ⟨(by omega : _ = _), (by omega : _ ≤ _), ?_⟩ | refine ⟨(by omega : _ ≤ _), ?_⟩ | refine ⟨_, hget, ?_⟩ | refine ⟨_, hse, ?_⟩ | refine ⟨_, hxe2, ?_⟩ | refine ⟨_, edges7_f x (hl.kids x hxm) (hl.fields x hxm), ?_⟩) | refine stq ?_ | (clear hK K))
    all_goals (subst hm)
    all_goals (refine ⟨(f, st.set k.toNat true, w' ++ edgeL x), by show f < f + 1; omega, ⟨hok2, by rw [List.length_set]; exact hsl, fun k h => ?_, by show Gr.wgt l.length (es l) (st.set k.toNat true) + (w' ++ edgeL x).length < f; rw [lA]; clear hsub; omega, by show f ≤ _; clear hsub; omega⟩, Gh.tt [(12, 42)]⟩)
    all_goals (rcases List.mem_append.1 h with h | h)
    ·exact hw k (by simp [h])
    ·exact hr x hxm k h
theorem varsT_ok {l : List NodeD} {r : Int} (h : wfP l r = 0) : varsT l r = varW l r := by
  unfold varsT soundL soundR; rw [decide_eq_true h]; rfl
theorem varsT_no {l : List NodeD} {r : Int} (h : decide (wfP l r = 0) = false) : varsT l r = [] := by
  unfold varsT soundL soundR; rw [h]; show varW [nodeK 1] 0 = []; decide
theorem refVariables_c (l : List NodeD) (r : Int) (hl : TSm l) : PC Tryz.prog 29 [Tt l r] (.one (.dat (.sl 1 ((varsT l r).map Sx.encStr)))) := by
 have hw := wellFormed7_s l r hl
 cases h : decide (wfP l r = 0) with
 | false =>
  rw [varsT_no h]
  refine PCB.ob Tryz.func29 Tryz.ntmps29 Tryz.results29 ?_
  repeat' (first | (simp only [go_sem, zA, zB, zC, zD, zE, zF, zG, reduceCtorEq, zH, zI, zJ, zK, zL, h]; all_goals refine nf ?_) | (refine stp ?_; intro K hK) | (apply hK; clear hK K) | refine stn ?_ | (with_reducible refine ⟨_, hw, ?_⟩) | refine stq ?_ | (clear hK K))
  all_goals (first | exact fun _ h => absurd h List.not_mem_nil | (refine fin0 ?_; rfl) | fail)
 | true =>
  have h1 := of_decide_eq_true h
  have hv := varsT_ok h1
  obtain ⟨h0, hi, hn, _⟩ := wf_out h1
  have hE := inE_of hn
  have hrc := reached7_c l r hE hl h0 hi
  have hrl := reachV_len hE h0 hi
  have hll := hl.len
  have hvl := varV_len l (reachV l r)
  have hsc := sorted_c (varV l (reachV l r)) (by omega)
  rw [show sortedV (varV l (reachV l r)) = varsT l r from hv.symm] at hsc
  refine PCB.ob Tryz.func29 Tryz.ntmps29 Tryz.results29 ?_
  repeat' (first | (simp only [go_sem, zA, zB, zC, zD, zE, zF, zG, reduceCtorEq, zH, zI, zJ, zK, zL, lB, h]; all_goals refine nf ?_) | (refine stp ?_; intro K hK) | (apply hK; clear hK K) | refine stn ?_ | (with_reducible first | refine ⟨_, hw, ?_⟩ | refine ⟨_, hrc, ?_⟩) | refine stq ?_ | fail)
  refine AWP.gh (Gh.nilrow 3 900 rfl rfl rfl rfl) ?_
  refine AWP.len 4 rfl fun hlen0 => ?_
  (try rw [lB] at hlen0)
  refine xC (S := List (List UInt8)) (reachV l r) encB (fun k s => (5, I .i64 (k : Nat)) :: [(3, .one (.own 900 s.length))]) (fun k s => [(900, .row 1 (s.map Sx.encStr))]) [1, 4] [1] (fun k s => Is s (varV (l.take k) ((reachV l r).take k))) ([]) (by refine sts ?_; exact Gh.tt []) ?_ ?_ ?_
  ·rfl
  ·intro k s b hlt hb hb' hbb hok
   refine sts ?_
   have hx : l[k]? = some l[k] := List.getElem?_eq_getElem (by omega)
   obtain ⟨x, hxe⟩ : ∃ x, x = l[k]'(by omega) := ⟨_, rfl⟩
   rw [← hxe] at hx
   have hx' := get_map encNode hx
   have htk := varV_take hx hb
   have hsl : s.length ≤ 1000000 := by
    have := varV_len (l.take k) ((reachV l r).take k)
    rw [← show s = _ from hok] at this
    simp only [lQ] at this; omega
   rw [← show s = _ from hok] at htk
   cases b
   ·
    repeat' (first | (simp only [go_sem, zA, zB, zC, zD, zE, zF, zG, reduceCtorEq, zH, zI, zJ, zK, zL, lB, hbb, encB, encNode_lit]; all_goals refine nf ?_) | (refine stp ?_; intro K hK) | (apply hK; clear hK K) | refine stn ?_ | (with_reducible refine ⟨by omega, encB false, hb', ?_⟩) | (clear hK K))
    all_goals (rw [wrap_succ hlt hlen0])
    all_goals (refine ⟨s, ?_, Gh.tt []⟩)
    all_goals (rw [Is, htk, Bool.false_and, cond_false, List.append_nil])
   ·cases h19 : decide (x.kind = 19) <;> rw [h19] at htk
    ·
     repeat' (first | (simp only [go_sem, zA, zB, zC, zD, zE, zF, zG, reduceCtorEq, zH, zI, zJ, zK, zL, lB, hbb, h19, encB, encNode_lit]; all_goals refine nf ?_) | (refine stp ?_; intro K hK) | (apply hK; clear hK K) | refine stn ?_ | (with_reducible first | refine ⟨by omega, encB true, hb', ?_⟩ | refine ⟨by omega, encNode x, hx', ?_⟩) | (clear hK K))
     all_goals (rw [wrap_succ hlt hlen0])
     all_goals (refine ⟨s, ?_, Gh.tt []⟩)
     all_goals (rw [Is, htk, Bool.and_false, cond_false, List.append_nil])
    ·
     repeat' (first | (simp only [go_sem, zA, zB, zC, zD, zE, zF, zG, reduceCtorEq, zH, zI, zJ, zK, zL, lB, hbb, h19, encB, encNode_lit, snocS]; all_goals refine nf ?_) | (refine stp ?_; intro K hK) | (apply hK; clear hK K) | refine stn ?_ | (with_reducible first | refine ⟨by omega, encB true, hb', ?_⟩ | refine ⟨by omega, encNode x, hx', ?_⟩ | (refine ⟨(by first | omega | (simp only [lA, lB, lQ, List.length_drop, lC, lD, List.length_replicate]; omega) : _ ≤ _), ?_⟩)) | refine stq ?_ | (clear hK K))
     all_goals (rw [wrap_succ hlt hlen0])
     all_goals (refine ⟨s ++ [x.text], ?_, Gh.tt [(900, 38)]⟩)
     all_goals (rw [Is, htk]; rfl)
  ·intro s hbb hok
   refine sts ?_
   have hse : s = varV l (reachV l r) := by
    rw [show s = _ from hok, List.take_length, List.take_of_length_le (by omega)]
   subst hse
   repeat' (first | (simp only [go_sem, zA, zB, zC, zD, zE, zF, zG, reduceCtorEq, zH, zI, zJ, zK, zL, lB, hbb]; all_goals refine nf ?_) | (refine stp ?_; intro K hK) | (apply hK; clear hK K) | refine stn ?_ | (with_reducible refine ⟨_, hsc, ?_⟩) | refine stq ?_ | (clear hK K))
   all_goals exact lf
theorem limN_c (x : NodeD) : PC Tryz.prog 107 [.st [.int .i64 x.kind, .int .i64 x.lo, .int .i64 x.hi, .str x.text, .sl 1 (x.kids.map encInt), .sl 4 (x.fields.map encField), .int .i64 x.r0, .int .i64 x.r1]] (Bo (limN x)) := by
  refine PCB.ob Tryz.func107 Tryz.ntmps107 Tryz.results107 ?_
  repeat' (first | (simp only [go_sem, zA, zB, zC, zD, zE, zF, zG, reduceCtorEq, zH, zI, zJ, zK, zL, lB]; all_goals refine nf ?_) | (refine stp ?_; intro K hK) | (apply hK; clear hK K) | refine stn ?_ | fail)
  all_goals exact lf
  all_goals rfl
def idxF {α : Type} (p : α → Bool) : List α → Int → Int
  | [], _ => -1
  | x :: l, i => bif p x then i else idxF p l (i + 1)
theorem idxF_any {α : Type} (p : α → Bool) : ∀ (l : List α) (i : Int), 0 ≤ i → decide (0 ≤ idxF p l i) = l.any p
 | [], i, _ => by simp [idxF]
 | x :: l, i, h => by
  rw [idxF, List.any_cons]
  cases p x
  ·rw [cond_false, Bool.false_or]; exact idxF_any p l (i + 1) (by omega)
  ·simpa using h
theorem nodesIndex_c (l : List NodeD) : PC Tryz.prog 143 [.one (.dat (.sl 8 (l.map encNode))), .one (.dat (.fn 107))] (I .i64 (idxF limN l 0)) := by
 refine PCB.ob Tryz.func143 Tryz.ntmps143 Tryz.results143 ?_
 repeat' (first | (simp only [go_sem, zA, zB, zC, zD, zE, zF, zG, reduceCtorEq, zH, zI, zJ, zK, zL, lB]; all_goals refine nf ?_) | (refine stp ?_; intro K hK) | (apply hK; clear hK K) | refine stn ?_ | fail)
 refine AWP.len 6 rfl fun hlen0 => ?_
 (try rw [lB] at hlen0)
 refine xC (S := Unit) (l) encNode (fun k s => (8, I .i64 (k : Nat)) :: []) (fun k s => []) [0, 1, 7] [] (fun k s => Is (idxF limN l 0) (idxF limN (l.drop k) (k : Int))) (()) (by refine sts ?_; exact Gh.tt []) ?_ ?_ ?_
 ·rfl
 ·intro k s x hlt hx hx' hbb hok
  refine sts ?_
  have hd : l.drop k = x :: l.drop (k + 1) := by
   obtain ⟨hk, e⟩ := List.getElem?_eq_some_iff.1 hx
   rw [List.drop_eq_getElem_cons hk, e]
  unfold Is at hok
  rw [hd, idxF] at hok
  cases hp : limN x <;> rw [hp] at hok
  ·
   repeat' (first | (simp only [go_sem, zA, zB, zC, zD, zE, zF, zG, reduceCtorEq, zH, zI, zJ, zK, zL, lB, hbb, hp, encNode_lit]; all_goals refine nf ?_) | (refine stp ?_; intro K hK) | (apply hK; clear hK K) | refine stn ?_ | (with_reducible first | refine ⟨by omega, encNode x, hx', ?_⟩ | refine ⟨_, limN_c x, ?_⟩) | refine stq ?_ | (clear hK K))
   all_goals (rw [wrap_succ hlt hlen0])
   all_goals (refine ⟨(), ?_, Gh.tt []⟩)
   all_goals exact hok
  ·
   repeat' (first | (simp only [go_sem, zA, zB, zC, zD, zE, zF, zG, reduceCtorEq, zH, zI, zJ, zK, zL, lB, hbb, hp, encNode_lit]; all_goals refine nf ?_) | (refine stp ?_; intro K hK) | (apply hK; clear hK K) | refine stn ?_ | (with_reducible first | refine ⟨by omega, encNode x, hx', ?_⟩ | refine ⟨_, limN_c x, ?_⟩) | refine stq ?_ | (clear hK K))
   all_goals (refine fin0 ?_; rw [hok]; rfl)
 ·intro s hbb hok
  refine sts ?_
  unfold Is at hok
  rw [List.drop_length, idxF] at hok
  repeat' (first | (simp only [go_sem, zA, zB, zC, zD, zE, zF, zG, reduceCtorEq, zH, zI, zJ, zK, zL, lB, hbb]; all_goals refine nf ?_) | (refine stp ?_; intro K hK) | (apply hK; clear hK K) | refine stn ?_ | (clear hK K))
  all_goals (refine fin0 ?_; rw [hok])
theorem nodesAny_c (l : List NodeD) : PC Tryz.prog 106 [.one (.dat (.sl 8 (l.map encNode))), .one (.dat (.fn 107))] (Bo (l.any limN)) := by
  have h := nodesIndex_c l
  rw [← idxF_any limN l 0 (Int.le_refl _)]
  refine PCB.ob Tryz.func106 Tryz.ntmps106 Tryz.results106 ?_
  repeat' (first | (simp only [go_sem, zA, zB, zC, zD, zE, zF, zG, reduceCtorEq, zH, zI, zJ, zK, zL]; all_goals refine nf ?_) | (refine stp ?_; intro K hK) | (apply hK; clear hK K) | refine stn ?_ | (with_reducible refine ⟨_, h, ?_⟩) | refine stq ?_ | fail)
  all_goals exact lf
theorem Validate_c (l : List NodeD) (r : Int) (hl : TSm l) : PC Tryz.prog 63 [Tt l r] (I .i64 (valT l r)) := by
  have hw := wellFormed_c l r hl
  have hv := Variables_c l r hl
  have ha := nodesAny_c l
  refine PCB.ob Tryz.func63 Tryz.ntmps63 Tryz.results63 ?_
  repeat' (first | (simp only [go_sem, zA, zB, zC, zD, zE, zF, zG, reduceCtorEq, zH, zI, zJ, zK, zL, lB]; all_goals refine nf ?_) | (refine stp ?_; intro K hK) | (apply hK; clear hK K) | refine stn ?_ | (refine AWP.cnd ?_ ?_ <;> intro h <;> (try simp only [zM, zN] at h)) | (refine ⟨fun h => ?_, fun h => ?_⟩ <;> (try simp only [zM, zN] at h) <;> try simp only [h]) | (with_reducible first | refine ⟨_, hw, ?_⟩ | refine ⟨_, hv, ?_⟩ | refine ⟨_, ha, ?_⟩) | refine stq ?_ | (clear hK K))
  all_goals (refine fin0 ?_; simp only [valT, *, Bool.not_true, Bool.not_false, Bool.or_true, Bool.true_or, Bool.or_false, Bool.false_or, cond_true, cond_false])
theorem refValidate7_c (l : List NodeD) (r : Int) (hl : TSm l) : PC Tryz.prog 64 [Tt l r] (I .i64 (valT l r)) := by
 have hw := wellFormed7_s l r hl
 have hv := refVariables_c l r hl
 cases h : decide (wfP l r = 0) with
 | false =>
  have e : valT l r = wfP l r := by unfold valT; rw [h]; rfl
  rw [e]
  refine PCB.ob Tryz.func64 Tryz.ntmps64 Tryz.results64 ?_
  repeat' (first | (simp only [go_sem, zA, zB, zC, zD, zE, zF, zG, reduceCtorEq, zH, zI, zJ, zK, zL, lB, h]; all_goals refine nf ?_) | (refine stp ?_; intro K hK) | (apply hK; clear hK K) | refine stn ?_ | (with_reducible refine ⟨_, hw, ?_⟩) | refine stq ?_ | (clear hK K))
  all_goals exact lf
 | true =>
  have e : valT l r = bif (decide (60 < (l.length : Int)) || decide (8 < ((varsT l r).length : Int))) || l.any limN then 2 else 0 := by unfold valT; rw [h]; rfl
  refine PCB.ob Tryz.func64 Tryz.ntmps64 Tryz.results64 ?_
  repeat' (first | (simp only [go_sem, zA, zB, zC, zD, zE, zF, zG, reduceCtorEq, zH, zI, zJ, zK, zL, lB, h]; all_goals refine nf ?_) | (refine stp ?_; intro K hK) | (apply hK; clear hK K) | refine stn ?_ | (with_reducible refine ⟨_, hw, ?_⟩) | refine stq ?_ | fail)
  refine AWP.lenB 1 0 rfl rfl fun hlen0 => ?_
  (try rw [lB] at hlen0)
  refine xC (S := Unit) (l) encNode (fun k s => (4, I .i64 (k : Nat)) :: []) (fun k s => []) [1] [1] (fun k s => (l.take k).any limN = false) (()) (by refine sts ?_; exact Gh.tt []) ?_ ?_ ?_
  ·rfl
  ·intro k s x hlt hx hx' hbb hok
   refine sts ?_
   cases hp : limN x
   ·have hp2 := hp
    unfold limN at hp2
    repeat' (first | (simp only [go_sem, zA, zB, zC, zD, zE, zF, zG, reduceCtorEq, zH, zI, zJ, zK, zL, lB, hbb, hp2, encNode_lit]; all_goals refine nf ?_) | (refine stp ?_; intro K hK) | (apply hK; clear hK K) | refine stn ?_ | (with_reducible refine ⟨by omega, encNode x, hx', ?_⟩) | (clear hK K))
    all_goals (rw [wrap_succ hlt hlen0])
    all_goals (refine ⟨(), ?_, Gh.tt []⟩)
    all_goals (
     obtain ⟨hk, ex⟩ := List.getElem?_eq_some_iff.1 hx
     rw [List.take_succ_eq_append_getElem hk, List.any_append, hok, ex]; simp [hp])
   ·have hp2 := hp
    unfold limN at hp2
    have hany : l.any limN = true := List.any_eq_true.2 ⟨x, List.mem_of_getElem? hx, hp⟩
    repeat' (first | (simp only [go_sem, zA, zB, zC, zD, zE, zF, zG, reduceCtorEq, zH, zI, zJ, zK, zL, lB, hbb, hp2, encNode_lit]; all_goals refine nf ?_) | (refine stp ?_; intro K hK) | (apply hK; clear hK K) | refine stn ?_ | (with_reducible refine ⟨by omega, encNode x, hx', ?_⟩) | (clear hK K))
    all_goals (refine fin0 ?_; rw [e, hany, Bool.or_true]; rfl)
  ·intro s hbb hok
   refine sts ?_
   rw [List.take_length] at hok
   rw [hok, Bool.or_false] at e
   repeat' (first | (simp only [go_sem, zA, zB, zC, zD, zE, zF, zG, reduceCtorEq, zH, zI, zJ, zK, zL, lB, hbb]; all_goals refine nf ?_) | (refine stp ?_; intro K hK) | (apply hK; clear hK K) | refine stn ?_ | (refine AWP.cnd ?_ ?_ <;> intro h <;> (try simp only [zM, zN] at h)) | (refine ⟨fun h => ?_, fun h => ?_⟩ <;> (try simp only [zM, zN] at h) <;> try simp only [h]) | (with_reducible refine ⟨_, hv, ?_⟩) | refine stq ?_ | (clear hK K))
   all_goals (refine fin0 ?_; simp only [e, *, Bool.or_true, Bool.true_or, Bool.or_false, Bool.false_or, cond_true, cond_false])
end Go.Proofs.YthbcdhfiibpeaaaGreat
namespace Go.Proofs.YthbcdhfiibpeaaaGreat
open Go Go.Sx
theorem bound (a b : Int) (h0 : b ≠ 0) : a.tmod b < (if b < 0 then -b else b) ∧ -(if b < 0 then -b else b) < a.tmod b := by
 have h := Int.natAbs_tmod a b
 have : (a.tmod b).natAbs < b.natAbs := by
  rw [h]; exact Nat.mod_lt _ (by omega)
 split <;> omega
end Go.Proofs.YthbcdhfiibpeaaaGreat
namespace Go.Proofs.YthbcdhfiibpeaaaGreat
open Go Go.Sx
structure BdT (l : List NodeD) : Prop where
  len : l.length ≤ 2000000
  one : ∀ x ∈ l, x.kids.length ≤ 2000000 ∧ x.fields.length ≤ 2000000
def smG : Nat → List NodeD → Bool
  | _, [] => true
  | a, x :: l => bif decide ((400 : Int) < ((a + x.kids.length + x.fields.length : Nat) : Int)) then false else smG (a + x.kids.length + x.fields.length) l
def smallB (l : List NodeD) : Bool := bif decide ((80 : Int) < (l.length : Int)) then false else smG 0 l
theorem smG_ok : ∀ (l : List NodeD) (a : Nat), smG a l = true → ∀ x ∈ l, x.kids.length ≤ 400 ∧ x.fields.length ≤ 400
 | [], a, _, x, hx => by cases hx
 | y :: l, a, h, x, hx => by
  rw [smG] at h
  cases hc : decide ((400 : Int) < ((a + y.kids.length + y.fields.length : Nat) : Int)) with
  | true => rw [hc] at h; cases h
  | false =>
   rw [hc] at h
   rw [decide_eq_false_iff_not] at hc
   rcases List.mem_cons.1 hx with rfl | hx
   ·omega
   ·exact smG_ok l _ h x hx
theorem smallB_sm {l : List NodeD} (h : smallB l = true) : TSm l ∧ l.length ≤ 80 := by
 unfold smallB at h
 cases hc : decide ((80 : Int) < (l.length : Int)) with
 | true => rw [hc] at h; cases h
 | false =>
  rw [hc] at h
  rw [decide_eq_false_iff_not] at hc
  have := smG_ok l 0 h
  exact ⟨⟨by omega, fun x hx => by have := this x hx; omega, fun x hx => by have := this x hx; omega⟩, by omega⟩
theorem small_c (l : List NodeD) (r : Int) (hl : BdT l) : PC Tryz.prog 17 [Tt l r] (Bo (smallB l)) := by
 unfold smallB
 cases hc : decide ((80 : Int) < (l.length : Int))
 ·
  refine PCB.ob Tryz.func17 Tryz.ntmps17 Tryz.results17 ?_
  repeat' (first | (simp only [go_sem, zA, zB, zC, zD, zE, zF, zG, reduceCtorEq, zH, zI, zJ, zK, zL, lB, hc]; all_goals refine nf ?_) | (refine stp ?_; intro K hK) | (apply hK; clear hK K) | refine stn ?_ | fail)
  refine AWP.lenB 1 0 rfl rfl fun hlen0 => ?_
  (try rw [lB] at hlen0)
  refine xC (S := Nat) (l) encNode (fun k a => (4, I .i64 (k : Nat)) :: [(3, I .i64 (a : Int))]) (fun k s => []) [1] [1] (fun k a => smG 0 l = smG a (l.drop k) ∧ a ≤ 400) (0) (by refine sts ?_; exact Gh.tt []) ?_ ?_ ?_
  ·exact ⟨rfl, Nat.zero_le _⟩
  ·rintro k a x hlt hx hx' hb ⟨hok, ha⟩
   refine sts ?_
   have hxm := hl.one x (List.mem_of_getElem? hx)
   have hd : l.drop k = x :: l.drop (k + 1) := by
    obtain ⟨hk', e⟩ := List.getElem?_eq_some_iff.1 hx
    rw [List.drop_eq_getElem_cons hk', e]
   rw [hd, smG] at hok
   have hw1 : IntKind.i64.wrap ((a : Int) + (x.kids.length : Int)) = ((a + x.kids.length : Nat) : Int) := by rw [w64 (by omega)]; omega
   have hw2 : IntKind.i64.wrap (((a + x.kids.length : Nat) : Int) + (x.fields.length : Int)) = ((a + x.kids.length + x.fields.length : Nat) : Int) := by rw [w64 (by omega)]; omega
   cases hz : decide ((400 : Int) < ((a + x.kids.length + x.fields.length : Nat) : Int)) <;> rw [hz] at hok <;> simp only [cond_true, cond_false] at hok
   ·
    repeat' (first | (simp only [go_sem, zA, zB, zC, zD, zE, zF, zG, reduceCtorEq, zH, zI, zJ, zK, zL, lB, hb, hz, hw1, hw2, encNode_lit]; all_goals refine nf ?_) | (refine stp ?_; intro K hK) | (apply hK; clear hK K) | refine stn ?_ | (with_reducible refine ⟨(by omega : _ ≤ _), encNode x, hx', ?_⟩) | (refine stp' ?_; intro K hK) | (clear hK K))
    all_goals (rw [wrap_succ hlt hlen0])
    all_goals (refine ⟨a + x.kids.length + x.fields.length, ?_, Gh.tt []⟩)
    all_goals (rw [decide_eq_false_iff_not] at hz; exact ⟨hok, by omega⟩)
   ·
    repeat' (first | (simp only [go_sem, zA, zB, zC, zD, zE, zF, zG, reduceCtorEq, zH, zI, zJ, zK, zL, lB, hb, hz, hw1, hw2, encNode_lit]; all_goals refine nf ?_) | (refine stp ?_; intro K hK) | (apply hK; clear hK K) | refine stn ?_ | (with_reducible refine ⟨(by omega : _ ≤ _), encNode x, hx', ?_⟩) | (refine stp' ?_; intro K hK) | (clear hK K))
    all_goals (first | exact fun _ h => absurd h List.not_mem_nil | (refine fin0 ?_; rw [hok]))
  ·rintro a hb ⟨hok, ha⟩
   refine sts ?_
   rw [List.drop_length, smG] at hok
   repeat' (first | (simp only [go_sem, zA, zB, zC, zD, zE, zF, zG, reduceCtorEq, zH, zI, zJ, zK, zL, lB, hb]; all_goals refine nf ?_) | (refine stp ?_; intro K hK) | (apply hK; clear hK K) | refine stn ?_ | (clear hK K))
   all_goals (first | exact fun _ h => absurd h List.not_mem_nil | (refine fin0 ?_; rw [hok]))
 ·
  refine PCB.ob Tryz.func17 Tryz.ntmps17 Tryz.results17 ?_
  repeat' (first | (simp only [go_sem, zA, zB, zC, zD, zE, zF, zG, reduceCtorEq, zH, zI, zJ, zK, zL, lB, hc]; all_goals refine nf ?_) | (refine stp ?_; intro K hK) | (apply hK; clear hK K) | refine stn ?_ | (clear hK K))
  all_goals (first | exact fun _ h => absurd h List.not_mem_nil | (refine fin0 ?_; rfl))
theorem judged_c (l : List NodeD) (r : Int) (hl : TSm l) : PC Tryz.prog 23 [Tt l r] (Bo true) := by
 have c1 := Variables_c l r hl
 have c2 := refVariables_c l r hl
 have c3 := wellFormed_c l r hl
 have c4 := wellFormed7_s l r hl
 have c5 := Validate_c l r hl
 have c6 := refValidate7_c l r hl
 have c7 := isGround_c l r hl
 obtain ⟨vs, hvs⟩ : ∃ vs, vs = varsT l r := ⟨_, rfl⟩
 rw [← hvs] at c1 c2 c7
 obtain ⟨w, hw⟩ : ∃ w, w = wfP l r := ⟨_, rfl⟩
 rw [← hw] at c3 c4
 obtain ⟨u, hu⟩ : ∃ u, u = valT l r := ⟨_, rfl⟩
 rw [← hu] at c5 c6
 have e1 : decide (w = w) = true := by simp
 have e2 : decide (u = u) = true := by simp
 refine PCB.ob Tryz.func23 Tryz.ntmps23 Tryz.results23 ?_
 repeat' (first | (simp only [go_sem, zA, zB, zC, zD, zE, zF, zG, reduceCtorEq, zH, zI, zJ, zK, zL, lB, decide_true]; all_goals refine nf ?_) | (refine stp ?_; intro K hK) | (apply hK; clear hK K) | refine stn ?_ | (with_reducible first | refine ⟨_, c1, ?_⟩ | refine ⟨_, c2, ?_⟩) | (refine stp' ?_; intro K hK) | fail)
 refine AWP.len 3 rfl fun hlen0 => ?_
 (try rw [lB] at hlen0)
 refine xC (S := Unit) (vs) Sx.encStr (fun k s => (5, I .i64 (k : Nat)) :: []) (fun k s => []) [1, 3, 4] [1] (fun k s => Is vs vs) (()) (by refine sts ?_; exact Gh.tt []) ?_ ?_ ?_
 ·rfl
 ·intro k s y hlt hy hy' hb hok
  refine sts ?_
  have e3 : decide (y = y) = true := by simp
  repeat' (first | (simp only [go_sem, zA, zB, zC, zD, zE, zF, zG, reduceCtorEq, zH, zI, zJ, zK, zL, lB, hb, e3, encStr_lit]; all_goals refine nf ?_) | (refine stp ?_; intro K hK) | (apply hK; clear hK K) | refine stn ?_ | (with_reducible refine ⟨(by omega : _ ≤ _), Sx.encStr y, hy', ?_⟩) | (refine stp' ?_; intro K hK) | (clear hK K))
  all_goals (rw [wrap_succ hlt hlen0])
  all_goals (refine ⟨(), ?_, Gh.tt []⟩)
  all_goals rfl
 ·intro s hb hok
  refine sts ?_
  repeat' (first | (simp only [go_sem, zA, zB, zC, zD, zE, zF, zG, reduceCtorEq, zH, zI, zJ, zK, zL, lB, hb, e1, e2, beq_self_eq_true]; all_goals refine nf ?_) | (refine stp ?_; intro K hK) | (apply hK; clear hK K) | refine stn ?_ | (with_reducible first | refine ⟨_, c3, ?_⟩ | refine ⟨_, c4, ?_⟩ | refine ⟨_, c5, ?_⟩ | refine ⟨_, c6, ?_⟩ | refine ⟨_, c7, ?_⟩) | (refine stp' ?_; intro K hK) | (clear hK K))
  all_goals (first | exact fun _ h => absurd h List.not_mem_nil | (refine fin0 ?_; rfl))
theorem cells_key {n : Nat} {row : List C} (h : hasT Tryz.prog n 117 row) : ∃ k : KeyD, row = encKey k := by
 obtain ⟨m, parts, rfl, rfl, hl, hf⟩ := cells_st Tryz.underlying117 h
 match parts, hl with
 | [p0, p1], _ =>
  obtain ⟨a, rfl⟩ := cells_i64 Tryz.underlying3 (hf 0 _ p0 rfl rfl)
  obtain ⟨b, rfl⟩ := cells_text Tryz.underlying9 (hf 1 _ p1 rfl rfl)
  exact ⟨⟨a, b⟩, rfl⟩
theorem cbRs_len {α : Type} (f : α → List C) (l : List α) (h : ∀ x ∈ l, 1 ≤ cbL (f x)) : l.length ≤ cbRs (l.map f) := by
  induction l with
  | nil => simp
  | cons x l ih => have := h x (by simp); have := ih (fun y hy => h y (by simp [hy])); simp only [lE, cbRs, lC]; omega
theorem cells_two {n : Nat} {row : List C} (h : hasT Tryz.prog n 58 row) : ∃ a b : Int, row = [.int .i64 a, .int .i64 b] := by
 cases n with
 | zero => exact h.elim
 | succ n =>
  simp only [hasT, Tryz.underlying58] at h
  obtain ⟨parts, rfl, h2, h3⟩ := h
  match parts, h2 with
  | [p0, p1], _ =>
   obtain ⟨a, rfl⟩ := cells_i64 Tryz.underlying3 (h3 p0 (by simp))
   obtain ⟨b, rfl⟩ := cells_i64 Tryz.underlying3 (h3 p1 (by simp))
   exact ⟨a, b, rfl⟩
theorem cells_field {n : Nat} {row : List C} (h : hasT Tryz.prog n 119 row) : ∃ f : FieldD, row = encField f := by
 obtain ⟨m, parts, rfl, rfl, hl, hf⟩ := cells_st Tryz.underlying119 h
 match parts, hl with
 | [p0, p1, p2], _ =>
  obtain ⟨a, rfl⟩ := cells_key (hf 0 _ p0 rfl rfl)
  obtain ⟨b, rfl⟩ := cells_i64 Tryz.underlying3 (hf 1 _ p1 rfl rfl)
  obtain ⟨c, rfl⟩ := cells_bool Tryz.underlying4 (hf 2 _ p2 rfl rfl)
  exact ⟨⟨a, b, c⟩, rfl⟩
theorem cells_node {n : Nat} {row : List C} (h : hasT Tryz.prog n 60 row) : ∃ x : NodeD, row = encNode x := by
 obtain ⟨m, parts, rfl, rfl, hl, hf⟩ := cells_st Tryz.underlying60 h
 match parts, hl with
 | [p0, p1, p2, p3, p4, p5, p6], _ =>
  obtain ⟨a0, rfl⟩ := cells_i64 Tryz.underlying3 (hf 0 _ p0 rfl rfl)
  obtain ⟨a1, rfl⟩ := cells_i64 Tryz.underlying2 (hf 1 _ p1 rfl rfl)
  obtain ⟨a2, rfl⟩ := cells_i64 Tryz.underlying2 (hf 2 _ p2 rfl rfl)
  obtain ⟨a3, rfl⟩ := cells_text Tryz.underlying9 (hf 3 _ p3 rfl rfl)
  obtain ⟨a4, rfl⟩ := cells_row (enc := encInt) (sz := 1) Tryz.underlying22 (by kernel_rfl) (fun r hr => cells_i64 Tryz.underlying3 hr) (hf 4 _ p4 rfl rfl)
  obtain ⟨a5, rfl⟩ := cells_row (enc := encField) (sz := 4) Tryz.underlying57 (by kernel_rfl) (fun r hr => cells_field hr) (hf 5 _ p5 rfl rfl)
  obtain ⟨a6, a7, rfl⟩ := cells_two (hf 6 _ p6 rfl rfl)
  exact ⟨⟨a0, a1, a2, a3, a4, a5, a6, a7⟩, rfl⟩
theorem cells_ty {n : Nat} {row : List C} (h : hasT Tryz.prog n 26 row) : ∃ (l : List NodeD) (r : Int), row = [.sl 8 (l.map encNode), .int .i64 r] := by
 obtain ⟨m, parts, rfl, rfl, hl, hf⟩ := cells_st Tryz.underlying26 h
 match parts, hl with
 | [p0, p1], _ =>
  obtain ⟨a0, rfl⟩ := cells_row (enc := encNode) (sz := 8) Tryz.underlying24 (by kernel_rfl) (fun r hr => cells_node hr) (hf 0 _ p0 rfl rfl)
  obtain ⟨a1, rfl⟩ := cells_i64 Tryz.underlying3 (hf 1 _ p1 rfl rfl)
  exact ⟨a0, a1, rfl⟩
theorem cb_node (x : NodeD) : 1 + x.kids.length + x.fields.length ≤ cbL (encNode x) := by
  have h1 := cbRs_len encInt x.kids (fun k _ => by simp only [encInt, cbL, cbC]; omega)
  have h2 := cbRs_len encField x.fields (fun k _ => by simp only [encField, cbL, cbC]; omega)
  rw [encNode_lit]
  simp only [cbL, cbC]; omega
theorem cb_nodes : ∀ l : List NodeD, ∀ x ∈ l, cbL (encNode x) ≤ cbRs (l.map encNode)
 | [], x, h => by cases h
 | y :: l, x, h => by
  simp only [lE, cbRs]
  rcases List.mem_cons.1 h with rfl | h
  ·omega
  ·have := cb_nodes l x h; omega
theorem bdT_of {l : List NodeD} {r : Int} (h : cbL [.sl 8 (l.map encNode), .int .i64 r] ≤ 1048576) : BdT l := by
  have h1 := cbRs_len encNode l (fun x _ => by have := cb_node x; omega)
  have h0 : cbRs (l.map encNode) ≤ cbL [.sl 8 (l.map encNode), .int .i64 r] := by simp only [cbL, cbC]; omega
  refine ⟨by omega, fun x hx => ?_⟩
  have h2 := cb_nodes l x hx
  have h3 := cb_node x
  omega
end Go.Proofs.YthbcdhfiibpeaaaGreat

