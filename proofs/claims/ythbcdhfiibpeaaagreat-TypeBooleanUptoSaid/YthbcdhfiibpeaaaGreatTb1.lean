/- Lemmas of the proof. -/
import Derived.Test.YthbcdhfiibpeaaaGreatTy48
open Go.Proofs.Tryz renaming prog → zP
open List renaming length_map → lB, map_cons → lE
open Nat renaming reduceBEq → zA, reduceBNe → zB, reduceAdd → zC, reduceSub → zD, reduceMul → zE, reduceLeDiff → zF, reduceLT → zG, reduceEqDiff → zH
open Int renaming reduceToNat → zI, reduceLE → zJ, reduceLT → zK, reduceEq → zL
open Bool renaming not_eq_true' → zM, not_eq_false' → zN
set_option linter.unusedSimpArgs false
set_option linter.unusedVariables false
set_option maxRecDepth 20000
set_option maxHeartbeats 64000000
namespace Go.Sx
variable {P : Program}
theorem cells_bool {n : Nat} {t : TypeId} {row : List C} (hu : P.underlying t = some .bool) (h : hasT P n t row) : ∃ b, row = [.bool b] := by
  cases n with
  | zero => exact h.elim
  | succ n => simpa only [hasT, hu] using h
theorem cells_str {n : Nat} {t : TypeId} {row : List C} (hu : P.underlying t = some .string) (h : hasT P n t row) : ∃ s : List UInt8, row = [.str s] ∧ s.length ≤ maxLen := by
  cases n with
  | zero => exact h.elim
  | succ n => simpa only [hasT, hu] using h
end Go.Sx
namespace Go.Sx
open Go.RowKit Go.ChangeShapes Go.WideShapes
variable {P : Program}
mutual
def cbC : C → Nat
  | .str s => s.length + 1
  | .sl _ rows => cbRs rows + 1
  | _ => 1
def cbRs : List (List C) → Nat
  | [] => 0
  | r :: l => cbL r + cbRs l
def cbL : List C → Nat
  | [] => 0
  | c :: l => cbC c + cbL l
end
theorem cbL_append : ∀ a b : List C, cbL (a ++ b) = cbL a + cbL b
  | [], b => by simp [cbL]
  | c :: a, b => by simp only [List.cons_append, cbL, cbL_append a b]; omega
structure Blk {H : Type} (β : DataW H → Nat) : Prop where
  lit : ∀ l, 1 ≤ β (.lit l)
  str : ∀ l, l.length + 1 ≤ β (.lit (.string l))
  nil : 1 ≤ β .nil
  sl : ∀ a b, (a.map β).sum + 1 ≤ β (.slice a b)
  agg : ∀ a, (a.map β).sum ≤ β (.agg a)
def argsOkB (P : Program) (B : Nat) : List TypeId → List T → Prop
  | [], us => us = []
  | t :: ts, us => ∃ n row us', us = argT P t row :: us' ∧ hasT P n t row ∧ cbL row ≤ B ∧ argsOkB P B ts us'
theorem rows_ofB (M : Mem0) (k : Nat) (p : List C → Prop) : ∀ (ws : List Nat) (l : List Value), ws.length * k ≤ l.length → (∀ i, i < ws.length → ∃ r, (p r ∧ cbL r ≤ ws.getD i 0) ∧ repRow M r ((l.drop (i * k)).take k) ∧ r.length = k) →
  ∃ rows : List (List C), rows.length = ws.length ∧ ((∀ x ∈ rows, p x) ∧ cbRs rows ≤ ws.sum) ∧ repRows M k rows (l.take (ws.length * k))
 | [], l, _, _ => ⟨[], rfl, by simp [cbRs], by simp [repRows]⟩
 | wt :: ws, l, hl, h => by
  simp only [List.length_cons] at hl ⊢
  have hlen : (wt :: ws).length = ws.length + 1 := rfl
  generalize hle : ws.length = len at *
  obtain ⟨r, ⟨h1, hw1⟩, h2, h3⟩ := h 0 (by omega)
  have hk : (len + 1) * k = k + len * k := by rw [Nat.add_mul, Nat.one_mul, Nat.add_comm]
  obtain ⟨rows, g1, ⟨g2, gw⟩, g3⟩ := rows_ofB M k p ws (l.drop k) (by rw [hle]; simp; omega) (fun i hi => by
   obtain ⟨r, a, b, c⟩ := h (i + 1) (by omega)
   refine ⟨r, by simpa using a, ?_, c⟩
   rw [List.drop_drop, show k + i * k = (i + 1) * k by rw [Nat.add_mul, Nat.one_mul, Nat.add_comm]]
   exact b)
  rw [hle] at g1 g3
  refine ⟨r :: rows, by simp [g1], ⟨?_, ?_⟩, ?_⟩
  ·intro x hx
   rcases List.mem_cons.1 hx with rfl | hx
   ·exact h1
   ·exact g2 x hx
  ·simp at hw1; simp only [cbRs, List.sum_cons]; omega
  ·simp only [repRows]
   refine ⟨l.take k, (l.drop k).take (len * k), ?_, h3, by simpa using h2, g3⟩
   rw [hk, List.take_add]
section
variable {H : Type} {enc : TypeId × Value → H} {w : World} {base : Nat} {spare : Nat → Bool} {held : Bool} {β : DataW H → Nat}
theorem open_fieldsB {L : List TypeId} {n : Nat} (ih : ∀ t cs x, t ∈ L → DataW.trod enc P w base spare held n t cs = some x → ∃ r, (hasT P n t r ∧ cbL r ≤ β x.1) ∧ repRow (fun b => w.heap[b]?) r cs ∧ r.length = P.cellsOf t) :
  ∀ (fs : List Field) (xs : List (DataW H × List MemPlace)) (off tot : Nat) (cs : List Value), xs.length = fs.length → tiles P L off fs tot = true → cs.length = tot → off ≤ tot →
   (∀ (i : Nat) (f : Field), fs[i]? = some f → DataW.trod enc P w base spare held n f.type ((cs.drop f.offset).take (P.cellsOf f.type)) = xs[i]?) →
   ∃ parts : List (List C), parts.length = fs.length ∧ ((∀ (i : Nat) (f : Field) (p : List C), fs[i]? = some f → parts[i]? = some p → hasT P n f.type p) ∧ cbL parts.flatten ≤ (xs.map (fun x => β x.1)).sum) ∧ repRow (fun b => w.heap[b]?) parts.flatten (cs.drop off) ∧ parts.flatten.length = tot - off
 | [], xs, off, tot, cs, hx0, ht, hl, hle, h => by
  simp only [tiles, beq_iff_eq] at ht
  subst ht
  refine ⟨[], rfl, by simp [cbL], ?_, by simp⟩
  rw [List.drop_eq_nil_of_le (by omega)]
  simp [repRow]
 | f :: fs, [], off, tot, cs, hx0, ht, hl, hle, h => by simp at hx0
 | f :: fs, x :: xs, off, tot, cs, hx0, ht, hl, hle, h => by
  simp only [tiles, Bool.and_eq_true, beq_iff_eq] at ht
  obtain ⟨⟨h1, h2⟩, h3⟩ := ht
  have hx := h 0 f rfl
  simp only [List.getElem?_cons_zero] at hx
  obtain ⟨r, ⟨a, aw⟩, b, c⟩ := ih f.type _ x (by simpa using h2) hx
  have hlen := repRow_length b
  rw [List.length_take, List.length_drop, c, h1] at hlen
  have hle2 : off + P.cellsOf f.type ≤ tot := by omega
  obtain ⟨parts, g1, ⟨g2, gw⟩, g3, g4⟩ := open_fieldsB ih fs xs (off + P.cellsOf f.type) tot cs (by simpa using hx0) h3 hl hle2 (fun i f' hf => by simpa using h (i + 1) f' (by simpa using hf))
  refine ⟨r :: parts, by simp [g1], ⟨?_, by simp only [List.flatten_cons, cbL_append, lE, List.sum_cons]; omega⟩, ?_, by simp only [List.flatten_cons, List.length_append, g4, c]; omega⟩
  ·intro i f' p hf hp
   cases i with
   | zero => simp at hf hp; subst hf; subst hp; exact a
   | succ i => exact g2 i f' p (by simpa using hf) (by simpa using hp)
  ·simp only [List.flatten_cons]
   have : cs.drop off = (cs.drop off).take (P.cellsOf f.type) ++ cs.drop (off + P.cellsOf f.type) := by
    rw [← List.drop_drop, List.take_append_drop]
   rw [this]
   rw [h1] at b
   exact repRow_append b g3
theorem open_elemsB {L : List TypeId} {n e : Nat} (he : e ∈ L) (ih : ∀ t cs x, t ∈ L → DataW.trod enc P w base spare held n t cs = some x → ∃ r, (hasT P n t r ∧ cbL r ≤ β x.1) ∧ repRow (fun b => w.heap[b]?) r cs ∧ r.length = P.cellsOf t) :
  ∀ (k : Nat) (xs : List (DataW H × List MemPlace)) (cs : List Value), xs.length = k → cs.length = k * P.cellsOf e →
   (∀ i, i < k → DataW.trod enc P w base spare held n e ((cs.drop (i * P.cellsOf e)).take (P.cellsOf e)) = xs[i]?) →
   ∃ parts : List (List C), parts.length = k ∧ ((∀ x ∈ parts, hasT P n e x) ∧ cbL parts.flatten ≤ (xs.map (fun x => β x.1)).sum) ∧ repRow (fun b => w.heap[b]?) parts.flatten cs ∧ parts.flatten.length = k * P.cellsOf e
 | 0, xs, cs, hx0, hl, h => ⟨[], rfl, by simp [cbL], by
   have : cs = [] := List.length_eq_zero_iff.1 (by simpa using hl)
   subst this; simp [repRow], by simp⟩
 | k + 1, [], cs, hx0, hl, h => by simp at hx0
 | k + 1, x :: xs, cs, hx0, hl, h => by
  have hk : (k + 1) * P.cellsOf e = P.cellsOf e + k * P.cellsOf e := by rw [Nat.add_mul, Nat.one_mul, Nat.add_comm]
  have hx := h 0 (by omega)
  simp only [List.getElem?_cons_zero] at hx
  obtain ⟨r, ⟨a, aw⟩, b, c⟩ := ih e _ x he hx
  obtain ⟨parts, g1, ⟨g2, gw⟩, g3, g4⟩ := open_elemsB he ih k xs (cs.drop (P.cellsOf e)) (by simpa using hx0) (by simp; omega) (fun i hi => by
   have hx := h (i + 1) (by omega)
   simp only [List.getElem?_cons_succ] at hx
   rw [List.drop_drop, show P.cellsOf e + i * P.cellsOf e = (i + 1) * P.cellsOf e by rw [Nat.add_mul, Nat.one_mul, Nat.add_comm]]
   exact hx)
  refine ⟨r :: parts, by simp [g1], ⟨?_, by simp only [List.flatten_cons, cbL_append, lE, List.sum_cons]; omega⟩, ?_, by simp only [List.flatten_cons, List.length_append, g4, c]; omega⟩
  ·intro x hx
   rcases List.mem_cons.1 hx with rfl | hx
   ·exact a
   ·exact g2 x hx
  ·simp only [List.flatten_cons]
   rw [show cs = cs.take (P.cellsOf e) ++ cs.drop (P.cellsOf e) from (List.take_append_drop ..).symm]
   refine repRow_append (by simpa using b) ?_
   simpa using g3
theorem open_cellsB (hβ : Blk β) {L : List TypeId} (hok : okAll P L = true) : ∀ (fuel : Nat) (t : TypeId) (cs : List Value) (x : DataW H × List MemPlace), t ∈ L → DataW.trod enc P w base spare held fuel t cs = some x →
  ∃ r, (hasT P fuel t r ∧ cbL r ≤ β x.1) ∧ repRow (fun b => w.heap[b]?) r cs ∧ r.length = P.cellsOf t
 | 0, t, cs, x, _, h => by simp [DataW.trod] at h
 | n + 1, t, cs, x, ht, h => by
  have ho : okAt P L t = true := List.all_eq_true.1 hok t ht
  have ih := fun t cs x h1 h2 => open_cellsB hβ hok n t cs x h1 h2
  unfold okAt at ho
  unfold hasT
  split at ho
  ·rename_i k hu
   obtain ⟨m, rfl, rfl, hw⟩ := DataW.trod_int hu h
   try simp only [hu]
   exact ⟨_, ⟨⟨m, rfl, hw⟩, by have := hβ.lit (.int k m); simp only [cbL, cbC]; omega⟩, by simp [repRow, C.rep], by simpa using (beq_iff_eq.1 ho).symm⟩
  ·rename_i hu
   obtain ⟨b, rfl, rfl⟩ := DataW.trod_bool hu h
   try simp only [hu]
   exact ⟨_, ⟨⟨b, rfl⟩, by have := hβ.lit (.bool b); simp only [cbL, cbC]; omega⟩, by simp [repRow, C.rep], by simpa using (beq_iff_eq.1 ho).symm⟩
  ·rename_i hu
   obtain ⟨s, rfl, rfl, hs⟩ := DataW.trod_string hu h
   try simp only [hu]
   exact ⟨_, ⟨⟨s.data.toList, rfl, by simpa using hs⟩, by have := hβ.str s.data.toList; simp only [cbL, cbC]; omega⟩, by simp [repRow, C.rep], by simpa using (beq_iff_eq.1 ho).symm⟩
  ·rename_i e hu
   try simp only [hu]
   simp only [Bool.and_eq_true, beq_iff_eq] at ho
   obtain ⟨h1, h2, h3⟩ := ho
   have he : e ∈ L := by simpa using h2
   have hpos : 0 < P.cellsOf e := by simpa using h3
   rcases DataW.trod_slice hu h with ⟨rfl, rfl⟩ | ⟨a, len, cap, elems, rest, m, hm, rfl, rfl, hb, hlc, hcm, hel, hat, _, _⟩
   ·refine ⟨_, ⟨⟨[], rfl, by simp, by simp⟩, by have := hβ.nil; simp only [cbL, cbC, cbRs]; omega⟩, ?_, by simp [h1]⟩
    simp only [repRow, C.rep]
    exact ⟨_, [], rfl, ⟨none, 0, [], rfl, by simp, by simp, by simp [repRows], .inl trivial⟩, rfl⟩
   ·cases hm
    by_cases h0 : len = 0
    ·subst h0
     refine ⟨_, ⟨⟨[], rfl, by simp, by simp⟩, by have := hβ.sl (elems.map (·.1)) (rest.map (·.1)); simp only [cbL, cbC, cbRs]; omega⟩, ?_, by simp [h1]⟩
     simp only [repRow, C.rep]
     exact ⟨_, [], rfl, ⟨some a, cap, [], rfl, by simp, hcm, by simp [repRows], .inl trivial⟩, rfl⟩
    ·have get : ∀ i, i < len → ∃ ci x, w.cells? base (a.add (i * P.cellsOf e)) (P.cellsOf e) = some ci ∧ DataW.trod enc P w base spare held n e ci = some x ∧ elems[i]? = some x := by
      intro i hi
      have := hat i hi
      rw [List.getElem?_eq_getElem (by omega)] at this
      obtain ⟨ci, e1, e2⟩ := Option.bind_eq_some_iff.1 this
      exact ⟨ci, _, e1, e2, List.getElem?_eq_getElem (by omega)⟩
     obtain ⟨c0, x0, e0, _, _⟩ := get 0 (by omega)
     obtain ⟨l0, f0⟩ := cells?_spec e0
     have ha0 : a.add (0 * P.cellsOf e) = a := by simp [Addr.add]
     rw [ha0] at f0
     have hv0 := f0 0 hpos
     have haa : a.add 0 = a := by simp [Addr.add]
     rw [haa, List.getElem?_eq_getElem (by omega)] at hv0
     obtain ⟨hspot, c, et, fz, hheap, hc0⟩ := cell?_some hv0
     obtain ⟨ab, ao, asp⟩ := a
     simp only at hspot hheap hc0
     subst hspot
     have cellat : ∀ i ci, i < len → w.cells? base (Addr.add ⟨ab, ao, none⟩ (i * P.cellsOf e)) (P.cellsOf e) = some ci → ci = (c.toList.drop (ao + i * P.cellsOf e)).take (P.cellsOf e) := by
      intro i ci hi hci
      obtain ⟨l1, f1⟩ := cells?_spec hci
      apply List.ext_getElem?
      intro j
      by_cases hj : j < P.cellsOf e
      ·rw [← f1 j hj]
       have : (Addr.add (Addr.add ⟨ab, ao, none⟩ (i * P.cellsOf e)) j) = ⟨ab, ao + i * P.cellsOf e + j, none⟩ := by
        simp only [Addr.add]
        split <;> split <;> simp_all
       rw [this]
       simp only [World.cell?, hheap]
       rw [List.getElem?_take, if_pos hj, List.getElem?_drop]
       simp
      ·rw [List.getElem?_eq_none (by omega), List.getElem?_eq_none (by simp; omega)]
     have hsz : ao + len * P.cellsOf e ≤ c.toList.length := by
      obtain ⟨ci, x, e1, e2, _⟩ := get (len - 1) (by omega)
      have := cellat _ _ (by omega) e1
      have h3 := (cells?_spec e1).1
      rw [this] at h3
      simp only [List.length_take, List.length_drop] at h3
      have : len * P.cellsOf e = (len - 1) * P.cellsOf e + P.cellsOf e := by
       obtain ⟨q, rfl⟩ : ∃ q, len = q + 1 := ⟨len - 1, by omega⟩
       simp [Nat.add_mul]
      omega
     have hwl : (elems.map (fun x => β x.1)).length = len := by simp; omega
     obtain ⟨rows, g1, ⟨g2, gw⟩, g3⟩ := rows_ofB (fun b => w.heap[b]?) (P.cellsOf e) (hasT P n e) (elems.map (fun x => β x.1)) (c.toList.drop ao) (by rw [hwl]; simp only [List.length_drop]; omega) (fun i hi => by
      rw [hwl] at hi
      obtain ⟨ci, x, e1, e2, e3⟩ := get i hi
      obtain ⟨r, ⟨q1, qw⟩, q2, q3⟩ := ih e ci x he e2
      rw [cellat i ci hi e1, ← List.drop_drop] at q2
      exact ⟨r, ⟨q1, by rw [List.getD_eq_getElem?_getD, List.getElem?_map, e3]; exact qw⟩, q2, q3⟩)
     rw [hwl] at g1 g3
     refine ⟨_, ⟨⟨rows, rfl, by omega, g2⟩, by have := hβ.sl (elems.map (·.1)) (rest.map (·.1)); simp only [List.map_map] at this; exact Nat.le_trans (Nat.succ_le_succ gw) this⟩, ?_, by simp [h1]⟩
     simp only [repRow, C.rep]
     refine ⟨_, [], rfl, ⟨some ⟨ab, ao, none⟩, cap, _, by rw [g1], by omega, hcm, g3, .inr ⟨ab, ao, rfl, c, et, fz, c.toList.take ao, (c.toList.drop ao).drop (len * P.cellsOf e), hheap, ?_, ?_⟩⟩, rfl⟩
     ·rw [List.take_append_drop, List.take_append_drop]
     ·rw [List.length_take]; omega
  ·rename_i fs hu
   try simp only [hu]
   obtain ⟨xs, m, hm, rfl, hl, hxl, hf⟩ := DataW.trod_struct hu h
   cases hm
   obtain ⟨parts, g1, ⟨g2, gw⟩, g3, g4⟩ := open_fieldsB (P := P) (L := L) (n := n) (β := β) ih fs.toList xs 0 (P.cellsOf t) cs (by simpa using hxl) ho hl (by omega) (fun i f hif => by
    have h1 : fs[i]? = some f := by simpa using hif
    exact hf i f h1)
   exact ⟨_, ⟨⟨parts, rfl, by simpa using g1, fun i f p h1 h2 => g2 i f p (by simpa using h1) h2⟩, by have := hβ.agg (xs.map (·.1)); simp only [List.map_map] at this; exact Nat.le_trans gw this⟩, by simpa using g3, by simpa using g4⟩
  ·rename_i k e hu
   try simp only [hu]
   simp only [Bool.and_eq_true, beq_iff_eq] at ho
   obtain ⟨xs, m, hm, rfl, hl, hxl, hf⟩ := DataW.trod_array hu h
   cases hm
   obtain ⟨parts, g1, ⟨g2, gw⟩, g3, g4⟩ := open_elemsB (P := P) (L := L) (n := n) (e := e) (β := β) (by simpa using ho.2) ih k xs cs hxl (by rw [hl, ho.1]) (fun i hi => hf i hi)
   exact ⟨_, ⟨⟨parts, rfl, g1, g2⟩, by have := hβ.agg (xs.map (·.1)); simp only [List.map_map] at this; exact Nat.le_trans gw this⟩, g3, by rw [g4, ho.1]⟩
  ·cases ho
theorem open_argB (hβ : Blk β) {L : List TypeId} (hok : okAll P L = true) {r : Reach} {b0 : Nat} {t : TypeId} {v : Value} {d : DataW H} {ps : List MemPlace} (ht : t ∈ L) (hval : Value.okWide P w r b0 t v) (hd : DataW.Trod enc P w base spare held t v d ps) :
  ∃ n row, (hasT P n t row ∧ cbL row ≤ β d) ∧ ∀ ν, (argT P t row).rep (fun b => w.heap[b]?) ν v := by
 obtain ⟨fuel, hf⟩ := hd
 obtain ⟨row, h1, h2, h3⟩ := open_cellsB hβ hok fuel t _ _ ht hf
 refine ⟨fuel, row, h1, fun ν => ?_⟩
 have ho : okAt P L t = true := List.all_eq_true.1 hok t ht
 unfold Value.okWide at hval
 unfold argT aggT
 unfold okAt at ho
 have one : P.cellsOf t = 1 → (∀ cs, v = .agg cs → False) → (match row with
   | [c] => T.one (.dat c)
   | _ => .un).rep (fun b => w.heap[b]?) ν v := by
  intro h hna
  have hv : v.cells.toList = [v] := by
   cases v <;> first | rfl | exact (hna _ rfl).elim
  rw [hv] at h2
  match row, h3, h2 with
  | [c], _, h2 =>
   simp only [repRow] at h2
   obtain ⟨v', vs', e, h5, h6⟩ := h2
   cases e
   simpa only [T.rep, Cell.rep] using h5
  | [], h3, _ => simp at h3; omega
  | _ :: _ :: _, h3, _ => simp at h3; omega
 split at ho
 ·rename_i k hu
  simp only [hu] at hval ⊢
  exact one (beq_iff_eq.1 ho) (fun cs e => by subst e; simp [Cell.okWide, hu, Cell.ok] at hval)
 ·rename_i hu
  simp only [hu] at hval ⊢
  exact one (beq_iff_eq.1 ho) (fun cs e => by subst e; simp [Cell.okWide, hu, Cell.ok] at hval)
 ·rename_i hu
  simp only [hu] at hval ⊢
  exact one (beq_iff_eq.1 ho) (fun cs e => by subst e; simp [Cell.okWide, hu, Cell.ok] at hval)
 ·rename_i e hu
  simp only [hu] at hval ⊢
  simp only [Bool.and_eq_true, beq_iff_eq] at ho
  exact one ho.1 (fun cs e => by subst e; simp [Cell.okWide, hu, Cell.ok] at hval)
 ·rename_i fs hu
  simp only [hu] at hval ⊢
  obtain ⟨cs, rfl, _, _⟩ := hval
  simp only [Option.map_some, isAggD, Option.getD_some, cond_true, T.rep]
  exact ⟨cs, rfl, h2⟩
 ·rename_i k e hu
  simp only [hu] at hval ⊢
  obtain ⟨cs, rfl, _, _⟩ := hval
  simp only [Option.map_some, isAggD, Option.getD_some, cond_true, T.rep]
  exact ⟨cs, rfl, h2⟩
 ·cases ho
theorem open_allB (hβ : Blk β) {B : Nat} {L : List TypeId} (hok : okAll P L = true) {r : Reach} {b0 : Nat} : ∀ {ts : List TypeId} {vs : List Value} {ds : List (DataW H)} {ps : List MemPlace}, (∀ t ∈ ts, t ∈ L) → DataW.TrodAll enc P w base spare held ts vs ds ps →
  (∀ (j : Nat) t v, ts[j]? = some t → vs[j]? = some v → Value.okWide P w r b0 t v) → (ds.map β).sum ≤ B → ∃ us, argsOkB P B ts us ∧ ∀ ν, T.reps (fun b => w.heap[b]?) ν us vs
 | [], vs, ds, ps, _, h, _, _ => by
  cases vs <;> cases ds <;> simp [DataW.TrodAll] at h
  exact ⟨[], rfl, fun ν => by simp [T.reps]⟩
 | t :: ts, vs, ds, ps, hts, h, hval, hB => by
  obtain ⟨v, vs', d, ds', p, q, rfl, rfl, rfl, h1, h2⟩ := trodAll_cons h
  simp only [lE, List.sum_cons] at hB
  obtain ⟨n, row, ⟨h3, h3w⟩, h4⟩ := open_argB hβ hok (hts t (by simp)) (hval 0 t v rfl rfl) h1
  obtain ⟨us, h5, h6⟩ := open_allB hβ (B := B) hok (fun t ht => hts t (List.mem_cons_of_mem _ ht)) h2 (fun j t v hj hv => hval (j + 1) t v (by simpa using hj) (by simpa using hv)) (by omega)
  refine ⟨argT P t row :: us, ⟨n, row, us, rfl, h3, by omega, h5⟩, fun ν => ?_⟩
  simp only [T.reps]
  exact ⟨v, vs', rfl, h4 ν, h6 ν⟩
end
theorem law_postB {H : Type} {β : DataW H → Nat} (hβ : Blk β) {B : Nat} {enc : TypeId × Value → H} {C : Checked} {F : FuncId} {fn : Func} {s : ChangeSpec} {L : List TypeId} {tb : TypeId} {apart fresh handsOn again : Bool}
  (hlaid : laidOutB C.prog = true) (hok : okAll C.prog L = true) (hts : fn.params.toList.all (fun t => L.contains t && C.prog.readableRec t && decide (t < C.prog.types.size)) = true)
  (hvars : s.vars = []) (hres : fn.resultTypes = #[tb]) (hbool : C.prog.underlying tb = some .bool)
  (hspec : ∀ (ds : List (DataW H)), ds.length = fn.params.toList.length → s.fn H ds = { results := [.lit (.bool true)], args := ds })
  (hwalk : ∀ us, argsOkB C.prog B fn.params.toList us → PC C.prog F us (Bo true))
  (W : World) (hg : GlobOk (fun b => W.heap[b]?)) (base : Nat) (args : Array Value) (ds gs : List (DataW H)) (before : List MemPlace)
  (hval : ∀ (j : Nat) t v, fn.params[j]? = some t → args[j]? = some v → Value.okWide C.prog W .any base t v)
  (hW : DataW.Whole enc C.prog fn.params.toList s.vars apart W args.toList ds gs before) (hB : (ds.map β).sum ≤ B) :
  Calls C.prog F args W fun e W' => ∃ v, e = .returned v ∧ s.post enc C.prog fn apart fresh handsOn again W args v W' := by
 have hW' := hW
 obtain ⟨p, q, hA, hV, rfl, hfz, hnd⟩ := hW
 have hgs : gs = [] ∧ q = [] := by
  rw [hvars] at hV
  cases gs <;> simp [DataW.TrodVars] at hV
  exact ⟨rfl, hV⟩
 obtain ⟨rfl, rfl⟩ := hgs
 have hin : ∀ t ∈ fn.params.toList, t ∈ L ∧ C.prog.readableRec t = true ∧ t < C.prog.types.size := fun t ht => by
  have := List.all_eq_true.1 hts t ht
  simp only [Bool.and_eq_true, decide_eq_true_eq] at this
  exact ⟨by simpa using this.1.1, this.1.2, this.2⟩
 obtain ⟨us, hus, hreps⟩ := open_allB hβ hok (fun t ht => (hin t ht).1) hA (fun j t v hj hv => hval j t v (by simpa using hj) (by simpa using hv)) hB
 have hlen : ds.length = fn.params.toList.length := by
  have : ∀ {ts : List TypeId} {vs : List Value} {ds : List (DataW H)} {ps : List MemPlace}, DataW.TrodAll enc C.prog W 0 (fun _ => true) true ts vs ds ps → ds.length = ts.length := by
   intro ts
   induction ts with
   | nil => intro vs ds ps h; cases vs <;> cases ds <;> simp [DataW.TrodAll] at h; rfl
   | cons t ts ih =>
    intro vs ds ps h
    obtain ⟨v, vs', d, ds', p, q, rfl, rfl, rfl, h1, h2⟩ := trodAll_cons h
    simp [ih h2]
  exact this hA
 have hs : s.fn H (ds ++ []) = { results := [.lit (.bool true)], args := ds } := by rw [List.append_nil]; exact hspec ds hlen
 have hcall := PC.calls (hwalk us hus) W hg args.toList (hreps _)
 refine Calls.mono hcall fun e W' ⟨he, hos, hout, hu⟩ => ?_
 subst he
 have hlt : ∀ x ∈ p, x.block < W.heap.size := fun x hx => hW'.lt x (by simpa using hx)
 refine ⟨_, rfl, post_of_old (pa := p) (pv := []) hW' ?_ ?_ ?_ rfl (keptBut_same _ hos hout hu) (fun a ha => by simp only [World.frozen?, hu a.block ha]) (ok_one hres rfl (okWide_bool_mk hbool _))⟩
 ·intro b sp hd
  rw [hs, hres]
  exact trodAll_cons_mk (shut_bool hbool _) trodAll_mk0
 ·intro sp hsp
  rw [hs]
  refine trodAll_stays hlaid (fun t ht => (hin t ht).2) hA (fun x hx => ?_) (fun x hx => hsp x (by simpa using hx))
  have h1 := hu x.block (hlt x hx)
  cases x with
  | cell b off => simp only [MemPlace.block] at h1; simp only [World.sameAt, World.cell?, h1]
  | map b => simp only [MemPlace.block] at h1; simp only [World.sameAt, h1]
 ·intro sp hsp
  rw [hs, hvars]
  simp [DataW.TrodVars]
theorem cells_st {n : Nat} {t : TypeId} {row : List C} {fs : Array Field} (hu : P.underlying t = some (.struct fs)) (h : hasT P n t row) :
  ∃ (m : Nat) (parts : List (List C)), n = m + 1 ∧ row = parts.flatten ∧ parts.length = fs.size ∧ ∀ (i : Nat) (f : Field) (p : List C), fs[i]? = some f → parts[i]? = some p → hasT P m f.type p := by
 cases n with
 | zero => exact h.elim
 | succ n =>
  simp only [hasT, hu] at h
  obtain ⟨parts, h1, h2, h3⟩ := h
  exact ⟨n, parts, rfl, h1, h2, h3⟩
theorem cells_i64 {n : Nat} {t : TypeId} {row : List C} (hu : P.underlying t = some (.int .i64)) (h : hasT P n t row) : ∃ m, row = [.int .i64 m] := by
  obtain ⟨m, e, _⟩ := cells_int hu h
  exact ⟨m, e⟩
theorem cells_text {n : Nat} {t : TypeId} {row : List C} (hu : P.underlying t = some .string) (h : hasT P n t row) : ∃ s : List UInt8, row = [.str s] := by
  obtain ⟨m, e, _⟩ := cells_str hu h
  exact ⟨m, e⟩
theorem cells_row {α : Type} {enc : α → List C} {n : Nat} {t e : TypeId} {row : List C} {sz : Nat} (hu : P.underlying t = some (.slice e)) (hsz : P.cellsOf e = sz) (f : ∀ row, hasT P (n - 1) e row → ∃ a, row = enc a) (h : hasT P n t row) :
  ∃ l : List α, row = [.sl sz (l.map enc)] := by
 obtain ⟨l, e1, _⟩ := cells_sl (p := fun _ => True) hu hsz (fun row h => by obtain ⟨a, e⟩ := f row h; exact ⟨a, e, trivial⟩) h
 exact ⟨l, e1⟩
theorem arg_st {n : Nat} {t : TypeId} {row : List C} (ha : aggT P t = some true) : argT P t row = .st row := by simp only [argT, ha]; rfl
end Go.Sx
namespace Go.Proofs.YthbcdhfiibpeaaaGreat
open Go Go.Sx
def anyTy : TyD := ([kindN 2], 0)
def interT (ts : List TyD) : TyD := bif decide ((ts.length : Int) = 0) then anyTy else overTy 17 ts
def notT (t : TyD) : TyD := overTy 18 [t]
def diffT (s t : TyD) : TyD := interT [s, notT t]
theorem any_c : PC zP 57 [] (Yp anyTy) := by
  refine PCB.of_body Tryz.func57 rfl (by decide) Tryz.ntmps57 Tryz.results57 rfl rfl rfl ?_ rfl rfl
  repeat' (first | (simp only [go_sem, zA, zB, zC, zD, zE, zF, zG, reduceCtorEq, zH, zI, zJ, zK, zL]; all_goals fail_if_success guard_target =ₛ False) | (with_reducible first | ((first | refine seqVC_stepN rfl ?_ | refine AWP.seq ?_ | refine AWP.seqR (by kernel_rfl) ?_); intro K hK) | (apply hK; clear hK K) | refine AWP.block ?_ | (refine AWP.cond (by with_unfolding_all rfl) ?_ ?_ <;> intro h <;> (try simp only [zM, zN] at h) <;> try exact absurd h (by decide)) | refine AWP.skip ?_ | refine AWP.ret ?_ | refine AWP.exit ?_ | refine ⟨_, single_f 2, ?_⟩ | refine Or.inl ?_) | (clear hK K))
  all_goals (refine fin0 ?_; rfl)
theorem any_f : PC zP 57 [] (.st [.sl 8 ([kindN 2].map encNode), .int .i64 0]) := any_c
theorem inter_c (ts : List TyD) {B : Nat} (hts : TyS B ts) : PC zP 19 [Tys ts] (Yp (interT ts)) := by
 unfold interT
 cases h : decide ((ts.length : Int) = 0)
 all_goals
  refine PCB.of_body Tryz.func19 rfl (by decide) Tryz.ntmps19 Tryz.results19 rfl rfl rfl ?_ rfl rfl
  repeat' (first | (simp only [go_sem, zA, zB, zC, zD, zE, zF, zG, reduceCtorEq, zH, zI, zJ, zK, zL, lB, h]; all_goals fail_if_success guard_target =ₛ False) | (with_reducible first | ((first | refine seqVC_stepN rfl ?_ | refine AWP.seq ?_ | refine AWP.seqR (by kernel_rfl) ?_); intro K hK) | (apply hK; clear hK K) | refine AWP.block ?_ | (refine AWP.cond (by with_unfolding_all rfl) ?_ ?_ <;> intro h <;> (try simp only [zM, zN] at h) <;> try exact absurd h (by decide)) | refine AWP.skip ?_ | refine AWP.ret ?_ | refine AWP.exit ?_ | refine ⟨_, any_f, ?_⟩ | refine ⟨_, over_f 17 ts hts, ?_⟩ | refine Or.inl ?_) | (clear hK K))
  all_goals (refine fin0 ?_; rfl)
theorem over1_f (k : Int) (a : TyD) {B : Nat} (hts : TyS B [a]) : PC zP 53 [I .i64 k, .one (.dat (.sl 2 [[.sl 8 (a.1.map encNode), .int .i64 a.2]]))] (.st [.sl 8 ((overV k [a]).map encNode), .int .i64 0]) := over_c k [a] hts
theorem not_c (a : TyD) {B : Nat} (hts : TyS B [a]) : PC zP 20 [Yp a] (Yp (notT a)) := by
  refine PCB.of_body Tryz.func20 rfl (by decide) Tryz.ntmps20 Tryz.results20 rfl rfl rfl ?_ rfl rfl
  repeat' (first | (simp only [go_sem, zA, zB, zC, zD, zE, zF, zG, reduceCtorEq, zH, zI, zJ, zK, zL, encTy]; all_goals fail_if_success guard_target =ₛ False) | (with_reducible first | ((first | refine seqVC_stepN rfl ?_ | refine AWP.seq ?_ | refine AWP.seqR (by kernel_rfl) ?_); intro K hK) | (apply hK; clear hK K) | refine AWP.block ?_ | (refine AWP.cond (by with_unfolding_all rfl) ?_ ?_ <;> intro h <;> (try simp only [zM, zN] at h) <;> try exact absurd h (by decide)) | refine AWP.skip ?_ | refine AWP.ret ?_ | refine AWP.exit ?_ | refine ⟨_, over1_f 18 a hts, ?_⟩ | refine Or.inl ?_) | (clear hK K))
  all_goals (refine fin0 ?_; rfl)
theorem not_f (a : TyD) {B : Nat} (hts : TyS B [a]) : PC zP 20 [.st [.sl 8 (a.1.map encNode), .int .i64 a.2]] (.st [.sl 8 ((notT a).1.map encNode), .int .i64 (notT a).2]) := not_c a hts
theorem inter2_f (a b : TyD) {B : Nat} (hts : TyS B [a, b]) : PC zP 19 [.one (.dat (.sl 2 [[.sl 8 (a.1.map encNode), .int .i64 a.2], [.sl 8 (b.1.map encNode), .int .i64 b.2]]))] (Yp (interT [a, b])) := inter_c [a, b] hts
theorem diff_c (a b : TyD) {B B2 : Nat} (hb : TyS B [b]) (hts : TyS B2 [a, notT b]) : PC zP 21 [Yp a, Yp b] (Yp (diffT a b)) := by
  refine PCB.of_body Tryz.func21 rfl (by decide) Tryz.ntmps21 Tryz.results21 rfl rfl rfl ?_ rfl rfl
  repeat' (first | (simp only [go_sem, zA, zB, zC, zD, zE, zF, zG, reduceCtorEq, zH, zI, zJ, zK, zL, encTy]; all_goals fail_if_success guard_target =ₛ False) | (with_reducible first | ((first | refine seqVC_stepN rfl ?_ | refine AWP.seq ?_ | refine AWP.seqR (by kernel_rfl) ?_ | refine parVC_stepN rfl ?_ | refine parEVC_stepN rfl ?_ | refine genVC_stepN rfl ?_); intro K hK) | (apply hK; clear hK K) | refine AWP.block ?_ | (refine AWP.cond (by with_unfolding_all rfl) ?_ ?_ <;> intro h <;> (try simp only [zM, zN] at h) <;> try exact absurd h (by decide)) | refine AWP.skip ?_ | refine AWP.ret ?_ | refine AWP.exit ?_ | refine ⟨_, not_f b hb, ?_⟩ | refine ⟨_, inter2_f a (notT b) hts, ?_⟩ | (refine AWP.segP (id := 1) 5 mixed (by kernel_rfl) fun K hK => ?_; simp only [List.take_succ_cons, List.take_zero, List.drop_succ_cons, List.drop_zero]) | refine AWP.parR mixed (by kernel_rfl) fun K hK => ?_ | refine ⟨(by kernel_rfl : depB _ _ _ = true), ?_⟩ | refine Or.inl ?_) | (clear hK K))
  all_goals (refine fin0 ?_; rfl)
end Go.Proofs.YthbcdhfiibpeaaaGreat
namespace Go.Proofs.YthbcdhfiibpeaaaGreat
open Go Go.Sx
theorem bound (a b : Int) (h0 : b ≠ 0) : a.tmod b < (if b < 0 then -b else b) ∧ -(if b < 0 then -b else b) < a.tmod b := by
 have h := Int.natAbs_tmod a b
 have : (a.tmod b).natAbs < b.natAbs := by
  rw [h]; exact Nat.mod_lt _ (by omega)
 split <;> omega
end Go.Proofs.YthbcdhfiibpeaaaGreat
namespace Go.Proofs.YthbcdhfiibpeaaaGreat
open Go Go.Sx
theorem plainBs_all : ∀ l : List Val, plainBs l = l.all plainB
  | [] => by simp only [plainBs, List.all_nil]
  | v :: l => by simp only [plainBs, List.all_cons, plainBs_all l]
theorem plainB_eq (v : Val) : plainB v = (!(decide (v.kind = 9) || decide ((0 : Int) < (v.labels.length : Int))) && v.kids.all plainB) := by cases v; simp only [plainB, plainBs_all]
theorem tree_leaf (s : Src) : treeB (leafV s).1 = true := by
 refine (leafK_ok (nextV s 6) (nextS s 6)).2 ?_
 unfold leafK
 cases decide (nextV s 6 = 0) <;> cases decide (nextV s 6 = 1) <;> cases decide (nextV s 6 = 2) <;> cases decide (nextV s 6 = 3) <;> cases decide (nextV s 6 = 4) <;> simp only [cond_true, cond_false] <;>
  (rw [plainB_eq]; simp [intVal, atomVal, strVal, pidVal, nilVal, tupVal])
theorem tree_wrap (p : Val × Src) : treeB (wrapV p).1 = true := by
  unfold wrapV
  cases h : treeB p.1
  · exact tree_leaf _
  · exact h
theorem tree_near (l : List NodeD) (h : Nat) (k : Int) (s : Src) : treeB (NearV l h k s).1 = true := by
  cases h <;> exact tree_wrap _
structure BdT (l : List NodeD) : Prop where
  len : l.length ≤ 2000000
  one : ∀ x ∈ l, x.kids.length ≤ 2000000 ∧ x.fields.length ≤ 2000000
def smG : Nat → List NodeD → Bool
  | _, [] => true
  | a, x :: l => bif decide ((400 : Int) < ((a + x.kids.length + x.fields.length : Nat) : Int)) then false else smG (a + x.kids.length + x.fields.length) l
def smallB (l : List NodeD) : Bool := bif decide ((80 : Int) < (l.length : Int)) then false else smG 0 l
theorem smG_ok : ∀ (l : List NodeD) (a : Nat), smG a l = true → ∀ x ∈ l, x.kids.length ≤ 400 ∧ x.fields.length ≤ 400
 | [], a, _, x, hx => by cases hx
 | y :: l, a, h, x, hx => by
  rw [smG] at h
  cases hc : decide ((400 : Int) < ((a + y.kids.length + y.fields.length : Nat) : Int)) with
  | true => rw [hc] at h; cases h
  | false =>
   rw [hc] at h
   rw [decide_eq_false_iff_not] at hc
   rcases List.mem_cons.1 hx with rfl | hx
   ·omega
   ·exact smG_ok l _ h x hx
theorem smallB_sm {l : List NodeD} (h : smallB l = true) : TSm l ∧ l.length ≤ 80 := by
 unfold smallB at h
 cases hc : decide ((80 : Int) < (l.length : Int)) with
 | true => rw [hc] at h; cases h
 | false =>
  rw [hc] at h
  rw [decide_eq_false_iff_not] at hc
  have := smG_ok l 0 h
  exact ⟨⟨by omega, fun x hx => by have := this x hx; omega, fun x hx => by have := this x hx; omega⟩, by omega⟩
theorem small_c (l : List NodeD) (r : Int) (hl : BdT l) : PC zP 17 [Tt l r] (Bo (smallB l)) := by
 unfold smallB
 cases hc : decide ((80 : Int) < (l.length : Int))
 ·
  refine PCB.ob Tryz.func17 Tryz.ntmps17 Tryz.results17 ?_
  repeat' (first | (simp only [go_sem, zA, zB, zC, zD, zE, zF, zG, reduceCtorEq, zH, zI, zJ, zK, zL, lB, hc]; all_goals refine nf ?_) | (refine stp ?_; intro K hK) | (apply hK; clear hK K) | refine stn ?_ | fail)
  refine AWP.lenB 1 0 rfl rfl fun hlen0 => ?_
  (try rw [lB] at hlen0)
  refine AWP.range (S := Nat) (l) encNode (fun k a => (4, I .i64 (k : Nat)) :: [(3, I .i64 (a : Int))]) (fun k s => []) [1] [1] (fun k a => smG 0 l = smG a (l.drop k) ∧ a ≤ 400) (0) (by refine sts ?_; exact Gh.tt []) ?_ ?_ ?_
  ·exact ⟨rfl, Nat.zero_le _⟩
  ·rintro k a x hlt hx hx' hb ⟨hok, ha⟩
   refine sts ?_
   have hxm := hl.one x (List.mem_of_getElem? hx)
   have hd : l.drop k = x :: l.drop (k + 1) := by
    obtain ⟨hk', e⟩ := List.getElem?_eq_some_iff.1 hx
    rw [List.drop_eq_getElem_cons hk', e]
   rw [hd, smG] at hok
   have hw1 : IntKind.i64.wrap ((a : Int) + (x.kids.length : Int)) = ((a + x.kids.length : Nat) : Int) := by rw [w64 (by omega)]; omega
   have hw2 : IntKind.i64.wrap (((a + x.kids.length : Nat) : Int) + (x.fields.length : Int)) = ((a + x.kids.length + x.fields.length : Nat) : Int) := by rw [w64 (by omega)]; omega
   cases hz : decide ((400 : Int) < ((a + x.kids.length + x.fields.length : Nat) : Int)) <;> rw [hz] at hok <;> simp only [cond_true, cond_false] at hok
   ·
    repeat' (first | (simp only [go_sem, zA, zB, zC, zD, zE, zF, zG, reduceCtorEq, zH, zI, zJ, zK, zL, lB, hb, hz, hw1, hw2, encNode_lit]; all_goals refine nf ?_) | (refine stp ?_; intro K hK) | (apply hK; clear hK K) | refine stn ?_ | (with_reducible refine ⟨(by omega : _ ≤ _), encNode x, hx', ?_⟩) | (refine stp' ?_; intro K hK) | (clear hK K))
    all_goals (rw [wrap_succ hlt hlen0])
    all_goals (refine ⟨a + x.kids.length + x.fields.length, ?_, Gh.tt []⟩)
    all_goals (rw [decide_eq_false_iff_not] at hz; exact ⟨hok, by omega⟩)
   ·
    repeat' (first | (simp only [go_sem, zA, zB, zC, zD, zE, zF, zG, reduceCtorEq, zH, zI, zJ, zK, zL, lB, hb, hz, hw1, hw2, encNode_lit]; all_goals refine nf ?_) | (refine stp ?_; intro K hK) | (apply hK; clear hK K) | refine stn ?_ | (with_reducible refine ⟨(by omega : _ ≤ _), encNode x, hx', ?_⟩) | (refine stp' ?_; intro K hK) | (clear hK K))
    all_goals (first | exact fun _ h => absurd h List.not_mem_nil | (refine fin0 ?_; rw [hok]))
  ·rintro a hb ⟨hok, ha⟩
   refine sts ?_
   rw [List.drop_length, smG] at hok
   repeat' (first | (simp only [go_sem, zA, zB, zC, zD, zE, zF, zG, reduceCtorEq, zH, zI, zJ, zK, zL, lB, hb]; all_goals refine nf ?_) | (refine stp ?_; intro K hK) | (apply hK; clear hK K) | refine stn ?_ | (clear hK K))
   all_goals (first | exact fun _ h => absurd h List.not_mem_nil | (refine fin0 ?_; rw [hok]))
 ·
  refine PCB.ob Tryz.func17 Tryz.ntmps17 Tryz.results17 ?_
  repeat' (first | (simp only [go_sem, zA, zB, zC, zD, zE, zF, zG, reduceCtorEq, zH, zI, zJ, zK, zL, lB, hc]; all_goals refine nf ?_) | (refine stp ?_; intro K hK) | (apply hK; clear hK K) | refine stn ?_ | (clear hK K))
  all_goals (first | exact fun _ h => absurd h List.not_mem_nil | (refine fin0 ?_; rfl))
theorem drawn_tree (l m : List Int) : treeB (drawnV l m) = true := tree_near _ _ _ _
theorem cells_key {n : Nat} {row : List C} (h : hasT zP n 117 row) : ∃ k : KeyD, row = encKey k := by
 obtain ⟨m, parts, rfl, rfl, hl, hf⟩ := cells_st Tryz.underlying117 h
 match parts, hl with
 | [p0, p1], _ =>
  obtain ⟨a, rfl⟩ := cells_i64 Tryz.underlying3 (hf 0 _ p0 rfl rfl)
  obtain ⟨b, rfl⟩ := cells_text Tryz.underlying9 (hf 1 _ p1 rfl rfl)
  exact ⟨⟨a, b⟩, rfl⟩
theorem cbRs_len {α : Type} (f : α → List C) (l : List α) (h : ∀ x ∈ l, 1 ≤ cbL (f x)) : l.length ≤ cbRs (l.map f) := by
  induction l with
  | nil => simp
  | cons x l ih => have := h x (by simp); have := ih (fun y hy => h y (by simp [hy])); simp only [lE, cbRs, List.length_cons]; omega
theorem cells_two {n : Nat} {row : List C} (h : hasT zP n 58 row) : ∃ a b : Int, row = [.int .i64 a, .int .i64 b] := by
 cases n with
 | zero => exact h.elim
 | succ n =>
  simp only [hasT, Tryz.underlying58] at h
  obtain ⟨parts, rfl, h2, h3⟩ := h
  match parts, h2 with
  | [p0, p1], _ =>
   obtain ⟨a, rfl⟩ := cells_i64 Tryz.underlying3 (h3 p0 (by simp))
   obtain ⟨b, rfl⟩ := cells_i64 Tryz.underlying3 (h3 p1 (by simp))
   exact ⟨a, b, rfl⟩
theorem cells_field {n : Nat} {row : List C} (h : hasT zP n 119 row) : ∃ f : FieldD, row = encField f := by
 obtain ⟨m, parts, rfl, rfl, hl, hf⟩ := cells_st Tryz.underlying119 h
 match parts, hl with
 | [p0, p1, p2], _ =>
  obtain ⟨a, rfl⟩ := cells_key (hf 0 _ p0 rfl rfl)
  obtain ⟨b, rfl⟩ := cells_i64 Tryz.underlying3 (hf 1 _ p1 rfl rfl)
  obtain ⟨c, rfl⟩ := cells_bool Tryz.underlying4 (hf 2 _ p2 rfl rfl)
  exact ⟨⟨a, b, c⟩, rfl⟩
theorem cells_node {n : Nat} {row : List C} (h : hasT zP n 60 row) : ∃ x : NodeD, row = encNode x := by
 obtain ⟨m, parts, rfl, rfl, hl, hf⟩ := cells_st Tryz.underlying60 h
 match parts, hl with
 | [p0, p1, p2, p3, p4, p5, p6], _ =>
  obtain ⟨a0, rfl⟩ := cells_i64 Tryz.underlying3 (hf 0 _ p0 rfl rfl)
  obtain ⟨a1, rfl⟩ := cells_i64 Tryz.underlying2 (hf 1 _ p1 rfl rfl)
  obtain ⟨a2, rfl⟩ := cells_i64 Tryz.underlying2 (hf 2 _ p2 rfl rfl)
  obtain ⟨a3, rfl⟩ := cells_text Tryz.underlying9 (hf 3 _ p3 rfl rfl)
  obtain ⟨a4, rfl⟩ := cells_row (enc := encInt) (sz := 1) Tryz.underlying22 (by kernel_rfl) (fun r hr => cells_i64 Tryz.underlying3 hr) (hf 4 _ p4 rfl rfl)
  obtain ⟨a5, rfl⟩ := cells_row (enc := encField) (sz := 4) Tryz.underlying57 (by kernel_rfl) (fun r hr => cells_field hr) (hf 5 _ p5 rfl rfl)
  obtain ⟨a6, a7, rfl⟩ := cells_two (hf 6 _ p6 rfl rfl)
  exact ⟨⟨a0, a1, a2, a3, a4, a5, a6, a7⟩, rfl⟩
theorem cells_ty {n : Nat} {row : List C} (h : hasT zP n 26 row) : ∃ (l : List NodeD) (r : Int), row = [.sl 8 (l.map encNode), .int .i64 r] := by
 obtain ⟨m, parts, rfl, rfl, hl, hf⟩ := cells_st Tryz.underlying26 h
 match parts, hl with
 | [p0, p1], _ =>
  obtain ⟨a0, rfl⟩ := cells_row (enc := encNode) (sz := 8) Tryz.underlying24 (by kernel_rfl) (fun r hr => cells_node hr) (hf 0 _ p0 rfl rfl)
  obtain ⟨a1, rfl⟩ := cells_i64 Tryz.underlying3 (hf 1 _ p1 rfl rfl)
  exact ⟨a0, a1, rfl⟩
theorem cb_node (x : NodeD) : 1 + x.kids.length + x.fields.length ≤ cbL (encNode x) := by
  have h1 := cbRs_len encInt x.kids (fun k _ => by simp only [encInt, cbL, cbC]; omega)
  have h2 := cbRs_len encField x.fields (fun k _ => by simp only [encField, cbL, cbC]; omega)
  rw [encNode_lit]
  simp only [cbL, cbC]; omega
theorem cb_nodes : ∀ l : List NodeD, ∀ x ∈ l, cbL (encNode x) ≤ cbRs (l.map encNode)
 | [], x, h => by cases h
 | y :: l, x, h => by
  simp only [lE, cbRs]
  rcases List.mem_cons.1 h with rfl | h
  ·omega
  ·have := cb_nodes l x h; omega
theorem bdT_of {l : List NodeD} {r : Int} (h : cbL [.sl 8 (l.map encNode), .int .i64 r] ≤ 1048576) : BdT l := by
  have h1 := cbRs_len encNode l (fun x _ => by have := cb_node x; omega)
  have h0 : cbRs (l.map encNode) ≤ cbL [.sl 8 (l.map encNode), .int .i64 r] := by simp only [cbL, cbC]; omega
  refine ⟨by omega, fun x hx => ?_⟩
  have h2 := cb_nodes l x hx
  have h3 := cb_node x
  omega
end Go.Proofs.YthbcdhfiibpeaaaGreat

