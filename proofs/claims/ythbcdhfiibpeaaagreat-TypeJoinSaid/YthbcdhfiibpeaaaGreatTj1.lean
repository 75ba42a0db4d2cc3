/- Lemmas of the proof. -/
import Derived.Test.YthbcdhfiibpeaaaGreatTy48
open List renaming length_map → lB
open Nat renaming reduceBEq → zA, reduceBNe → zB, reduceAdd → zC, reduceSub → zD, reduceMul → zE, reduceLeDiff → zF, reduceLT → zG, reduceEqDiff → zH
open Int renaming reduceToNat → zI, reduceLE → zJ, reduceLT → zK, reduceEq → zL
open Bool renaming not_eq_true' → zM, not_eq_false' → zN
set_option linter.unusedSimpArgs false
set_option linter.unusedVariables false
set_option maxRecDepth 20000
set_option maxHeartbeats 64000000
namespace Go.Sx
variable {P : Program} {n : Nat} {σ : AS} {Q : Exit → AS → Prop}
theorem PCX.nils {f : FuncId} {args args1 : List T} {B : Bx} {r : T} {B' : Bx} (h : PCX P f args B r B') (hB : ∀ p ∈ B, ∃ sz, p.2 = .row sz []) (hn : nodupN (B.map (·.1)) = true)
  (ha : ∀ M vs ν, T.reps M ν args1 vs → T.reps M (fun _ => ⟨none, 0⟩) args vs) : PCX P f args1 [] r B' := by
 refine ⟨h.1, fun M ν w vs hs hreps => ?_⟩
 have hbb : ∀ (ν2 : Nu) b, boxBlocks B (fun _ => ⟨none, 0⟩) b ↔ boxBlocks [] ν2 b := by
  intro ν2 b
  constructor
  ·rintro ⟨k, q, hm, hb⟩; cases hb
  ·rintro ⟨k, q, hm, hb⟩; cases hm
 have hs1 : Sat ⟨w, boxBlocks B (fun _ => ⟨none, 0⟩), fun _ => ⟨none, 0⟩⟩ M (fun _ => ⟨none, 0⟩) B w := by
  refine ⟨rfl, rfl, rfl, Nat.zero_le _, Nat.le_refl _, fun _ _ _ => rfl, hs.fro, ?_, ?_, ?_, nodupN_spec hn⟩
  ·intro k q hm
   obtain ⟨sz, e⟩ := hB _ hm
   simp only at e
   subst e
   exact ⟨Nat.zero_le _, Nat.zero_le _, .inl ⟨rfl, rfl⟩⟩
  ·intro k q b hm hb; cases hb
  ·intro k q k' q' b hm hm' hb hb'; cases hb
 refine Calls.mono (h.2 M _ w vs hs1 (ha M.f vs ν hreps)) ?_
 rintro e w' ⟨v, M', ν', rfl, hext, hr, hs'⟩
 exact ⟨v, M', ν', rfl, ⟨hext.1, fun b o e => (hext.2 b o e).imp id fun h => h.imp id (hbb ν b).1⟩, hr,
  ⟨hs'.os, hs'.tape, hs'.output, Nat.zero_le _, hs'.size, fun b hb hD => hs'.unch b hb fun h => hD ((hbb ν b).1 h), hs'.fro, hs'.res, fun k q b hm hb => ⟨(hs'.away k q b hm hb).1, (hs'.away k q b hm hb).2.imp id (hbb ν b).1⟩, hs'.inj, hs'.nodup⟩⟩
end Go.Sx
namespace Go.Sx
open Go.RowKit Go.ChangeShapes Go.WideShapes
variable {P : Program}
theorem rows_of (M : Mem0) (k : Nat) (p : List C → Prop) : ∀ (len : Nat) (l : List Value), len * k ≤ l.length → (∀ i, i < len → ∃ r, p r ∧ repRow M r ((l.drop (i * k)).take k) ∧ r.length = k) →
  ∃ rows : List (List C), rows.length = len ∧ (∀ x ∈ rows, p x) ∧ repRows M k rows (l.take (len * k))
 | 0, l, _, _ => ⟨[], rfl, by simp, by simp [repRows]⟩
 | len + 1, l, hl, h => by
  obtain ⟨r, h1, h2, h3⟩ := h 0 (by omega)
  have hk : (len + 1) * k = k + len * k := by rw [Nat.add_mul, Nat.one_mul, Nat.add_comm]
  obtain ⟨rows, g1, g2, g3⟩ := rows_of M k p len (l.drop k) (by simp; omega) (fun i hi => by
   obtain ⟨r, a, b, c⟩ := h (i + 1) (by omega)
   refine ⟨r, a, ?_, c⟩
   rw [List.drop_drop, show k + i * k = (i + 1) * k by rw [Nat.add_mul, Nat.one_mul, Nat.add_comm]]
   exact b)
  refine ⟨r :: rows, by simp [g1], ?_, ?_⟩
  ·intro x hx
   rcases List.mem_cons.1 hx with rfl | hx
   ·exact h1
   ·exact g2 x hx
  ·simp only [repRows]
   refine ⟨l.take k, (l.drop k).take (len * k), ?_, h3, by simpa using h2, g3⟩
   rw [hk, List.take_add]
section
variable {H : Type} {enc : TypeId × Value → H} {w : World} {base : Nat} {spare : Nat → Bool} {held : Bool}
theorem open_fields {L : List TypeId} {n : Nat} (ih : ∀ t cs x, t ∈ L → DataW.trod enc P w base spare held n t cs = some x → ∃ r, hasT P n t r ∧ repRow (fun b => w.heap[b]?) r cs ∧ r.length = P.cellsOf t) :
  ∀ (fs : List Field) (off tot : Nat) (cs : List Value), tiles P L off fs tot = true → cs.length = tot → off ≤ tot →
   (∀ (i : Nat) (f : Field), fs[i]? = some f → ∃ x, DataW.trod enc P w base spare held n f.type ((cs.drop f.offset).take (P.cellsOf f.type)) = some x) →
   ∃ parts : List (List C), parts.length = fs.length ∧ (∀ (i : Nat) (f : Field) (p : List C), fs[i]? = some f → parts[i]? = some p → hasT P n f.type p) ∧ repRow (fun b => w.heap[b]?) parts.flatten (cs.drop off) ∧ parts.flatten.length = tot - off
 | [], off, tot, cs, ht, hl, hle, h => by
  simp only [tiles, beq_iff_eq] at ht
  subst ht
  refine ⟨[], rfl, by simp, ?_, by simp⟩
  rw [List.drop_eq_nil_of_le (by omega)]
  simp [repRow]
 | f :: fs, off, tot, cs, ht, hl, hle, h => by
  simp only [tiles, Bool.and_eq_true, beq_iff_eq] at ht
  obtain ⟨⟨h1, h2⟩, h3⟩ := ht
  obtain ⟨x, hx⟩ := h 0 f rfl
  obtain ⟨r, a, b, c⟩ := ih f.type _ x (by simpa using h2) hx
  have hlen := repRow_length b
  rw [List.length_take, List.length_drop, c, h1] at hlen
  have hle2 : off + P.cellsOf f.type ≤ tot := by omega
  obtain ⟨parts, g1, g2, g3, g4⟩ := open_fields ih fs (off + P.cellsOf f.type) tot cs h3 hl hle2 (fun i f' hf => h (i + 1) f' (by simpa using hf))
  refine ⟨r :: parts, by simp [g1], ?_, ?_, by simp only [List.flatten_cons, List.length_append, g4, c]; omega⟩
  ·intro i f' p hf hp
   cases i with
   | zero => simp at hf hp; subst hf; subst hp; exact a
   | succ i => exact g2 i f' p (by simpa using hf) (by simpa using hp)
  ·simp only [List.flatten_cons]
   have : cs.drop off = (cs.drop off).take (P.cellsOf f.type) ++ cs.drop (off + P.cellsOf f.type) := by
    rw [← List.drop_drop, List.take_append_drop]
   rw [this]
   rw [h1] at b
   exact repRow_append b g3
theorem open_elems {L : List TypeId} {n e : Nat} (he : e ∈ L) (ih : ∀ t cs x, t ∈ L → DataW.trod enc P w base spare held n t cs = some x → ∃ r, hasT P n t r ∧ repRow (fun b => w.heap[b]?) r cs ∧ r.length = P.cellsOf t) :
  ∀ (k : Nat) (cs : List Value), cs.length = k * P.cellsOf e →
   (∀ i, i < k → ∃ x, DataW.trod enc P w base spare held n e ((cs.drop (i * P.cellsOf e)).take (P.cellsOf e)) = some x) →
   ∃ parts : List (List C), parts.length = k ∧ (∀ x ∈ parts, hasT P n e x) ∧ repRow (fun b => w.heap[b]?) parts.flatten cs ∧ parts.flatten.length = k * P.cellsOf e
 | 0, cs, hl, h => ⟨[], rfl, by simp, by
   have : cs = [] := List.length_eq_zero_iff.1 (by simpa using hl)
   subst this; simp [repRow], by simp⟩
 | k + 1, cs, hl, h => by
  have hk : (k + 1) * P.cellsOf e = P.cellsOf e + k * P.cellsOf e := by rw [Nat.add_mul, Nat.one_mul, Nat.add_comm]
  obtain ⟨x, hx⟩ := h 0 (by omega)
  obtain ⟨r, a, b, c⟩ := ih e _ x he hx
  obtain ⟨parts, g1, g2, g3, g4⟩ := open_elems he ih k (cs.drop (P.cellsOf e)) (by simp; omega) (fun i hi => by
   obtain ⟨x, hx⟩ := h (i + 1) (by omega)
   rw [List.drop_drop, show P.cellsOf e + i * P.cellsOf e = (i + 1) * P.cellsOf e by rw [Nat.add_mul, Nat.one_mul, Nat.add_comm]]
   exact ⟨x, hx⟩)
  refine ⟨r :: parts, by simp [g1], ?_, ?_, by simp only [List.flatten_cons, List.length_append, g4, c]; omega⟩
  ·intro x hx
   rcases List.mem_cons.1 hx with rfl | hx
   ·exact a
   ·exact g2 x hx
  ·simp only [List.flatten_cons]
   rw [show cs = cs.take (P.cellsOf e) ++ cs.drop (P.cellsOf e) from (List.take_append_drop ..).symm]
   refine repRow_append (by simpa using b) ?_
   simpa using g3
theorem open_cells {L : List TypeId} (hok : okAll P L = true) : ∀ (fuel : Nat) (t : TypeId) (cs : List Value) (x : DataW H × List MemPlace), t ∈ L → DataW.trod enc P w base spare held fuel t cs = some x →
  ∃ r, hasT P fuel t r ∧ repRow (fun b => w.heap[b]?) r cs ∧ r.length = P.cellsOf t
 | 0, t, cs, x, _, h => by simp [DataW.trod] at h
 | n + 1, t, cs, x, ht, h => by
  have ho : okAt P L t = true := List.all_eq_true.1 hok t ht
  have ih := fun t cs x h1 h2 => open_cells hok n t cs x h1 h2
  unfold okAt at ho
  unfold hasT
  split at ho
  ·rename_i k hu
   obtain ⟨m, rfl, rfl, hw⟩ := DataW.trod_int hu h
   try simp only [hu]
   exact ⟨_, ⟨m, rfl, hw⟩, by simp [repRow, C.rep], by simpa using (beq_iff_eq.1 ho).symm⟩
  ·rename_i hu
   obtain ⟨b, rfl, rfl⟩ := DataW.trod_bool hu h
   try simp only [hu]
   exact ⟨_, ⟨b, rfl⟩, by simp [repRow, C.rep], by simpa using (beq_iff_eq.1 ho).symm⟩
  ·rename_i hu
   obtain ⟨s, rfl, rfl, hs⟩ := DataW.trod_string hu h
   try simp only [hu]
   exact ⟨_, ⟨s.data.toList, rfl, by simpa using hs⟩, by simp [repRow, C.rep], by simpa using (beq_iff_eq.1 ho).symm⟩
  ·rename_i e hu
   try simp only [hu]
   simp only [Bool.and_eq_true, beq_iff_eq] at ho
   obtain ⟨h1, h2, h3⟩ := ho
   have he : e ∈ L := by simpa using h2
   have hpos : 0 < P.cellsOf e := by simpa using h3
   rcases DataW.trod_slice hu h with ⟨rfl, rfl⟩ | ⟨a, len, cap, elems, rest, m, hm, rfl, rfl, hb, hlc, hcm, hel, hat, _, _⟩
   ·refine ⟨_, ⟨[], rfl, by simp, by simp⟩, ?_, by simp [h1]⟩
    simp only [repRow, C.rep]
    exact ⟨_, [], rfl, ⟨none, 0, [], rfl, by simp, by simp, by simp [repRows], .inl trivial⟩, rfl⟩
   ·cases hm
    by_cases h0 : len = 0
    ·subst h0
     refine ⟨_, ⟨[], rfl, by simp, by simp⟩, ?_, by simp [h1]⟩
     simp only [repRow, C.rep]
     exact ⟨_, [], rfl, ⟨some a, cap, [], rfl, by simp, hcm, by simp [repRows], .inl trivial⟩, rfl⟩
    ·have get : ∀ i, i < len → ∃ ci x, w.cells? base (a.add (i * P.cellsOf e)) (P.cellsOf e) = some ci ∧ DataW.trod enc P w base spare held n e ci = some x := by
      intro i hi
      have := hat i hi
      rw [List.getElem?_eq_getElem (by omega)] at this
      obtain ⟨ci, e1, e2⟩ := Option.bind_eq_some_iff.1 this
      exact ⟨ci, _, e1, e2⟩
     obtain ⟨c0, x0, e0, _⟩ := get 0 (by omega)
     obtain ⟨l0, f0⟩ := cells?_spec e0
     have ha0 : a.add (0 * P.cellsOf e) = a := by simp [Addr.add]
     rw [ha0] at f0
     have hv0 := f0 0 hpos
     have haa : a.add 0 = a := by simp [Addr.add]
     rw [haa, List.getElem?_eq_getElem (by omega)] at hv0
     obtain ⟨hspot, c, et, fz, hheap, hc0⟩ := cell?_some hv0
     obtain ⟨ab, ao, asp⟩ := a
     simp only at hspot hheap hc0
     subst hspot
     have cellat : ∀ i ci, i < len → w.cells? base (Addr.add ⟨ab, ao, none⟩ (i * P.cellsOf e)) (P.cellsOf e) = some ci → ci = (c.toList.drop (ao + i * P.cellsOf e)).take (P.cellsOf e) := by
      intro i ci hi hci
      obtain ⟨l1, f1⟩ := cells?_spec hci
      apply List.ext_getElem?
      intro j
      by_cases hj : j < P.cellsOf e
      ·rw [← f1 j hj]
       have : (Addr.add (Addr.add ⟨ab, ao, none⟩ (i * P.cellsOf e)) j) = ⟨ab, ao + i * P.cellsOf e + j, none⟩ := by
        simp only [Addr.add]
        split <;> split <;> simp_all
       rw [this]
       simp only [World.cell?, hheap]
       rw [List.getElem?_take, if_pos hj, List.getElem?_drop]
       simp
      ·rw [List.getElem?_eq_none (by omega), List.getElem?_eq_none (by simp; omega)]
     have hsz : ao + len * P.cellsOf e ≤ c.toList.length := by
      obtain ⟨ci, x, e1, e2⟩ := get (len - 1) (by omega)
      have := cellat _ _ (by omega) e1
      have h3 := (cells?_spec e1).1
      rw [this] at h3
      simp only [List.length_take, List.length_drop] at h3
      have : len * P.cellsOf e = (len - 1) * P.cellsOf e + P.cellsOf e := by
       obtain ⟨q, rfl⟩ : ∃ q, len = q + 1 := ⟨len - 1, by omega⟩
       simp [Nat.add_mul]
      omega
     obtain ⟨rows, g1, g2, g3⟩ := rows_of (fun b => w.heap[b]?) (P.cellsOf e) (hasT P n e) len (c.toList.drop ao) (by simp only [List.length_drop]; omega) (fun i hi => by
      obtain ⟨ci, x, e1, e2⟩ := get i hi
      obtain ⟨r, q1, q2, q3⟩ := ih e ci x he e2
      rw [cellat i ci hi e1, ← List.drop_drop] at q2
      exact ⟨r, q1, q2, q3⟩)
     refine ⟨_, ⟨rows, rfl, by omega, g2⟩, ?_, by simp [h1]⟩
     simp only [repRow, C.rep]
     refine ⟨_, [], rfl, ⟨some ⟨ab, ao, none⟩, cap, _, by rw [g1], by omega, hcm, g3, .inr ⟨ab, ao, rfl, c, et, fz, c.toList.take ao, (c.toList.drop ao).drop (len * P.cellsOf e), hheap, ?_, ?_⟩⟩, rfl⟩
     ·rw [List.take_append_drop, List.take_append_drop]
     ·rw [List.length_take]; omega
  ·rename_i fs hu
   try simp only [hu]
   obtain ⟨xs, m, hm, rfl, hl, hxl, hf⟩ := DataW.trod_struct hu h
   cases hm
   obtain ⟨parts, g1, g2, g3, g4⟩ := open_fields (P := P) (L := L) (n := n) ih fs.toList 0 (P.cellsOf t) cs ho hl (by omega) (fun i f hif => by
    have h1 : fs[i]? = some f := by simpa using hif
    have hlt := (Array.getElem?_eq_some_iff.1 h1).1
    refine ⟨xs[i]'(by omega), ?_⟩
    rw [hf i f h1, List.getElem?_eq_getElem])
   exact ⟨_, ⟨parts, rfl, by simpa using g1, fun i f p h1 h2 => g2 i f p (by simpa using h1) h2⟩, by simpa using g3, by simpa using g4⟩
  ·rename_i k e hu
   try simp only [hu]
   simp only [Bool.and_eq_true, beq_iff_eq] at ho
   obtain ⟨xs, m, hm, rfl, hl, hxl, hf⟩ := DataW.trod_array hu h
   cases hm
   obtain ⟨parts, g1, g2, g3, g4⟩ := open_elems (P := P) (L := L) (n := n) (e := e) (by simpa using ho.2) ih k cs (by rw [hl, ho.1]) (fun i hi => by
    refine ⟨xs[i]'(by omega), ?_⟩
    rw [hf i hi, List.getElem?_eq_getElem])
   exact ⟨_, ⟨parts, rfl, g1, g2⟩, g3, by rw [g4, ho.1]⟩
  ·cases ho
theorem open_arg {L : List TypeId} (hok : okAll P L = true) {r : Reach} {b0 : Nat} {t : TypeId} {v : Value} {d : DataW H} {ps : List MemPlace} (ht : t ∈ L) (hval : Value.okWide P w r b0 t v) (hd : DataW.Trod enc P w base spare held t v d ps) :
  ∃ n row, hasT P n t row ∧ ∀ ν, (argT P t row).rep (fun b => w.heap[b]?) ν v := by
 obtain ⟨fuel, hf⟩ := hd
 obtain ⟨row, h1, h2, h3⟩ := open_cells hok fuel t _ _ ht hf
 refine ⟨fuel, row, h1, fun ν => ?_⟩
 have ho : okAt P L t = true := List.all_eq_true.1 hok t ht
 unfold Value.okWide at hval
 unfold argT aggT
 unfold okAt at ho
 have one : P.cellsOf t = 1 → (∀ cs, v = .agg cs → False) → (match row with
   | [c] => T.one (.dat c)
   | _ => .un).rep (fun b => w.heap[b]?) ν v := by
  intro h hna
  have hv : v.cells.toList = [v] := by
   cases v <;> first | rfl | exact (hna _ rfl).elim
  rw [hv] at h2
  match row, h3, h2 with
  | [c], _, h2 =>
   simp only [repRow] at h2
   obtain ⟨v', vs', e, h5, h6⟩ := h2
   cases e
   simpa only [T.rep, Cell.rep] using h5
  | [], h3, _ => simp at h3; omega
  | _ :: _ :: _, h3, _ => simp at h3; omega
 split at ho
 ·rename_i k hu
  simp only [hu] at hval ⊢
  exact one (beq_iff_eq.1 ho) (fun cs e => by subst e; simp [Cell.okWide, hu, Cell.ok] at hval)
 ·rename_i hu
  simp only [hu] at hval ⊢
  exact one (beq_iff_eq.1 ho) (fun cs e => by subst e; simp [Cell.okWide, hu, Cell.ok] at hval)
 ·rename_i hu
  simp only [hu] at hval ⊢
  exact one (beq_iff_eq.1 ho) (fun cs e => by subst e; simp [Cell.okWide, hu, Cell.ok] at hval)
 ·rename_i e hu
  simp only [hu] at hval ⊢
  simp only [Bool.and_eq_true, beq_iff_eq] at ho
  exact one ho.1 (fun cs e => by subst e; simp [Cell.okWide, hu, Cell.ok] at hval)
 ·rename_i fs hu
  simp only [hu] at hval ⊢
  obtain ⟨cs, rfl, _, _⟩ := hval
  simp only [Option.map_some, isAggD, Option.getD_some, cond_true, T.rep]
  exact ⟨cs, rfl, h2⟩
 ·rename_i k e hu
  simp only [hu] at hval ⊢
  obtain ⟨cs, rfl, _, _⟩ := hval
  simp only [Option.map_some, isAggD, Option.getD_some, cond_true, T.rep]
  exact ⟨cs, rfl, h2⟩
 ·cases ho
def argsOk (P : Program) : List TypeId → List T → Prop
  | [], us => us = []
  | t :: ts, us => ∃ n row us', us = argT P t row :: us' ∧ hasT P n t row ∧ argsOk P ts us'
theorem open_all {L : List TypeId} (hok : okAll P L = true) {r : Reach} {b0 : Nat} : ∀ {ts : List TypeId} {vs : List Value} {ds : List (DataW H)} {ps : List MemPlace}, (∀ t ∈ ts, t ∈ L) → DataW.TrodAll enc P w base spare held ts vs ds ps →
  (∀ (j : Nat) t v, ts[j]? = some t → vs[j]? = some v → Value.okWide P w r b0 t v) → ∃ us, argsOk P ts us ∧ ∀ ν, T.reps (fun b => w.heap[b]?) ν us vs
 | [], vs, ds, ps, _, h, _ => by
  cases vs <;> cases ds <;> simp [DataW.TrodAll] at h
  exact ⟨[], rfl, fun ν => by simp [T.reps]⟩
 | t :: ts, vs, ds, ps, hts, h, hval => by
  obtain ⟨v, vs', d, ds', p, q, rfl, rfl, rfl, h1, h2⟩ := trodAll_cons h
  obtain ⟨n, row, h3, h4⟩ := open_arg hok (hts t (by simp)) (hval 0 t v rfl rfl) h1
  obtain ⟨us, h5, h6⟩ := open_all hok (fun t ht => hts t (List.mem_cons_of_mem _ ht)) h2 (fun j t v hj hv => hval (j + 1) t v (by simpa using hj) (by simpa using hv))
  refine ⟨argT P t row :: us, ⟨n, row, us, rfl, h3, h5⟩, fun ν => ?_⟩
  simp only [T.reps]
  exact ⟨v, vs', rfl, h4 ν, h6 ν⟩
end
theorem law_post {H : Type} {enc : TypeId × Value → H} {C : Checked} {F : FuncId} {fn : Func} {s : ChangeSpec} {L : List TypeId} {tb : TypeId} {apart fresh handsOn again : Bool}
  (hlaid : laidOutB C.prog = true) (hok : okAll C.prog L = true) (hts : fn.params.toList.all (fun t => L.contains t && C.prog.readableRec t && decide (t < C.prog.types.size)) = true)
  (hvars : s.vars = []) (hres : fn.resultTypes = #[tb]) (hbool : C.prog.underlying tb = some .bool)
  (hspec : ∀ (ds : List (DataW H)), ds.length = fn.params.toList.length → s.fn H ds = { results := [.lit (.bool true)], args := ds })
  (hwalk : ∀ us, argsOk C.prog fn.params.toList us → PC C.prog F us (Bo true))
  (W : World) (hg : GlobOk (fun b => W.heap[b]?)) (base : Nat) (args : Array Value) (ds gs : List (DataW H)) (before : List MemPlace)
  (hval : ∀ (j : Nat) t v, fn.params[j]? = some t → args[j]? = some v → Value.okWide C.prog W .any base t v)
  (hW : DataW.Whole enc C.prog fn.params.toList s.vars apart W args.toList ds gs before) :
  Calls C.prog F args W fun e W' => ∃ v, e = .returned v ∧ s.post enc C.prog fn apart fresh handsOn again W args v W' := by
 have hW' := hW
 obtain ⟨p, q, hA, hV, rfl, hfz, hnd⟩ := hW
 have hgs : gs = [] ∧ q = [] := by
  rw [hvars] at hV
  cases gs <;> simp [DataW.TrodVars] at hV
  exact ⟨rfl, hV⟩
 obtain ⟨rfl, rfl⟩ := hgs
 have hin : ∀ t ∈ fn.params.toList, t ∈ L ∧ C.prog.readableRec t = true ∧ t < C.prog.types.size := fun t ht => by
  have := List.all_eq_true.1 hts t ht
  simp only [Bool.and_eq_true, decide_eq_true_eq] at this
  exact ⟨by simpa using this.1.1, this.1.2, this.2⟩
 obtain ⟨us, hus, hreps⟩ := open_all hok (fun t ht => (hin t ht).1) hA (fun j t v hj hv => hval j t v (by simpa using hj) (by simpa using hv))
 have hlen : ds.length = fn.params.toList.length := by
  have : ∀ {ts : List TypeId} {vs : List Value} {ds : List (DataW H)} {ps : List MemPlace}, DataW.TrodAll enc C.prog W 0 (fun _ => true) true ts vs ds ps → ds.length = ts.length := by
   intro ts
   induction ts with
   | nil => intro vs ds ps h; cases vs <;> cases ds <;> simp [DataW.TrodAll] at h; rfl
   | cons t ts ih =>
    intro vs ds ps h
    obtain ⟨v, vs', d, ds', p, q, rfl, rfl, rfl, h1, h2⟩ := trodAll_cons h
    simp [ih h2]
  exact this hA
 have hs : s.fn H (ds ++ []) = { results := [.lit (.bool true)], args := ds } := by rw [List.append_nil]; exact hspec ds hlen
 have hcall := PC.calls (hwalk us hus) W hg args.toList (hreps _)
 refine Calls.mono hcall fun e W' ⟨he, hos, hout, hu⟩ => ?_
 subst he
 have hlt : ∀ x ∈ p, x.block < W.heap.size := fun x hx => hW'.lt x (by simpa using hx)
 refine ⟨_, rfl, post_of_old (pa := p) (pv := []) hW' ?_ ?_ ?_ rfl (keptBut_same _ hos hout hu) (fun a ha => by simp only [World.frozen?, hu a.block ha]) (ok_one hres rfl (okWide_bool_mk hbool _))⟩
 ·intro b sp hd
  rw [hs, hres]
  exact trodAll_cons_mk (shut_bool hbool _) trodAll_mk0
 ·intro sp hsp
  rw [hs]
  refine trodAll_stays hlaid (fun t ht => (hin t ht).2) hA (fun x hx => ?_) (fun x hx => hsp x (by simpa using hx))
  have h1 := hu x.block (hlt x hx)
  cases x with
  | cell b off => simp only [MemPlace.block] at h1; simp only [World.sameAt, World.cell?, h1]
  | map b => simp only [MemPlace.block] at h1; simp only [World.sameAt, h1]
 ·intro sp hsp
  rw [hs, hvars]
  simp [DataW.TrodVars]
end Go.Sx
namespace Go.Sx
variable {P : Program}
theorem arg_int {n : Nat} {t : TypeId} {row : List C} (hu : P.underlying t = some (.int .i64)) (ha : aggT P t = some false) (h : hasT P n t row) : ∃ m, argT P t row = I .i64 m ∧ -9223372036854775808 ≤ m ∧ m ≤ 9223372036854775807 := by
  obtain ⟨m, rfl, h1⟩ := cells_int hu h
  exact ⟨m, by simp only [argT, ha]; rfl, h1⟩
end Go.Sx
namespace Go.Proofs.YthbcdhfiibpeaaaGreat
open Go Go.Sx
theorem embed_nil (l : List NodeD) (r : Int) (hl : TSm l) : PCX Tryz.prog 47 [.one (.dat (.nil 8)), .st [.sl 8 (l.map encNode), .int .i64 r]] []
  (.tup [.one (.own 900 (emL 0 l r).length), .one (.dat (.int .i64 (emR 0 l r)))]) [(900, .row 8 ((emL 0 l r).map encNode))] := by
 have h := embed_x [] l r hl (by simp)
 refine h.nils (fun p hp => ?_) rfl fun M vs ν hr => ?_
 ·simp only [List.mem_cons, List.not_mem_nil, or_false] at hp
  subst hp
  exact ⟨_, rfl⟩
 ·simp only [T.reps, T.rep, Cell.rep, C.rep] at hr ⊢
  obtain ⟨v1, t1, e1, r1, v2, t2, e2, r2, e3⟩ := hr
  exact ⟨v1, t1, e1, by rw [r1]; rfl, v2, t2, e2, r2, e3⟩
def joinL (s t : TyD) : List NodeD := emL 0 s.1 s.2 ++ emL (emL 0 s.1 s.2).length t.1 t.2
theorem join_c (s t : TyD) (hs : TSm s.1) (ht : TSm t.1) : PC Tryz.prog 11 [Yp s, Yp t] (.tup [Yp (joinL s t, emR 0 s.1 s.2), I .i64 (emR (emL 0 s.1 s.2).length t.1 t.2)]) := by
 have hn := embed_nil s.1 s.2 hs
 have h0 := emL_len 0 s.1 s.2
 have h1 := hs.len
 obtain ⟨L, hL⟩ : ∃ L, L = emL 0 s.1 s.2 := ⟨_, rfl⟩
 rw [← hL] at hn h0
 have hix := (embed_x L t.1 t.2 ht (by omega)).ren (fun _ => 900) 1000 (args1 := [.one (.own 900 L.length), .st [.sl 8 (t.1.map encNode), .int .i64 t.2]]) (B1 := [(900, .row 8 (L.map encNode))])
  (r1 := (.tup [.one (.own 1900 (L ++ emL L.length t.1 t.2).length), .one (.dat (.int .i64 (emR L.length t.1 t.2)))])) (B1' := [(1900, .row 8 ((L ++ emL L.length t.1 t.2).map encNode))]) rfl rfl rfl rfl rfl
 refine PCB.of_body Tryz.func11 rfl (by decide) Tryz.ntmps11 Tryz.results11 rfl rfl rfl ?_ rfl rfl
 repeat' (first | (refine atR 3 (Gh.freeze 1900 (by rfl) (by rfl) (by simp only [go_sem, zA, zB, zC, zD, zE, zF, zG, reduceCtorEq, zH, zI, zJ, zK, zL, encTy, lB, lB]) (by simp only [go_sem, zA, zB, zC, zD, zE, zF, zG, reduceCtorEq, zH, zI, zJ, zK, zL, encTy, lB, lB])) ?_; simp only [frE, frB, Bx.drop, go_sem, zA, zB, zC, zD, zE, zF, zG, reduceCtorEq, zH, zI, zJ, zK, zL, encTy, lB]) | (simp only [go_sem, zA, zB, zC, zD, zE, zF, zG, reduceCtorEq, zH, zI, zJ, zK, zL, encTy, lB]; all_goals fail_if_success guard_target =ₛ False) | (with_reducible first | ((first | refine seqVC_stepN rfl ?_ | refine AWP.seq ?_ | refine AWP.seqR (by kernel_rfl) ?_); intro K hK) | (apply hK; clear hK K) | refine AWP.block ?_ | (refine AWP.cond (by with_unfolding_all rfl) ?_ ?_ <;> intro h <;> (try simp only [zM, zN] at h) <;> try exact absurd h (by decide)) | refine AWP.skip ?_ | refine AWP.ret ?_ | refine AWP.exit ?_) | (refine Or.inr (Or.inr (vCallX.mk hn (by repeat (first | exact trivial | refine And.intro rfl ?_)) (by rfl) (by first | rfl | (simp only [newNames, List.all_cons, List.all_nil, go_sem, zA, zB, zC, zD, zE, zF, zG, reduceCtorEq, zH, zI, zJ, zK, zL, encTy, lB] <;> rfl)) (by rfl) (by rfl) ?_))) | (refine Or.inr (Or.inr (vCallX.mk hix (by repeat (first | exact trivial | refine And.intro rfl ?_)) (by rfl) (by first | rfl | (simp only [newNames, List.all_cons, List.all_nil, go_sem, zA, zB, zC, zD, zE, zF, zG, reduceCtorEq, zH, zI, zJ, zK, zL, encTy, lB] <;> rfl)) (by rfl) (by rfl) ?_))) | (with_reducible first | refine Or.inl ?_) | (clear hK K))
 all_goals (refine fin0 ?_; unfold joinL; rw [← hL]; rfl)
theorem mod_len (a n : Int) (hn : 1 ≤ n ∧ n ≤ 1000) : ∃ k : Nat, IntKind.i64.wrap ((IntKind.u64.wrap a).tmod (IntKind.u64.wrap n)) = (k : Int) ∧ (k : Int) < n ∧ IntKind.u64.wrap n ≠ 0 := by
 have hw : IntKind.u64.wrap n = n := by
  simp only [IntKind.wrap, IntKind.signed, IntKind.bits]
  simp
  omega
 have h0 : 0 ≤ IntKind.u64.wrap a := by
  simp only [IntKind.wrap, IntKind.signed, IntKind.bits]
  simp
  omega
 have h1 : 0 ≤ (IntKind.u64.wrap a).tmod n := Int.tmod_nonneg _ h0
 have h2 : (IntKind.u64.wrap a).tmod n < n := Int.tmod_lt_of_pos _ (by omega)
 rw [hw]
 refine ⟨((IntKind.u64.wrap a).tmod n).toNat, ?_, by omega, by omega⟩
 rw [w64 (by omega)]; omega
end Go.Proofs.YthbcdhfiibpeaaaGreat

