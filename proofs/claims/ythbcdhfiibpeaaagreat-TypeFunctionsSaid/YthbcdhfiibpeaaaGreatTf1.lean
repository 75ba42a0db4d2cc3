/- Lemmas of the proof. -/
import Derived.Test.YthbcdhfiibpeaaaGreatTy48
open List renaming length_map → lB
open Nat renaming reduceBEq → zA, reduceBNe → zB, reduceAdd → zC, reduceSub → zD, reduceMul → zE, reduceLeDiff → zF, reduceLT → zG, reduceEqDiff → zH
open Int renaming reduceToNat → zI, reduceLE → zJ, reduceLT → zK, reduceEq → zL
open Bool renaming not_eq_true' → zM, not_eq_false' → zN
set_option linter.unusedSimpArgs false
set_option linter.unusedVariables false
set_option maxRecDepth 20000
set_option maxHeartbeats 64000000
namespace Go.Sx
open Go.RowKit Go.ChangeShapes Go.WideShapes
variable {P : Program}
theorem rows_of (M : Mem0) (k : Nat) (p : List C → Prop) : ∀ (len : Nat) (l : List Value), len * k ≤ l.length → (∀ i, i < len → ∃ r, p r ∧ repRow M r ((l.drop (i * k)).take k) ∧ r.length = k) →
  ∃ rows : List (List C), rows.length = len ∧ (∀ x ∈ rows, p x) ∧ repRows M k rows (l.take (len * k))
 | 0, l, _, _ => ⟨[], rfl, by simp, by simp [repRows]⟩
 | len + 1, l, hl, h => by
  obtain ⟨r, h1, h2, h3⟩ := h 0 (by omega)
  have hk : (len + 1) * k = k + len * k := by rw [Nat.add_mul, Nat.one_mul, Nat.add_comm]
  obtain ⟨rows, g1, g2, g3⟩ := rows_of M k p len (l.drop k) (by simp; omega) (fun i hi => by
   obtain ⟨r, a, b, c⟩ := h (i + 1) (by omega)
   refine ⟨r, a, ?_, c⟩
   rw [List.drop_drop, show k + i * k = (i + 1) * k by rw [Nat.add_mul, Nat.one_mul, Nat.add_comm]]
   exact b)
  refine ⟨r :: rows, by simp [g1], ?_, ?_⟩
  ·intro x hx
   rcases List.mem_cons.1 hx with rfl | hx
   ·exact h1
   ·exact g2 x hx
  ·simp only [repRows]
   refine ⟨l.take k, (l.drop k).take (len * k), ?_, h3, by simpa using h2, g3⟩
   rw [hk, List.take_add]
section
variable {H : Type} {enc : TypeId × Value → H} {w : World} {base : Nat} {spare : Nat → Bool} {held : Bool}
theorem open_fields {L : List TypeId} {n : Nat} (ih : ∀ t cs x, t ∈ L → DataW.trod enc P w base spare held n t cs = some x → ∃ r, hasT P n t r ∧ repRow (fun b => w.heap[b]?) r cs ∧ r.length = P.cellsOf t) :
  ∀ (fs : List Field) (off tot : Nat) (cs : List Value), tiles P L off fs tot = true → cs.length = tot → off ≤ tot →
   (∀ (i : Nat) (f : Field), fs[i]? = some f → ∃ x, DataW.trod enc P w base spare held n f.type ((cs.drop f.offset).take (P.cellsOf f.type)) = some x) →
   ∃ parts : List (List C), parts.length = fs.length ∧ (∀ (i : Nat) (f : Field) (p : List C), fs[i]? = some f → parts[i]? = some p → hasT P n f.type p) ∧ repRow (fun b => w.heap[b]?) parts.flatten (cs.drop off) ∧ parts.flatten.length = tot - off
 | [], off, tot, cs, ht, hl, hle, h => by
  simp only [tiles, beq_iff_eq] at ht
  subst ht
  refine ⟨[], rfl, by simp, ?_, by simp⟩
  rw [List.drop_eq_nil_of_le (by omega)]
  simp [repRow]
 | f :: fs, off, tot, cs, ht, hl, hle, h => by
  simp only [tiles, Bool.and_eq_true, beq_iff_eq] at ht
  obtain ⟨⟨h1, h2⟩, h3⟩ := ht
  obtain ⟨x, hx⟩ := h 0 f rfl
  obtain ⟨r, a, b, c⟩ := ih f.type _ x (by simpa using h2) hx
  have hlen := repRow_length b
  rw [List.length_take, List.length_drop, c, h1] at hlen
  have hle2 : off + P.cellsOf f.type ≤ tot := by omega
  obtain ⟨parts, g1, g2, g3, g4⟩ := open_fields ih fs (off + P.cellsOf f.type) tot cs h3 hl hle2 (fun i f' hf => h (i + 1) f' (by simpa using hf))
  refine ⟨r :: parts, by simp [g1], ?_, ?_, by simp only [List.flatten_cons, List.length_append, g4, c]; omega⟩
  ·intro i f' p hf hp
   cases i with
   | zero => simp at hf hp; subst hf; subst hp; exact a
   | succ i => exact g2 i f' p (by simpa using hf) (by simpa using hp)
  ·simp only [List.flatten_cons]
   have : cs.drop off = (cs.drop off).take (P.cellsOf f.type) ++ cs.drop (off + P.cellsOf f.type) := by
    rw [← List.drop_drop, List.take_append_drop]
   rw [this]
   rw [h1] at b
   exact repRow_append b g3
theorem open_elems {L : List TypeId} {n e : Nat} (he : e ∈ L) (ih : ∀ t cs x, t ∈ L → DataW.trod enc P w base spare held n t cs = some x → ∃ r, hasT P n t r ∧ repRow (fun b => w.heap[b]?) r cs ∧ r.length = P.cellsOf t) :
  ∀ (k : Nat) (cs : List Value), cs.length = k * P.cellsOf e →
   (∀ i, i < k → ∃ x, DataW.trod enc P w base spare held n e ((cs.drop (i * P.cellsOf e)).take (P.cellsOf e)) = some x) →
   ∃ parts : List (List C), parts.length = k ∧ (∀ x ∈ parts, hasT P n e x) ∧ repRow (fun b => w.heap[b]?) parts.flatten cs ∧ parts.flatten.length = k * P.cellsOf e
 | 0, cs, hl, h => ⟨[], rfl, by simp, by
   have : cs = [] := List.length_eq_zero_iff.1 (by simpa using hl)
   subst this; simp [repRow], by simp⟩
 | k + 1, cs, hl, h => by
  have hk : (k + 1) * P.cellsOf e = P.cellsOf e + k * P.cellsOf e := by rw [Nat.add_mul, Nat.one_mul, Nat.add_comm]
  obtain ⟨x, hx⟩ := h 0 (by omega)
  obtain ⟨r, a, b, c⟩ := ih e _ x he hx
  obtain ⟨parts, g1, g2, g3, g4⟩ := open_elems he ih k (cs.drop (P.cellsOf e)) (by simp; omega) (fun i hi => by
   obtain ⟨x, hx⟩ := h (i + 1) (by omega)
   rw [List.drop_drop, show P.cellsOf e + i * P.cellsOf e = (i + 1) * P.cellsOf e by rw [Nat.add_mul, Nat.one_mul, Nat.add_comm]]
   exact ⟨x, hx⟩)
  refine ⟨r :: parts, by simp [g1], ?_, ?_, by simp only [List.flatten_cons, List.length_append, g4, c]; omega⟩
  ·intro x hx
   rcases List.mem_cons.1 hx with rfl | hx
   ·exact a
   ·exact g2 x hx
  ·simp only [List.flatten_cons]
   rw [show cs = cs.take (P.cellsOf e) ++ cs.drop (P.cellsOf e) from (List.take_append_drop ..).symm]
   refine repRow_append (by simpa using b) ?_
   simpa using g3
theorem open_cells {L : List TypeId} (hok : okAll P L = true) : ∀ (fuel : Nat) (t : TypeId) (cs : List Value) (x : DataW H × List MemPlace), t ∈ L → DataW.trod enc P w base spare held fuel t cs = some x →
  ∃ r, hasT P fuel t r ∧ repRow (fun b => w.heap[b]?) r cs ∧ r.length = P.cellsOf t
 | 0, t, cs, x, _, h => by simp [DataW.trod] at h
 | n + 1, t, cs, x, ht, h => by
  have ho : okAt P L t = true := List.all_eq_true.1 hok t ht
  have ih := fun t cs x h1 h2 => open_cells hok n t cs x h1 h2
  unfold okAt at ho
  unfold hasT
  split at ho
  ·rename_i k hu
   obtain ⟨m, rfl, rfl, hw⟩ := DataW.trod_int hu h
   try simp only [hu]
   exact ⟨_, ⟨m, rfl, hw⟩, by simp [repRow, C.rep], by simpa using (beq_iff_eq.1 ho).symm⟩
  ·rename_i hu
   obtain ⟨b, rfl, rfl⟩ := DataW.trod_bool hu h
   try simp only [hu]
   exact ⟨_, ⟨b, rfl⟩, by simp [repRow, C.rep], by simpa using (beq_iff_eq.1 ho).symm⟩
  ·rename_i hu
   obtain ⟨s, rfl, rfl, hs⟩ := DataW.trod_string hu h
   try simp only [hu]
   exact ⟨_, ⟨s.data.toList, rfl, by simpa using hs⟩, by simp [repRow, C.rep], by simpa using (beq_iff_eq.1 ho).symm⟩
  ·rename_i e hu
   try simp only [hu]
   simp only [Bool.and_eq_true, beq_iff_eq] at ho
   obtain ⟨h1, h2, h3⟩ := ho
   have he : e ∈ L := by simpa using h2
   have hpos : 0 < P.cellsOf e := by simpa using h3
   rcases DataW.trod_slice hu h with ⟨rfl, rfl⟩ | ⟨a, len, cap, elems, rest, m, hm, rfl, rfl, hb, hlc, hcm, hel, hat, _, _⟩
   ·refine ⟨_, ⟨[], rfl, by simp, by simp⟩, ?_, by simp [h1]⟩
    simp only [repRow, C.rep]
    exact ⟨_, [], rfl, ⟨none, 0, [], rfl, by simp, by simp, by simp [repRows], .inl trivial⟩, rfl⟩
   ·cases hm
    by_cases h0 : len = 0
    ·subst h0
     refine ⟨_, ⟨[], rfl, by simp, by simp⟩, ?_, by simp [h1]⟩
     simp only [repRow, C.rep]
     exact ⟨_, [], rfl, ⟨some a, cap, [], rfl, by simp, hcm, by simp [repRows], .inl trivial⟩, rfl⟩
    ·have get : ∀ i, i < len → ∃ ci x, w.cells? base (a.add (i * P.cellsOf e)) (P.cellsOf e) = some ci ∧ DataW.trod enc P w base spare held n e ci = some x := by
      intro i hi
      have := hat i hi
      rw [List.getElem?_eq_getElem (by omega)] at this
      obtain ⟨ci, e1, e2⟩ := Option.bind_eq_some_iff.1 this
      exact ⟨ci, _, e1, e2⟩
     obtain ⟨c0, x0, e0, _⟩ := get 0 (by omega)
     obtain ⟨l0, f0⟩ := cells?_spec e0
     have ha0 : a.add (0 * P.cellsOf e) = a := by simp [Addr.add]
     rw [ha0] at f0
     have hv0 := f0 0 hpos
     have haa : a.add 0 = a := by simp [Addr.add]
     rw [haa, List.getElem?_eq_getElem (by omega)] at hv0
     obtain ⟨hspot, c, et, fz, hheap, hc0⟩ := cell?_some hv0
     obtain ⟨ab, ao, asp⟩ := a
     simp only at hspot hheap hc0
     subst hspot
     have cellat : ∀ i ci, i < len → w.cells? base (Addr.add ⟨ab, ao, none⟩ (i * P.cellsOf e)) (P.cellsOf e) = some ci → ci = (c.toList.drop (ao + i * P.cellsOf e)).take (P.cellsOf e) := by
      intro i ci hi hci
      obtain ⟨l1, f1⟩ := cells?_spec hci
      apply List.ext_getElem?
      intro j
      by_cases hj : j < P.cellsOf e
      ·rw [← f1 j hj]
       have : (Addr.add (Addr.add ⟨ab, ao, none⟩ (i * P.cellsOf e)) j) = ⟨ab, ao + i * P.cellsOf e + j, none⟩ := by
        simp only [Addr.add]
        split <;> split <;> simp_all
       rw [this]
       simp only [World.cell?, hheap]
       rw [List.getElem?_take, if_pos hj, List.getElem?_drop]
       simp
      ·rw [List.getElem?_eq_none (by omega), List.getElem?_eq_none (by simp; omega)]
     have hsz : ao + len * P.cellsOf e ≤ c.toList.length := by
      obtain ⟨ci, x, e1, e2⟩ := get (len - 1) (by omega)
      have := cellat _ _ (by omega) e1
      have h3 := (cells?_spec e1).1
      rw [this] at h3
      simp only [List.length_take, List.length_drop] at h3
      have : len * P.cellsOf e = (len - 1) * P.cellsOf e + P.cellsOf e := by
       obtain ⟨q, rfl⟩ : ∃ q, len = q + 1 := ⟨len - 1, by omega⟩
       simp [Nat.add_mul]
      omega
     obtain ⟨rows, g1, g2, g3⟩ := rows_of (fun b => w.heap[b]?) (P.cellsOf e) (hasT P n e) len (c.toList.drop ao) (by simp only [List.length_drop]; omega) (fun i hi => by
      obtain ⟨ci, x, e1, e2⟩ := get i hi
      obtain ⟨r, q1, q2, q3⟩ := ih e ci x he e2
      rw [cellat i ci hi e1, ← List.drop_drop] at q2
      exact ⟨r, q1, q2, q3⟩)
     refine ⟨_, ⟨rows, rfl, by omega, g2⟩, ?_, by simp [h1]⟩
     simp only [repRow, C.rep]
     refine ⟨_, [], rfl, ⟨some ⟨ab, ao, none⟩, cap, _, by rw [g1], by omega, hcm, g3, .inr ⟨ab, ao, rfl, c, et, fz, c.toList.take ao, (c.toList.drop ao).drop (len * P.cellsOf e), hheap, ?_, ?_⟩⟩, rfl⟩
     ·rw [List.take_append_drop, List.take_append_drop]
     ·rw [List.length_take]; omega
  ·rename_i fs hu
   try simp only [hu]
   obtain ⟨xs, m, hm, rfl, hl, hxl, hf⟩ := DataW.trod_struct hu h
   cases hm
   obtain ⟨parts, g1, g2, g3, g4⟩ := open_fields (P := P) (L := L) (n := n) ih fs.toList 0 (P.cellsOf t) cs ho hl (by omega) (fun i f hif => by
    have h1 : fs[i]? = some f := by simpa using hif
    have hlt := (Array.getElem?_eq_some_iff.1 h1).1
    refine ⟨xs[i]'(by omega), ?_⟩
    rw [hf i f h1, List.getElem?_eq_getElem])
   exact ⟨_, ⟨parts, rfl, by simpa using g1, fun i f p h1 h2 => g2 i f p (by simpa using h1) h2⟩, by simpa using g3, by simpa using g4⟩
  ·rename_i k e hu
   try simp only [hu]
   simp only [Bool.and_eq_true, beq_iff_eq] at ho
   obtain ⟨xs, m, hm, rfl, hl, hxl, hf⟩ := DataW.trod_array hu h
   cases hm
   obtain ⟨parts, g1, g2, g3, g4⟩ := open_elems (P := P) (L := L) (n := n) (e := e) (by simpa using ho.2) ih k cs (by rw [hl, ho.1]) (fun i hi => by
    refine ⟨xs[i]'(by omega), ?_⟩
    rw [hf i hi, List.getElem?_eq_getElem])
   exact ⟨_, ⟨parts, rfl, g1, g2⟩, g3, by rw [g4, ho.1]⟩
  ·cases ho
theorem open_arg {L : List TypeId} (hok : okAll P L = true) {r : Reach} {b0 : Nat} {t : TypeId} {v : Value} {d : DataW H} {ps : List MemPlace} (ht : t ∈ L) (hval : Value.okWide P w r b0 t v) (hd : DataW.Trod enc P w base spare held t v d ps) :
  ∃ n row, hasT P n t row ∧ ∀ ν, (argT P t row).rep (fun b => w.heap[b]?) ν v := by
 obtain ⟨fuel, hf⟩ := hd
 obtain ⟨row, h1, h2, h3⟩ := open_cells hok fuel t _ _ ht hf
 refine ⟨fuel, row, h1, fun ν => ?_⟩
 have ho : okAt P L t = true := List.all_eq_true.1 hok t ht
 unfold Value.okWide at hval
 unfold argT aggT
 unfold okAt at ho
 have one : P.cellsOf t = 1 → (∀ cs, v = .agg cs → False) → (match row with
   | [c] => T.one (.dat c)
   | _ => .un).rep (fun b => w.heap[b]?) ν v := by
  intro h hna
  have hv : v.cells.toList = [v] := by
   cases v <;> first | rfl | exact (hna _ rfl).elim
  rw [hv] at h2
  match row, h3, h2 with
  | [c], _, h2 =>
   simp only [repRow] at h2
   obtain ⟨v', vs', e, h5, h6⟩ := h2
   cases e
   simpa only [T.rep, Cell.rep] using h5
  | [], h3, _ => simp at h3; omega
  | _ :: _ :: _, h3, _ => simp at h3; omega
 split at ho
 ·rename_i k hu
  simp only [hu] at hval ⊢
  exact one (beq_iff_eq.1 ho) (fun cs e => by subst e; simp [Cell.okWide, hu, Cell.ok] at hval)
 ·rename_i hu
  simp only [hu] at hval ⊢
  exact one (beq_iff_eq.1 ho) (fun cs e => by subst e; simp [Cell.okWide, hu, Cell.ok] at hval)
 ·rename_i hu
  simp only [hu] at hval ⊢
  exact one (beq_iff_eq.1 ho) (fun cs e => by subst e; simp [Cell.okWide, hu, Cell.ok] at hval)
 ·rename_i e hu
  simp only [hu] at hval ⊢
  simp only [Bool.and_eq_true, beq_iff_eq] at ho
  exact one ho.1 (fun cs e => by subst e; simp [Cell.okWide, hu, Cell.ok] at hval)
 ·rename_i fs hu
  simp only [hu] at hval ⊢
  obtain ⟨cs, rfl, _, _⟩ := hval
  simp only [Option.map_some, isAggD, Option.getD_some, cond_true, T.rep]
  exact ⟨cs, rfl, h2⟩
 ·rename_i k e hu
  simp only [hu] at hval ⊢
  obtain ⟨cs, rfl, _, _⟩ := hval
  simp only [Option.map_some, isAggD, Option.getD_some, cond_true, T.rep]
  exact ⟨cs, rfl, h2⟩
 ·cases ho
def argsOk (P : Program) : List TypeId → List T → Prop
  | [], us => us = []
  | t :: ts, us => ∃ n row us', us = argT P t row :: us' ∧ hasT P n t row ∧ argsOk P ts us'
theorem open_all {L : List TypeId} (hok : okAll P L = true) {r : Reach} {b0 : Nat} : ∀ {ts : List TypeId} {vs : List Value} {ds : List (DataW H)} {ps : List MemPlace}, (∀ t ∈ ts, t ∈ L) → DataW.TrodAll enc P w base spare held ts vs ds ps →
  (∀ (j : Nat) t v, ts[j]? = some t → vs[j]? = some v → Value.okWide P w r b0 t v) → ∃ us, argsOk P ts us ∧ ∀ ν, T.reps (fun b => w.heap[b]?) ν us vs
 | [], vs, ds, ps, _, h, _ => by
  cases vs <;> cases ds <;> simp [DataW.TrodAll] at h
  exact ⟨[], rfl, fun ν => by simp [T.reps]⟩
 | t :: ts, vs, ds, ps, hts, h, hval => by
  obtain ⟨v, vs', d, ds', p, q, rfl, rfl, rfl, h1, h2⟩ := trodAll_cons h
  obtain ⟨n, row, h3, h4⟩ := open_arg hok (hts t (by simp)) (hval 0 t v rfl rfl) h1
  obtain ⟨us, h5, h6⟩ := open_all hok (fun t ht => hts t (List.mem_cons_of_mem _ ht)) h2 (fun j t v hj hv => hval (j + 1) t v (by simpa using hj) (by simpa using hv))
  refine ⟨argT P t row :: us, ⟨n, row, us, rfl, h3, h5⟩, fun ν => ?_⟩
  simp only [T.reps]
  exact ⟨v, vs', rfl, h4 ν, h6 ν⟩
end
theorem law_post {H : Type} {enc : TypeId × Value → H} {C : Checked} {F : FuncId} {fn : Func} {s : ChangeSpec} {L : List TypeId} {tb : TypeId} {apart fresh handsOn again : Bool}
  (hlaid : laidOutB C.prog = true) (hok : okAll C.prog L = true) (hts : fn.params.toList.all (fun t => L.contains t && C.prog.readableRec t && decide (t < C.prog.types.size)) = true)
  (hvars : s.vars = []) (hres : fn.resultTypes = #[tb]) (hbool : C.prog.underlying tb = some .bool)
  (hspec : ∀ (ds : List (DataW H)), ds.length = fn.params.toList.length → s.fn H ds = { results := [.lit (.bool true)], args := ds })
  (hwalk : ∀ us, argsOk C.prog fn.params.toList us → PC C.prog F us (Bo true))
  (W : World) (hg : GlobOk (fun b => W.heap[b]?)) (base : Nat) (args : Array Value) (ds gs : List (DataW H)) (before : List MemPlace)
  (hval : ∀ (j : Nat) t v, fn.params[j]? = some t → args[j]? = some v → Value.okWide C.prog W .any base t v)
  (hW : DataW.Whole enc C.prog fn.params.toList s.vars apart W args.toList ds gs before) :
  Calls C.prog F args W fun e W' => ∃ v, e = .returned v ∧ s.post enc C.prog fn apart fresh handsOn again W args v W' := by
 have hW' := hW
 obtain ⟨p, q, hA, hV, rfl, hfz, hnd⟩ := hW
 have hgs : gs = [] ∧ q = [] := by
  rw [hvars] at hV
  cases gs <;> simp [DataW.TrodVars] at hV
  exact ⟨rfl, hV⟩
 obtain ⟨rfl, rfl⟩ := hgs
 have hin : ∀ t ∈ fn.params.toList, t ∈ L ∧ C.prog.readableRec t = true ∧ t < C.prog.types.size := fun t ht => by
  have := List.all_eq_true.1 hts t ht
  simp only [Bool.and_eq_true, decide_eq_true_eq] at this
  exact ⟨by simpa using this.1.1, this.1.2, this.2⟩
 obtain ⟨us, hus, hreps⟩ := open_all hok (fun t ht => (hin t ht).1) hA (fun j t v hj hv => hval j t v (by simpa using hj) (by simpa using hv))
 have hlen : ds.length = fn.params.toList.length := by
  have : ∀ {ts : List TypeId} {vs : List Value} {ds : List (DataW H)} {ps : List MemPlace}, DataW.TrodAll enc C.prog W 0 (fun _ => true) true ts vs ds ps → ds.length = ts.length := by
   intro ts
   induction ts with
   | nil => intro vs ds ps h; cases vs <;> cases ds <;> simp [DataW.TrodAll] at h; rfl
   | cons t ts ih =>
    intro vs ds ps h
    obtain ⟨v, vs', d, ds', p, q, rfl, rfl, rfl, h1, h2⟩ := trodAll_cons h
    simp [ih h2]
  exact this hA
 have hs : s.fn H (ds ++ []) = { results := [.lit (.bool true)], args := ds } := by rw [List.append_nil]; exact hspec ds hlen
 have hcall := PC.calls (hwalk us hus) W hg args.toList (hreps _)
 refine Calls.mono hcall fun e W' ⟨he, hos, hout, hu⟩ => ?_
 subst he
 have hlt : ∀ x ∈ p, x.block < W.heap.size := fun x hx => hW'.lt x (by simpa using hx)
 refine ⟨_, rfl, post_of_old (pa := p) (pv := []) hW' ?_ ?_ ?_ rfl (keptBut_same _ hos hout hu) (fun a ha => by simp only [World.frozen?, hu a.block ha]) (ok_one hres rfl (okWide_bool_mk hbool _))⟩
 ·intro b sp hd
  rw [hs, hres]
  exact trodAll_cons_mk (shut_bool hbool _) trodAll_mk0
 ·intro sp hsp
  rw [hs]
  refine trodAll_stays hlaid (fun t ht => (hin t ht).2) hA (fun x hx => ?_) (fun x hx => hsp x (by simpa using hx))
  have h1 := hu x.block (hlt x hx)
  cases x with
  | cell b off => simp only [MemPlace.block] at h1; simp only [World.sameAt, World.cell?, h1]
  | map b => simp only [MemPlace.block] at h1; simp only [World.sameAt, h1]
 ·intro sp hsp
  rw [hs, hvars]
  simp [DataW.TrodVars]
end Go.Sx
namespace Go.Sx
variable {P : Program}
theorem arg_int {n : Nat} {t : TypeId} {row : List C} (hu : P.underlying t = some (.int .i64)) (ha : aggT P t = some false) (h : hasT P n t row) : ∃ m, argT P t row = I .i64 m ∧ -9223372036854775808 ≤ m ∧ m ≤ 9223372036854775807 := by
  obtain ⟨m, rfl, h1⟩ := cells_int hu h
  exact ⟨m, by simp only [argT, ha]; rfl, h1⟩
end Go.Sx
namespace Go.Proofs.YthbcdhfiibpeaaaGreat
open Go Go.Sx
theorem chainC_zero {a b : Int} : chainC a b = 0 ↔ a = 0 ∧ b = 0 := by
  unfold chainC
  by_cases h : a = 0 <;> simp [h]
end Go.Proofs.YthbcdhfiibpeaaaGreat
namespace Go.Sx
variable {P : Program} {n : Nat} {σ : AS} {Q : Exit → AS → Prop}
theorem effN_sound {o : Oper} {env : Env} {B : Bx} {K : T → Bx → Prop} (h : effN P o env B K) : ∃ t B', OpG P o env B (dstN o) t B' ∧ Env.fresh (dstN o) env = true ∧ K t B' := by
 unfold effN at h
 split at h
 ·rename_i f args ts ho
  split at h
  ·rename_i g caps us hf hu
   exact vCallN_sound (args := args.toList) (by rw [ho]) hf hu h
  ·exact h.elim
 ·exact h.elim
def genVN (P : Program) (all : List Oper) (es ns : List Nat) (fixB : Bx) : Nat → List (Nat × Nat) → List Oper → Env → Bx → (Env → Bx → Prop) → Prop
  | _, _, [], env, B, K => K env B
  | i, gs, o :: os, env, B, K => guardT all env o
      (bif memN i ns then effN P o env B fun t B' => bxSub B' fixB ∧ FreshOr all i t gs ∧ genVN P all es ns fixB (i + 1) ((i, dstN o) :: gs) os (putE env o.dst t) B' K
       else bif memN i es then effVC P o env B fun t B' => bxSub B' fixB ∧ FreshOr all i t gs ∧ genVN P all es ns fixB (i + 1) (gsNext i o gs) os (putE env o.dst t) B' K
       else pureVC P o env fixB fun t => FreshOr all i t gs ∧ genVN P all es ns fixB (i + 1) gs os (putE env o.dst t) B K)
      (genVN P all es ns fixB (i + 1) gs os (putE env o.dst undefT) B K)
theorem genN_trace (all : List Oper) (es ns : List Nat) (hns : ∀ i, memN i ns = true → memN i es = true) (fixB : Bx) (K : Env → Bx → Prop) : ∀ (l : List Oper) (i0 : Nat) (gs : List (Nat × Nat)) (env : Env) (B : Bx), dstsOk n l = true → (∀ x ∈ fixB, x ∈ B) → genVN P all es ns fixB i0 gs l env B K →
  ∃ (t : Nat → T) (b : Nat → Bx) (e : Nat → Bool) (jn : Nat → Option Nat), b 0 = B ∧ (∀ i o, l[i]? = some o → OSpecG P n all fixB o (envA l t (fun _ => true) env i) (b i) (t i) (b (i + 1)) (e i) (jn i)) ∧
   (∀ i, i ≤ l.length → ∀ x ∈ fixB, x ∈ b i) ∧ (∀ i, e i = true → memN (i0 + i) es = true) ∧ (∀ i, i < l.length → FreshOr all (i0 + i) (t i) gs) ∧
   (∀ g k j, jn g = some j → g < k → k < l.length → (t k).fresh j = true ∨ depB all (i0 + k) (i0 + g) = true) ∧ K (envA l t (fun _ => true) env l.length) (b l.length)
 | [], i0, gs, env, B, _, hB, h => ⟨fun _ => undefT, fun _ => B, fun _ => false, fun _ => none, rfl, fun i o ho => by simp at ho, fun i _ => hB, fun i h => (by cases h), fun i hi => by simp at hi, fun _ _ _ h => (by cases h), h⟩
 | o :: os, i0, gs, env, B, hd, hB, h => by
  simp only [dstsOk, List.all_cons, Bool.and_eq_true] at hd
  obtain ⟨⟨hd1, hd2⟩, hd3⟩ := hd
  have step : ∃ (t0 : T) (B' : Bx) (e0 : Bool) (j0 : Option Nat) (gs' : List (Nat × Nat)), OSpecG P n all fixB o env B t0 B' e0 j0 ∧ (∀ x ∈ fixB, x ∈ B') ∧ (e0 = true → memN i0 es = true) ∧ FreshOr all i0 t0 gs ∧
    (∀ p ∈ gs, p ∈ gs') ∧ (∀ j, j0 = some j → (i0, j) ∈ gs') ∧ genVN P all es ns fixB (i0 + 1) gs' os (putE env o.dst t0) B' K := by
   rcases guardT_true h with ⟨hg, hx⟩ | ⟨hg, hx⟩
   ·cases hn : memN i0 ns with
    | true =>
     rw [hn] at hx
     simp only [cond_true] at hx
     obtain ⟨t, B', hop, hfr, h1, h2, h3⟩ := effN_sound hx
     exact ⟨t, B', true, some (dstN o), (i0, dstN o) :: gs, ⟨hd1, .inl ⟨hg, .inr (.inr ⟨dstN o, rfl, rfl, hop, Nat.le_of_ble_eq_true hd2, hfr⟩)⟩⟩, bxSub_spec h1, fun _ => hns i0 hn, h2, fun p hp => List.mem_cons_of_mem _ hp, fun j hj => by cases hj; exact List.mem_cons_self, h3⟩
    | false =>
    rw [hn] at hx
    simp only [cond_false] at hx
    cases hm : memN i0 es with
    | true =>
     rw [hm] at hx
     simp only [cond_true] at hx
     have sub : ∀ p ∈ gs, p ∈ gsNext i0 o gs := fun p hp => by unfold gsNext; cases makes o <;> simp [hp]
     rcases effVC_makes hx with ⟨t, hop, h1, h2, h3⟩ | ⟨t, B', hop, h1, h2, h3⟩ | ⟨hmk, t, B', hop, hfr, h1, h2, h3⟩
     ·refine ⟨t, B, true, none, _, ⟨hd1, .inl ⟨hg, .inr (.inl ⟨rfl, rfl, hop.e⟩)⟩⟩, hB, fun _ => rfl, h2, sub, fun j hj => (by cases hj), h3⟩
     ·exact ⟨t, B', true, none, _, ⟨hd1, .inl ⟨hg, .inr (.inl ⟨rfl, rfl, hop⟩)⟩⟩, bxSub_spec h1, fun _ => rfl, h2, sub, fun j hj => (by cases hj), h3⟩
     ·refine ⟨t, B', true, some (dstN o), _, ⟨hd1, .inl ⟨hg, .inr (.inr ⟨dstN o, rfl, rfl, hop, Nat.le_of_ble_eq_true hd2, hfr⟩)⟩⟩, bxSub_spec h1, fun _ => rfl, h2, sub, fun j hj => ?_, h3⟩
      cases hj
      unfold gsNext; rw [hmk]; simp
    | false =>
     rw [hm] at hx
     simp only [cond_false] at hx
     obtain ⟨t, hop, h2, h3⟩ := pureVC_sound hx
     exact ⟨t, B, false, none, gs, ⟨hd1, .inl ⟨hg, .inl ⟨rfl, rfl, hop, rfl⟩⟩⟩, hB, fun h => (by cases h), h2, fun _ h => h, fun j hj => (by cases hj), h3⟩
   ·exact ⟨undefT, B, false, none, gs, ⟨hd1, .inr ⟨hg, rfl, rfl, rfl, rfl⟩⟩, hB, fun h => (by cases h), FreshOr_un gs, fun _ h => h, fun j hj => (by cases hj), hx⟩
  obtain ⟨t0, B', e0, j0, gs', hspec, hfix, he0, hfr0, hsub, hj0, hk⟩ := step
  obtain ⟨t, b, e, jn, hb0, hs, hf, he, hfr, hjj, hK⟩ := genN_trace all es ns hns fixB K os (i0 + 1) gs' _ B' hd3 hfix hk
  refine ⟨fun i => match i with | 0 => t0 | i + 1 => t i, fun i => match i with | 0 => B | i + 1 => b i, fun i => match i with | 0 => e0 | i + 1 => e i, fun i => match i with | 0 => j0 | i + 1 => jn i, rfl, ?_, ?_, ?_, ?_, ?_, ?_⟩
  ·intro i o' ho
   cases i with
   | zero => simp at ho; subst ho; rw [← hb0] at hspec; exact hspec
   | succ i =>
    rw [envA_cons]
    exact hs i o' (by simpa using ho)
  ·intro i hi
   cases i with
   | zero => exact hB
   | succ i => exact hf i (by simpa using hi)
  ·intro i hi
   cases i with
   | zero => exact he0 hi
   | succ i => have := he i hi; rwa [show i0 + 1 + i = i0 + (i + 1) by omega] at this
  ·intro i hi
   cases i with
   | zero => exact hfr0
   | succ i =>
    have := hfr i (by simpa using hi)
    rw [show i0 + 1 + i = i0 + (i + 1) by omega] at this
    exact gen_trace.FreshOr_sub hsub this
  ·intro g k j hg hgk hk'
   cases k with
   | zero => omega
   | succ k =>
    cases g with
    | zero =>
     have := FreshOr_spec (hfr k (by simpa using hk')) (i0, j) (hj0 j hg)
     rwa [show i0 + 1 + k = i0 + (k + 1) by omega] at this
    | succ g =>
     have := hjj g k j hg (by omega) (by simpa using hk')
     rwa [show i0 + 1 + k = i0 + (k + 1) by omega, show i0 + 1 + g = i0 + (g + 1) by omega] at this
  ·rw [List.length_cons, envA_cons]; exact hK
theorem AWP.genN {id : Nat} {l : List Oper} {env : Env} {B : Bx} (es ns ks : List Nat) (hm : P.follows .mixedOrders = true) (hl : (genOk n l es && ns.all (fun i => memN i es)) = true)
  (h : ∀ K : Env → Bx → Prop, (∀ e b, Q .normal ⟨e, b⟩ → K e b) → genVN P l es ns (Bx.outs B ks) 0 [] l env B K) : AWP P n (.region id l.toArray true) ⟨env, B⟩ Q := by
 rw [Bool.and_eq_true] at hl
 obtain ⟨hl, hns⟩ := hl
 have hns' : ∀ i, memN i ns = true → memN i es = true := fun i hi => List.all_eq_true.1 hns i (memN_spec hi)
 simp only [genOk, Bool.and_eq_true] at hl
 intro κ M0 a w hs
 obtain ⟨hback, hpairs, _⟩ := lex_pairs hl.1
 obtain ⟨t, b, e, jn, hb0, hsp, hf, he, _, hjj, hK⟩ := genN_trace l es ns hns' (Bx.outs B ks) _ l 0 [] env B hl.2.1 (fun x hx => Bx.outs_sub hx) (h (fun e b => Q .normal ⟨e, b⟩) (fun _ _ k => k))
 have hord : EffOrdG l e := fun i k hik hk hei hek => esOk_spec hl.2.2 i (memN_spec (by simpa using he i hei)) k (memN_spec (by simpa using he k hek)) hik
 refine wp_region_any hm ?_
 have hsz : l.toArray.size = l.length := by simp
 rw [hsz]
 have hrep : ∀ j, (Array.replicate l.length false).getD j false = false := fun j => rep_getD _ j
 refine gen_sound hback hpairs hord hsp hf (fun g k j hg hgk hk => by have := hjj g k j hg hgk hk; simpa using this) (fun a w s => ⟨_, s, hK⟩) l.length _ a _ ?_ (mid_start (σ := ⟨env, B⟩) hb0 hs)
 unfold cnt
 have hfil : (List.range l.length).filter (fun i => !(Array.replicate l.length false).getD i false) = List.range l.length := by
  rw [List.filter_eq_self]
  intro x _
  simp only [hrep x, Bool.not_false]
 rw [hfil, List.length_range]
theorem genNVC_nil {all : List Oper} {es ns : List Nat} {fixB : Bx} {i : Nat} {gs : List (Nat × Nat)} {env : Env} {B : Bx} {K : Env → Bx → Prop} (h : K env B) : genVN P all es ns fixB i gs [] env B K := h
theorem genNVC_stepN {all os : List Oper} {es ns : List Nat} {fixB : Bx} {i : Nat} {gs : List (Nat × Nat)} {o : Oper} {env : Env} {B : Bx} {K : Env → Bx → Prop} (hg : o.guard = none)
  (h : ∀ K' : List (Nat × Nat) → Env → Bx → Prop, (∀ gs e b, genVN P all es ns fixB (i + 1) gs os e b K → K' gs e b) → genNOpVC P all es ns fixB i gs o env B K') : genVN P all es ns fixB i gs (o :: os) env B K :=
 guardT_none hg (h (fun gs e b => genVN P all es ns fixB (i + 1) gs os e b K) fun _ _ _ q => q)
end Go.Sx
namespace Go.Proofs.YthbcdhfiibpeaaaGreat
open Go Go.Sx
def funT (ts : List TyD) (t : TyD) : TyD := bif decide ((4 : Int) < (ts.length : Int)) then noneTy else overTy 14 (ts ++ [t])
theorem cloneTy_n (l : List TyD) (hl : l.length ≤ 100000000) : PCN Tryz.prog 54 [Tys l] (.one (.own 0 l.length)) (.row 2 (l.map encTy)) := by
 refine PCN.of_body 7 Tryz.func54 rfl (by decide) Tryz.ntmps54 Tryz.results54 rfl rfl ?_
 refine AWP.ghQ ?_
 repeat' (first | ( refine AWP.nilR (e := 26) rfl (by decide) (by decide) rfl (fun hnil => ?_) ?_) | (simp only [go_sem, zA, zB, zC, zD, zE, zF, zG, reduceCtorEq, zH, zI, zJ, zK, zL, lB]; all_goals fail_if_success guard_target =ₛ False) | (with_reducible first | ((first | refine seqVC_stepN rfl ?_ | refine AWP.seq ?_ | refine AWP.seqR (by kernel_rfl) ?_); intro K hK) | (apply hK; clear hK K) | refine AWP.block ?_ | (refine AWP.cond (by with_unfolding_all rfl) ?_ ?_ <;> intro h <;> (try simp only [zM, zN] at h) <;> try exact absurd h (by decide)) | refine AWP.skip ?_ | refine AWP.ret ?_ | refine AWP.exit ?_ | (refine Or.inr (show vBuildOwn _ 5 _ _ _ _ _ _ from ?_); unfold vBuildOwn; with_reducible refine Or.inr ?_; simp only [vBuildRow, go_sem, zA, zB, zC, zD, zE, zF, zG, reduceCtorEq, zH, zI, zJ, zK, zL, lB]) | refine ⟨(by omega : _ ≤ _), ?_⟩ | refine Or.inl ?_) | (clear hK K))
 ·refine GhQ.step (Gh.nilrow 2 7 rfl rfl rfl rfl) ?_
  refine ⟨_, Gh.refl _, ?_⟩
  have : l = [] := by simpa using hnil
  subst this
  simp only [go_sem, zA, zB, zC, zD, zE, zF, zG, reduceCtorEq, zH, zI, zJ, zK, zL, List.map_nil, List.length_nil]
  first | exact ⟨rfl, fun x hx => hx⟩ | exact fun x hx => hx
 ·refine ⟨_, Gh.refl _, ?_⟩
  simp only [go_sem, zA, zB, zC, zD, zE, zF, zG, reduceCtorEq, zH, zI, zJ, zK, zL, lB]
  first | exact ⟨rfl, fun x hx => hx⟩ | exact fun x hx => hx
theorem tys_snoc (l : List TyD) (t : TyD) : l.map encTy ++ [[.sl 8 (t.1.map encNode), .int .i64 t.2]] = (l ++ [t]).map encTy := by rw [List.map_append]; rfl
theorem function_c (ts : List TyD) (t : TyD) {B : Nat} (hts : TyS B (ts ++ [t])) (hl : ts.length ≤ 1000000) : PC Tryz.prog 15 [Tys ts, Yp t] (Yp (funT ts t)) := by
 have hcl := cloneTy_n ts (by omega)
 have hov := over_f 14 (ts ++ [t]) hts
 unfold funT
 cases h : decide ((4 : Int) < (ts.length : Int))
 ·
  refine PCB.of_body Tryz.func15 rfl (by decide) Tryz.ntmps15 Tryz.results15 rfl rfl rfl ?_ rfl rfl
  repeat' (first | (simp only [go_sem, zA, zB, zC, zD, zE, zF, zG, reduceCtorEq, zH, zI, zJ, zK, zL, encTy, lB, h, tys_snoc]; all_goals fail_if_success guard_target =ₛ False) | (with_reducible first | ((first | refine seqVC_stepN rfl ?_ | refine AWP.seq ?_ | refine AWP.seqR (by kernel_rfl) ?_ | refine parVC_stepN rfl ?_ | refine parEVC_stepN rfl ?_ | refine genVC_stepN rfl ?_ | refine genNVC_stepN rfl ?_); intro K hK) | (apply hK; clear hK K) | refine genNVC_nil ?_ | refine AWP.block ?_ | (refine AWP.cond (by with_unfolding_all rfl) ?_ ?_ <;> intro h <;> (try simp only [zM, zN] at h) <;> try exact absurd h (by decide)) | refine AWP.skip ?_ | refine AWP.ret ?_ | refine AWP.exit ?_ | refine ⟨_, _, hcl, ?_⟩ | refine ⟨_, hov, ?_⟩ | (refine ⟨(by first | omega | (simp only [List.length_append, lB, List.length_take, List.length_drop, List.length_cons, List.length_nil, List.length_replicate]; omega) : _ ≤ _), ?_⟩) | refine ⟨by omega, by omega, ?_⟩ | (refine AWP.genN (id := 3) [1,4,5,6] [1] [4] mixed (by kernel_rfl) fun K hK => ?_; simp only [Bx.outs, Bx.drop, cond_true, cond_false, Nat.reduceBEq, go_sem]) | refine AWP.parR mixed (by kernel_rfl) fun K hK => ?_ | refine ⟨(by kernel_rfl : depB _ _ _ = true), ?_⟩ | refine Or.inl ?_) | (clear hK K))
  all_goals (refine fin0 ?_; rfl)
 ·
  refine PCB.of_body Tryz.func15 rfl (by decide) Tryz.ntmps15 Tryz.results15 rfl rfl rfl ?_ rfl rfl
  repeat' (first | (simp only [go_sem, zA, zB, zC, zD, zE, zF, zG, reduceCtorEq, zH, zI, zJ, zK, zL, encTy, lB, h]; all_goals fail_if_success guard_target =ₛ False) | (with_reducible first | ((first | refine seqVC_stepN rfl ?_ | refine AWP.seq ?_ | refine AWP.seqR (by kernel_rfl) ?_ | refine parVC_stepN rfl ?_ | refine parEVC_stepN rfl ?_ | refine genVC_stepN rfl ?_); intro K hK) | (apply hK; clear hK K) | refine AWP.block ?_ | (refine AWP.cond (by with_unfolding_all rfl) ?_ ?_ <;> intro h <;> (try simp only [zM, zN] at h) <;> try exact absurd h (by decide)) | refine AWP.skip ?_ | refine AWP.ret ?_ | refine AWP.exit ?_ | refine ⟨_, none_f, ?_⟩ | (refine AWP.segP (id := 3) 4 mixed (by kernel_rfl) fun K hK => ?_; simp only [List.take_succ_cons, List.take_zero, List.drop_succ_cons, List.drop_zero]) | refine AWP.parR mixed (by kernel_rfl) fun K hK => ?_ | refine ⟨(by kernel_rfl : depB _ _ _ = true), ?_⟩ | refine Or.inl ?_) | (clear hK K))
  all_goals (refine fin0 ?_; rfl)
end Go.Proofs.YthbcdhfiibpeaaaGreat
namespace Go.Proofs.YthbcdhfiibpeaaaGreat
open Go Go.Sx
theorem keyC_zero {a b : KeyD} : keyC a b = 0 ↔ a = b := by
  unfold keyC
  rw [chainC_zero, cmpI_zero, cmpB_zero]
  cases a; cases b; simp
end Go.Proofs.YthbcdhfiibpeaaaGreat
namespace Go.Proofs.YthbcdhfiibpeaaaGreat
open Go Go.Sx
theorem plainBs_all : ∀ l : List Val, plainBs l = l.all plainB
  | [] => by simp only [plainBs, List.all_nil]
  | v :: l => by simp only [plainBs, List.all_cons, plainBs_all l]
theorem plainB_eq (v : Val) : plainB v = (!(decide (v.kind = 9) || decide ((0 : Int) < (v.labels.length : Int))) && v.kids.all plainB) := by cases v; simp only [plainB, plainBs_all]
theorem pairM_mem {f : Src → Val × Src} {p : Val → Prop} (hf : ∀ s : Src, p (f s).1) : ∀ (n : Nat) (s : Src), ∀ x ∈ (pairM f n s).1.2, p x
 | 0, s, x, h => by simp [pairM] at h
 | n + 1, s, x, h => by
  simp only [pairM, List.mem_cons] at h
  rcases h with rfl | h
  ·exact hf _
  ·exact pairM_mem hf n _ x h
theorem cmpI_anti (a b : Int) : cmpI b a = - cmpI a b := by
 unfold cmpI
 rcases Int.lt_trichotomy a b with h | h | h
 ·have h1 : ¬ b < a := by omega
  simp [h, h1]
 ·subst h; simp
 ·have h1 : ¬ a < b := by omega
  simp [h, h1]
theorem cmpB_anti : ∀ a b : List UInt8, Lib.compareBytes b a = - Lib.compareBytes a b
 | [], [] => by simp [Lib.compareBytes]
 | [], _ :: _ => by simp [Lib.compareBytes]
 | _ :: _, [] => by simp [Lib.compareBytes]
 | x :: a, y :: b => by
  have ih := cmpB_anti a b
  simp only [Lib.compareBytes]
  by_cases h1 : x < y
  ·have h2 : ¬ y < x := fun h => absurd (UInt8.lt_trans h1 h) (UInt8.lt_irrefl x)
   simp [h1, h2]
  ·by_cases h2 : y < x
   ·simp [h1, h2]
   ·simp [h1, h2, ih]
theorem keyC_anti (a b : KeyD) : keyC b a = - keyC a b := by
  unfold keyC chainC
  rw [cmpI_anti a.kind b.kind, cmpB_anti a.text b.text]
  have : decide (-cmpI a.kind b.kind = 0) = decide (cmpI a.kind b.kind = 0) := by rw [← Bool.coe_iff_coe]; simp
  rw [this]
  cases decide (cmpI a.kind b.kind = 0) <;> rfl
theorem ascB_cons {α : Type} (f : α → α → Int) (x : α) (l : List α) : ascB f (x :: l) = ((match l with | [] => true | y :: _ => decide (f x y < 0)) && ascB f l) := by
  cases l <;> rfl
theorem asc_put {α : Type} (f : α → α → Int) (x : α) : ∀ l : List α, ascB f l = true → (∀ y, l[tw (fun y => decide (f y x < 0)) l]? = some y → f x y < 0) → ascB f (putAt (tw (fun y => decide (f y x < 0)) l) x l) = true
 | [], _, _ => rfl
 | y :: l, ha, hx => by
  rw [ascB_cons] at ha
  simp only [Bool.and_eq_true] at ha
  unfold tw at hx ⊢
  cases hy : decide (f y x < 0) with
  | false =>
   simp only [hy, cond_false, List.getElem?_cons_zero, Option.some.injEq, forall_eq'] at hx ⊢
   show ascB f (x :: y :: l) = true
   rw [ascB_cons, ascB_cons]
   simp only [hx, decide_true, Bool.true_and, Bool.and_eq_true]
   exact ha
  | true =>
   simp only [hy, cond_true] at hx ⊢
   rw [Nat.add_comm] at hx ⊢
   simp only [List.getElem?_cons_succ] at hx
   have ih := asc_put f x l ha.2 hx
   show ascB f (y :: putAt (tw (fun y => decide (f y x < 0)) l) x l) = true
   rw [ascB_cons, ih, Bool.and_true]
   have hyx : f y x < 0 := of_decide_eq_true hy
   cases l with
   | nil => exact hy
   | cons z l =>
    unfold tw
    cases hz : decide (f z x < 0) with
    | false => exact hy
    | true =>
     simp only [cond_true]
     rw [Nat.add_comm]
     exact ha.1
theorem tw_stop {α : Type} (p : α → Bool) : ∀ l : List α, tw p (l.drop (tw p l)) = 0
 | [] => rfl
 | z :: l => by
  have ih := tw_stop p l
  cases hz : p z with
  | true =>
   rw [show tw p (z :: l) = tw p l + 1 from by show (bif p z then 1 + tw p l else 0) = _; rw [hz, Nat.add_comm]; rfl]
   exact ih
  | false =>
   rw [show tw p (z :: l) = 0 from by show (bif p z then 1 + tw p l else 0) = _; rw [hz]; rfl]
   show (bif p z then 1 + tw p l else 0) = 0
   rw [hz]; rfl
theorem lab_kind (r : Val × Src) : (lab r).1.kind = r.1.kind := rfl
theorem putAt_all {α : Type} (p : α → Bool) (k : Nat) (x : α) (l : List α) : (putAt k x l).all p = (p x && l.all p) := by
  have h : l.all p = ((l.take k).all p && (l.drop k).all p) := by rw [← List.all_append, List.take_append_drop]
  unfold putAt
  rw [h]
  simp only [List.all_append, List.all_cons, List.all_nil, Bool.and_true]
  cases (l.take k).all p <;> cases (l.drop k).all p <;> cases p x <;> rfl
theorem mapGo_ok : ∀ (r : List (KeyD × Val)) (ks : List KeyD) (vs : List Val), ks.length = vs.length → ascB keyC ks = true → ks.all validKeyB = true → (r.map (·.1)).all validKeyB = true →
  (mapGo r ks vs).2 = 0 → ∃ ks' vs', (mapGo r ks vs).1 = mapVal ks' vs' ∧ ks'.length = vs'.length ∧ ascB keyC ks' = true ∧ ks'.all validKeyB = true ∧ ∀ p : Val → Bool, vs'.all p = (vs.all p && (r.map (·.2)).all p)
 | [], ks, vs, hl, ha, hv, _, _ => ⟨ks, vs, by rw [mapGo], hl, ha, hv, fun p => by simp⟩
 | (x, v) :: r, ks, vs, hl, ha, hv, hr, h0 => by
  rw [mapGo] at h0 ⊢
  simp only [List.map_cons, List.all_cons, Bool.and_eq_true] at hr
  cases hd : decide (ks[kPos ks x]? = some x) with
  | true => rw [hd] at h0; simp at h0
  | false =>
   rw [hd] at h0
   simp only [cond_false] at h0 ⊢
   have hne := of_decide_eq_false hd
   have ha' : ascB keyC (putAt (kPos ks x) x ks) = true := by
    refine asc_put keyC x ks ha ?_
    intro y hy
    have hyx : ¬ keyC y x < 0 := by
     intro hlt
     have h1 := tw_step (p := fun y => decide (keyC y x < 0)) (k := tw (fun y => decide (keyC y x < 0)) ks) hy
     rw [decide_eq_true hlt] at h1
     have h2 := tw_stop (fun y => decide (keyC y x < 0))
     rw [h2] at h1
     simp only [cond_true] at h1
     omega
    have hz : keyC y x ≠ 0 := by
     intro h
     have := keyC_zero.1 h
     subst this
     exact hne hy
    have := keyC_anti y x
    omega
   obtain ⟨ks', vs', e, h1, h2, h3, h4⟩ := mapGo_ok r (putAt (kPos ks x) x ks) (putAt (kPos ks x) v vs) (by rw [putAt_len, putAt_len, hl]) ha' (by rw [putAt_all, hr.1, hv]; rfl) hr.2 h0
   refine ⟨ks', vs', e, h1, h2, h3, fun p => ?_⟩
   rw [h4 p, putAt_all]
   simp only [List.map_cons, List.all_cons]
   cases p v <;> cases vs.all p <;> rfl
theorem tree_leaf (s : Src) : treeB (leafV s).1 = true := by
 refine (leafK_ok (nextV s 6) (nextS s 6)).2 ?_
 unfold leafK
 cases decide (nextV s 6 = 0) <;> cases decide (nextV s 6 = 1) <;> cases decide (nextV s 6 = 2) <;> cases decide (nextV s 6 = 3) <;> cases decide (nextV s 6 = 4) <;> simp only [cond_true, cond_false] <;>
  (rw [plainB_eq]; simp [intVal, atomVal, strVal, pidVal, nilVal, tupVal])
theorem tree_wrap (p : Val × Src) : treeB (wrapV p).1 = true := by
  unfold wrapV
  cases h : treeB p.1
  · exact tree_leaf _
  · exact h
theorem tree_near (l : List NodeD) (h : Nat) (k : Int) (s : Src) : treeB (NearV l h k s).1 = true := by
  cases h <;> exact tree_wrap _
theorem drawn_tree (l m : List Int) : treeB (drawnV l m) = true := tree_near _ _ _ _
end Go.Proofs.YthbcdhfiibpeaaaGreat

