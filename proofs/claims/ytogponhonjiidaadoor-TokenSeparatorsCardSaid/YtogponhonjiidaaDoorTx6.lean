/- A part of the proof: lemmas about the walk of the program and about plain integers and lists. No conditions beyond those that each lemma states. -/
import Derived.Test.YtogponhonjiidaaDoorTx5
import Derived.Below
import Derived.Sort.Grow
import Derived.Deep.Draws
import Derived.Lib.LaidTab
import Derived.ChangeArms
import Derived.Test.YtogponhonjiidaaDoorProg
import Derived.Test.YtogponhonjiidaaDoorTx4
import Derived.Lib.SliceRun
set_option linter.unusedVariables false
namespace Go.Sx
variable {P : Program}
theorem wf_i64 {m : Int} (h : (Lit.int .i64 m).wf = true) : -9223372036854775808 ≤ m ∧ m ≤ 9223372036854775807 := by
 simp only [Lit.wf, Bool.and_eq_true, decide_eq_true_eq] at h
 exact ⟨h.1, h.2⟩
theorem cells_int {n : Nat} {t : TypeId} {row : List C} (hu : P.underlying t = some (.int .i64)) (h : hasT P n t row) : ∃ m, row = [.int .i64 m] ∧ -9223372036854775808 ≤ m ∧ m ≤ 9223372036854775807 := by
 cases n with
 | zero => exact h.elim
 | succ n =>
  simp only [hasT, hu] at h
  obtain ⟨m, rfl, hw⟩ := h
  exact ⟨m, rfl, wf_i64 hw⟩
/-- cells of a slice, each element opened by f -/
theorem rows_map {α : Type} {enc : α → List C} {p : α → Prop} {n : Nat} {e : TypeId} (f : ∀ row, hasT P n e row → ∃ a, row = enc a ∧ p a) : ∀ {rows : List (List C)}, (∀ x ∈ rows, hasT P n e x) → ∃ l : List α, rows = l.map enc ∧ ∀ a ∈ l, p a
 | [], _ => ⟨[], rfl, by simp⟩
 | x :: rows, h => by
  obtain ⟨r, rfl, hr⟩ := f x (h x (by simp))
  obtain ⟨l, rfl, hl⟩ := rows_map f (fun y hy => h y (List.mem_cons_of_mem _ hy))
  refine ⟨r :: l, rfl, fun y hy => ?_⟩
  rcases List.mem_cons.1 hy with rfl | hy
  ·exact hr
  ·exact hl y hy
theorem cells_sl {α : Type} {enc : α → List C} {p : α → Prop} {n : Nat} {t e : TypeId} {row : List C} {sz : Nat} (hu : P.underlying t = some (.slice e)) (hsz : P.cellsOf e = sz) (f : ∀ row, hasT P (n - 1) e row → ∃ a, row = enc a ∧ p a) (h : hasT P n t row) :
  ∃ l : List α, row = [.sl sz (l.map enc)] ∧ l.length ≤ maxLen ∧ ∀ a ∈ l, p a := by
 cases n with
 | zero => exact h.elim
 | succ n =>
  simp only [hasT, hu] at h
  obtain ⟨rows, rfl, h1, h2⟩ := h
  obtain ⟨l, rfl, h3⟩ := rows_map f h2
  exact ⟨l, by rw [hsz], by simpa using h1, h3⟩
theorem arg_sl {α : Type} {enc : α → List C} {p : α → Prop} {n : Nat} {t e : TypeId} {row : List C} {sz : Nat} (hu : P.underlying t = some (.slice e)) (ha : aggT P t = some false) (hsz : P.cellsOf e = sz) (f : ∀ n row, hasT P n e row → ∃ a, row = enc a ∧ p a) (h : hasT P n t row) :
  ∃ l : List α, argT P t row = .one (.dat (.sl sz (l.map enc))) ∧ l.length ≤ maxLen ∧ ∀ a ∈ l, p a := by
 obtain ⟨l, rfl, h1, h2⟩ := cells_sl hu hsz (f (n - 1)) h
 exact ⟨l, by simp only [argT, ha]; rfl, h1, h2⟩
end Go.Sx
set_option linter.unusedVariables false
set_option linter.unusedSimpArgs false
namespace Go.Sx
open Go.RowKit
variable {P : Program}
theorem PC.native {f : FuncId} {args : List T} {r : T} (hE : Ent P f)
  (h : ∀ (M : Mem) ν (w : World) vs, (∀ b o, M b = some o → w.heap[b]? = some o) → T.reps M ν args vs → Calls P f vs.toArray w fun e w' => ∃ v, e = .returned v ∧ r.rep M ν v ∧ Below w.heap.size w w') : PC P f args r := by
 refine ⟨hE, fun M ν w vs hs hv => ?_⟩
 refine Calls.mono (h M ν w vs hs.fro hv) ?_
 rintro e w' ⟨v, rfl, hr, hb⟩
 refine ⟨v, M, rfl, Mem.ext.refl _ _, hr, hb.os, hb.tape, hb.output, Nat.zero_le _, hb.size, fun b hl _ => hb.block b hl, fun b o e => ?_, fun _ _ h => (by cases h), fun _ _ _ h => (by cases h), fun _ _ _ _ _ h => (by cases h), by simp⟩
 have e1 := hs.fro b o e
 rw [hb.block b (Array.getElem?_eq_some_iff.1 e1).1]; exact e1
theorem cell_of_At {M : Mem0} {w : World} {g : Nat} {v : Value} (hf : ∀ b o, M b = some o → w.heap[b]? = some o) (h : At (M g) 0 [v]) : w.cell? ⟨g, 0, none⟩ = some v := by
 obtain ⟨c, et, fz, pre, post, h1, h2, h3⟩ := h
 have h4 := hf _ _ h1
 have : pre = [] := by simpa using h3
 subst this
 unfold World.cell?
 simp only [h4, Option.isSome_none, Bool.false_eq_true, if_false]
 have : c = (v :: post).toArray := by apply Array.ext'; simpa using h2
 rw [this]; simp
theorem reps1 {M : Mem0} {ν : Nu} {a : T} {vs : List Value} (h : T.reps M ν [a] vs) : ∃ x, vs = [x] ∧ a.rep M ν x := by
 simp only [T.reps] at h
 obtain ⟨x, vs', rfl, h1, rfl⟩ := h
 exact ⟨x, rfl, h1⟩
theorem reps2 {M : Mem0} {ν : Nu} {a b : T} {vs : List Value} (h : T.reps M ν [a, b] vs) : ∃ x y, vs = [x, y] ∧ a.rep M ν x ∧ b.rep M ν y := by
 simp only [T.reps] at h
 obtain ⟨x, vs', rfl, h1, y, vs'', rfl, h2, rfl⟩ := h
 exact ⟨x, y, rfl, h1, h2⟩
theorem reps3 {M : Mem0} {ν : Nu} {a b c : T} {vs : List Value} (h : T.reps M ν [a, b, c] vs) : ∃ x y z, vs = [x, y, z] ∧ a.rep M ν x ∧ b.rep M ν y ∧ c.rep M ν z := by
 simp only [T.reps] at h
 obtain ⟨x, vs', rfl, h1, y, vs'', rfl, h2, z, vs3, rfl, h3, rfl⟩ := h
 exact ⟨x, y, z, rfl, h1, h2, h3⟩
theorem rep_S {M : Mem0} {ν : Nu} {l : List UInt8} {v : Value} : (S l).rep M ν v ↔ v = .string ⟨l.toArray⟩ := by simp only [T.rep, Cell.rep, C.rep]
end Go.Sx
namespace Go.Sx
theorem laidMet_tail {P : Program} {w : World} {x : String × DataW Unit} {rest : List (String × DataW Unit)} (h : laidMet P (x :: rest) w) : laidMet P rest w := by
 obtain ⟨ps, ⟨g, t, cs, fuel, p, q, h1, h2, h3, h4, h5, rfl⟩, hn, hc⟩ := h
 exact ⟨q, h5, (List.nodup_append.1 hn).2.1, fun b off hb => hc b off (List.mem_append_right _ hb)⟩
theorem laidMet_head {P : Program} {w : World} {n : String} {d : DataW Unit} {rest : List (String × DataW Unit)} (h : laidMet P ((n, d) :: rest) w) :
  ∃ g t cs fuel p, P.globalNamed n = some g ∧ (P.globals[g]?).map (·.type) = some t ∧ w.var? P n = some cs ∧ DataW.trod (fun _ => ()) P w 0 (fun _ => true) false fuel t cs.toList = some (d, p) := by
 obtain ⟨ps, ⟨g, t, cs, fuel, p, q, h1, h2, h3, h4, h5, rfl⟩, hn, hc⟩ := h
 exact ⟨g, t, cs, fuel, p, h1, h2, h3, h4⟩
theorem tab_of {P : Program} {w : World} {name : String} {cs : Array Value} {g : Nat} (h : w.var? P name = some cs) (hg : P.globalNamed name = some g) : ∃ et fz, w.heap[g]? = some (.cells cs et fz) := by
 unfold World.var? at h
 rw [hg, Option.bind_some] at h
 split at h
 ·rename_i c et fz hc; cases h; exact ⟨_, _, hc⟩
 ·cases h
theorem at_of_cells {w : World} {b off : Nat} {vs : List Value} (hne : vs ≠ []) (h : ∀ i v, vs[i]? = some v → w.cell? ⟨b, off + i, none⟩ = some v) : At (w.heap[b]?) off vs := by
 obtain ⟨v0, r0, rfl⟩ : ∃ v r, vs = v :: r := by cases vs with | nil => exact absurd rfl hne | cons v r => exact ⟨v, r, rfl⟩
 have h0 := h 0 v0 rfl
 unfold World.cell? at h0
 cases hb : w.heap[b]? with
 | none => simp only [hb] at h0; cases h0
 | some o =>
  cases o with
  | cells c et fz =>
   have hc : ∀ i v, (v0 :: r0)[i]? = some v → c[off + i]? = some v := fun i v hv => by
    have := h i v hv
    unfold World.cell? at this
    simpa only [hb, Option.isSome_none, Bool.false_eq_true, if_false] using this
   have h00 := hc 0 v0 rfl
   have hlen : off < c.size := (Array.getElem?_eq_some_iff.1 h00).1
   refine ⟨c, et, fz, c.toList.take off, c.toList.drop (off + (v0 :: r0).length), rfl, ?_, by simp; omega⟩
   have e : v0 :: r0 = (c.toList.drop off).take (v0 :: r0).length := by
    apply List.ext_getElem?
    intro i
    by_cases hi : i < (v0 :: r0).length
    ·rw [List.getElem?_take_of_lt hi, List.getElem?_drop]
     have := hc i _ (List.getElem?_eq_getElem hi)
     rw [List.getElem?_eq_getElem hi, ← this]; simp
    ·rw [List.getElem?_eq_none (by omega), List.getElem?_eq_none (by rw [List.length_take]; omega)]
   have e2 : c.toList.drop off = (v0 :: r0) ++ c.toList.drop (off + (v0 :: r0).length) := by
    have e3 := List.take_append_drop (v0 :: r0).length (c.toList.drop off)
    rw [← e, List.drop_drop] at e3
    exact e3.symm
   rw [← e2, List.take_append_drop]
  | _ => simp only [hb] at h0; cases h0
theorem add0 (a : Addr) : a.add 0 = a := by cases a; simp [Addr.add]
/-- a slice of strings that is read as data -/
theorem strs_of {P : Program} {w : World} {t e : TypeId} {cs : List Value} {fuel : Nat} {p : List MemPlace} {strs : List (List UInt8)} {sp : Nat → Bool} {held : Bool} {rst : List (DataW Unit)} (ht : P.underlying t = some (.slice e)) (he : P.underlying e = some .string) (hce : P.cellsOf e = 1) (hne : strs ≠ [])
  (h : DataW.trod (fun _ => ()) P w 0 sp held fuel t cs = some (DataW.slice (strs.map fun s => .lit (.string s)) rst, p)) :
  ∃ b off cap, cs = [.slice (some ⟨b, off, none⟩) strs.length cap] ∧ strs.length ≤ cap ∧ cap ≤ maxLen ∧ At (w.heap[b]?) off (strs.map fun s => Value.string ⟨s.toArray⟩) := by
 rcases DataW.trod_slice ht h with ⟨_, ex⟩ | ⟨a, len, cap, elems, rest, n, _, hcs, ex, _, hlc, hcm, hl, hel, _⟩
 ·cases ex
 ·injection ex with ex1 _
  injection ex1 with ex2 _
  have hlen : strs.length = len := by
   have h9 := congrArg List.length ex2
   simp only [List.length_map] at h9
   omega
  have key : ∀ i s, strs[i]? = some s → w.cell? (a.add (i * 1)) = some (.string ⟨s.toArray⟩) := by
   intro i s hs
   have hi : i < len := by rw [← hlen]; exact (List.getElem?_eq_some_iff.1 hs).1
   have h1 := hel i hi
   obtain ⟨x, hx⟩ : ∃ x, elems[i]? = some x := ⟨elems[i]'(by omega), List.getElem?_eq_getElem (by omega)⟩
   rw [hx, hce] at h1
   obtain ⟨vs, hv1, hv2⟩ := Option.bind_eq_some_iff.1 h1
   obtain ⟨s', rfl, hx2, _⟩ := DataW.trod_string he hv2
   have h2 : (elems.map (·.1))[i]? = some x.1 := by rw [List.getElem?_map, hx]; rfl
   rw [← ex2, List.getElem?_map, hs] at h2
   have h3 : s = s'.data.toList := by
    rw [hx2] at h2
    simp only [Option.map_some, Option.some.injEq, DataW.lit.injEq, Lit.string.injEq] at h2
    exact h2
   have h4 : w.cell? (a.add (i * 1)) = some (.string s') := by
    unfold World.cells? at hv1
    rw [if_pos (Nat.zero_le _)] at hv1
    simp only [List.range_one, List.mapM_cons, List.mapM_nil, Option.bind_eq_bind, Option.pure_def, Option.bind_eq_some_iff, Option.some.injEq, List.cons.injEq] at hv1
    obtain ⟨v, hv, _, rfl, rfl, _⟩ := hv1
    simpa [add0] using hv
   rw [h4, h3]
  obtain ⟨b, off, sp2⟩ := a
  have hsp : sp2 = none := by
   cases sp2 with
   | none => rfl
   | some z =>
    obtain ⟨s0, r0, rfl⟩ : ∃ s r, strs = s :: r := by cases strs with | nil => exact absurd rfl hne | cons s r => exact ⟨s, r, rfl⟩
    have := key 0 s0 rfl
    unfold World.cell? at this
    split at this
    ·simp [Addr.add] at this
    ·cases this
  subst hsp
  refine ⟨b, off, cap, by rw [hcs, hlen], by omega, hcm, at_of_cells (by simpa using hne) fun i v hv => ?_⟩
  rw [List.getElem?_map, Option.map_eq_some_iff] at hv
  obtain ⟨s, hs, rfl⟩ := hv
  have := key i s hs
  rw [Nat.mul_one] at this
  cases i with
  | zero => simpa [Addr.add] using this
  | succ i => simpa [Addr.add] using this
theorem err_of {P : Program} {w : World} {t : TypeId} {cs : List Value} {fuel : Nat} {p : List MemPlace} {sp : Nat → Bool} {held : Bool} {nm : String} {d : DataW Unit} {ms : _} (ht : P.underlying t = some (.interface ms))
  (h : DataW.trod (fun _ => ()) P w 0 sp held fuel t cs = some (DataW.iface nm d, p)) : ∃ te pe, cs = [.iface te pe] := by
 cases fuel with
 | zero => simp [DataW.trod] at h
 | succ n =>
  unfold DataW.trod at h
  rw [ht] at h
  simp only [] at h
  split at h <;> first | exact ⟨_, _, rfl⟩ | (simp at h; done) | skip
  all_goals (rename_i hq; first | (cases hq; done) | (exfalso; injection hq with hq; cases hq; done) | skip)
end Go.Sx
namespace Go.Proofs.YtogponhonjiidaaDoor
open Go Go.Sx
theorem mixed : Tryd.prog.follows .mixedOrders = true := by kernel_rfl
@[go_sem] theorem sz2 : szT Tryd.prog 2 = some 1 := by kernel_rfl
@[go_sem] theorem ag2 : aggT Tryd.prog 2 = some false := by kernel_rfl
@[go_sem] theorem kd2 : kdT Tryd.prog 2 = some (.int .i64) := by kernel_rfl
@[go_sem] theorem ze2 : zeroT Tryd.prog 2 = some [.int .i64 0] := by kernel_rfl
@[go_sem] theorem sz3 : szT Tryd.prog 3 = some 1 := by kernel_rfl
@[go_sem] theorem ag3 : aggT Tryd.prog 3 = some false := by kernel_rfl
@[go_sem] theorem kd3 : kdT Tryd.prog 3 = some (.int .i64) := by kernel_rfl
@[go_sem] theorem ze3 : zeroT Tryd.prog 3 = some [.int .i64 0] := by kernel_rfl
@[go_sem] theorem sz4 : szT Tryd.prog 4 = some 1 := by kernel_rfl
@[go_sem] theorem ag4 : aggT Tryd.prog 4 = some false := by kernel_rfl
@[go_sem] theorem kd4 : kdT Tryd.prog 4 = some (.bool) := by kernel_rfl
@[go_sem] theorem ze4 : zeroT Tryd.prog 4 = some [.bool false] := by kernel_rfl
@[go_sem] theorem sz5 : szT Tryd.prog 5 = some 1 := by kernel_rfl
@[go_sem] theorem ag5 : aggT Tryd.prog 5 = some false := by kernel_rfl
@[go_sem] theorem kd5 : kdT Tryd.prog 5 = some (.int .u8) := by kernel_rfl
@[go_sem] theorem ze5 : zeroT Tryd.prog 5 = some [.int .u8 0] := by kernel_rfl
@[go_sem] theorem sz6 : szT Tryd.prog 6 = some 1 := by kernel_rfl
@[go_sem] theorem ag6 : aggT Tryd.prog 6 = some false := by kernel_rfl
@[go_sem] theorem kd6 : kdT Tryd.prog 6 = some (.int .u8) := by kernel_rfl
@[go_sem] theorem ze6 : zeroT Tryd.prog 6 = some [.int .u8 0] := by kernel_rfl
@[go_sem] theorem sz7 : szT Tryd.prog 7 = some 4 := by kernel_rfl
@[go_sem] theorem ag7 : aggT Tryd.prog 7 = some true := by kernel_rfl
@[go_sem] theorem kd7 : kdT Tryd.prog 7 = some (.other) := by kernel_rfl
@[go_sem] theorem fl7_0 : fldT Tryd.prog 7 0 = some (0, 1, false) := by kernel_rfl
@[go_sem] theorem pr7_0 : prtT Tryd.prog 7 0 = some (0, 1, 2) := by kernel_rfl
@[go_sem] theorem fl7_1 : fldT Tryd.prog 7 1 = some (1, 1, false) := by kernel_rfl
@[go_sem] theorem pr7_1 : prtT Tryd.prog 7 1 = some (1, 1, 3) := by kernel_rfl
@[go_sem] theorem fl7_2 : fldT Tryd.prog 7 2 = some (2, 1, false) := by kernel_rfl
@[go_sem] theorem pr7_2 : prtT Tryd.prog 7 2 = some (2, 1, 4) := by kernel_rfl
@[go_sem] theorem fl7_3 : fldT Tryd.prog 7 3 = some (3, 1, false) := by kernel_rfl
@[go_sem] theorem pr7_3 : prtT Tryd.prog 7 3 = some (3, 1, 6) := by kernel_rfl
@[go_sem] theorem fo7 : fieldsOk Tryd.prog 7 = true := by kernel_rfl
@[go_sem] theorem ze7 : zeroT Tryd.prog 7 = some [.int .i64 0, .int .i64 0, .bool false, .int .u8 0] := by kernel_rfl
@[go_sem] theorem sz8 : szT Tryd.prog 8 = some 4 := by kernel_rfl
@[go_sem] theorem ag8 : aggT Tryd.prog 8 = some true := by kernel_rfl
@[go_sem] theorem kd8 : kdT Tryd.prog 8 = some (.other) := by kernel_rfl
@[go_sem] theorem fl8_0 : fldT Tryd.prog 8 0 = some (0, 1, false) := by kernel_rfl
@[go_sem] theorem pr8_0 : prtT Tryd.prog 8 0 = some (0, 1, 2) := by kernel_rfl
@[go_sem] theorem fl8_1 : fldT Tryd.prog 8 1 = some (1, 1, false) := by kernel_rfl
@[go_sem] theorem pr8_1 : prtT Tryd.prog 8 1 = some (1, 1, 3) := by kernel_rfl
@[go_sem] theorem fl8_2 : fldT Tryd.prog 8 2 = some (2, 1, false) := by kernel_rfl
@[go_sem] theorem pr8_2 : prtT Tryd.prog 8 2 = some (2, 1, 4) := by kernel_rfl
@[go_sem] theorem fl8_3 : fldT Tryd.prog 8 3 = some (3, 1, false) := by kernel_rfl
@[go_sem] theorem pr8_3 : prtT Tryd.prog 8 3 = some (3, 1, 6) := by kernel_rfl
@[go_sem] theorem fo8 : fieldsOk Tryd.prog 8 = true := by kernel_rfl
@[go_sem] theorem ze8 : zeroT Tryd.prog 8 = some [.int .i64 0, .int .i64 0, .bool false, .int .u8 0] := by kernel_rfl
@[go_sem] theorem sz9 : szT Tryd.prog 9 = some 1 := by kernel_rfl
@[go_sem] theorem ag9 : aggT Tryd.prog 9 = some false := by kernel_rfl
@[go_sem] theorem kd9 : kdT Tryd.prog 9 = some (.str) := by kernel_rfl
@[go_sem] theorem ni9 : notInt Tryd.prog 9 = true := by kernel_rfl
@[go_sem] theorem ze9 : zeroT Tryd.prog 9 = some [.str []] := by kernel_rfl
@[go_sem] theorem sz10 : szT Tryd.prog 10 = some 1 := by kernel_rfl
@[go_sem] theorem ag10 : aggT Tryd.prog 10 = some false := by kernel_rfl
@[go_sem] theorem kd10 : kdT Tryd.prog 10 = some (.str) := by kernel_rfl
@[go_sem] theorem ni10 : notInt Tryd.prog 10 = true := by kernel_rfl
@[go_sem] theorem ze10 : zeroT Tryd.prog 10 = some [.str []] := by kernel_rfl
@[go_sem] theorem sz11 : szT Tryd.prog 11 = some 1 := by kernel_rfl
@[go_sem] theorem ag11 : aggT Tryd.prog 11 = some false := by kernel_rfl
@[go_sem] theorem kd11 : kdT Tryd.prog 11 = some (.str) := by kernel_rfl
@[go_sem] theorem ni11 : notInt Tryd.prog 11 = true := by kernel_rfl
@[go_sem] theorem ze11 : zeroT Tryd.prog 11 = some [.str []] := by kernel_rfl
@[go_sem] theorem sz12 : szT Tryd.prog 12 = some 1 := by kernel_rfl
@[go_sem] theorem ag12 : aggT Tryd.prog 12 = some false := by kernel_rfl
@[go_sem] theorem kd12 : kdT Tryd.prog 12 = some (.int .u64) := by kernel_rfl
@[go_sem] theorem ze12 : zeroT Tryd.prog 12 = some [.int .u64 0] := by kernel_rfl
@[go_sem] theorem sz13 : szT Tryd.prog 13 = some 2 := by kernel_rfl
@[go_sem] theorem ag13 : aggT Tryd.prog 13 = some true := by kernel_rfl
@[go_sem] theorem kd13 : kdT Tryd.prog 13 = some (.other) := by kernel_rfl
@[go_sem] theorem fl13_0 : fldT Tryd.prog 13 0 = some (0, 1, false) := by kernel_rfl
@[go_sem] theorem pr13_0 : prtT Tryd.prog 13 0 = some (0, 1, 9) := by kernel_rfl
@[go_sem] theorem fl13_1 : fldT Tryd.prog 13 1 = some (1, 1, false) := by kernel_rfl
@[go_sem] theorem pr13_1 : prtT Tryd.prog 13 1 = some (1, 1, 12) := by kernel_rfl
@[go_sem] theorem fo13 : fieldsOk Tryd.prog 13 = true := by kernel_rfl
@[go_sem] theorem ze13 : zeroT Tryd.prog 13 = some [.str [], .int .u64 0] := by kernel_rfl
@[go_sem] theorem sz14 : szT Tryd.prog 14 = some 2 := by kernel_rfl
@[go_sem] theorem ag14 : aggT Tryd.prog 14 = some true := by kernel_rfl
@[go_sem] theorem kd14 : kdT Tryd.prog 14 = some (.other) := by kernel_rfl
@[go_sem] theorem fl14_0 : fldT Tryd.prog 14 0 = some (0, 1, false) := by kernel_rfl
@[go_sem] theorem pr14_0 : prtT Tryd.prog 14 0 = some (0, 1, 9) := by kernel_rfl
@[go_sem] theorem fl14_1 : fldT Tryd.prog 14 1 = some (1, 1, false) := by kernel_rfl
@[go_sem] theorem pr14_1 : prtT Tryd.prog 14 1 = some (1, 1, 12) := by kernel_rfl
@[go_sem] theorem fo14 : fieldsOk Tryd.prog 14 = true := by kernel_rfl
@[go_sem] theorem ze14 : zeroT Tryd.prog 14 = some [.str [], .int .u64 0] := by kernel_rfl
@[go_sem] theorem sz15 : szT Tryd.prog 15 = some 1 := by kernel_rfl
@[go_sem] theorem ag15 : aggT Tryd.prog 15 = some false := by kernel_rfl
@[go_sem] theorem kd15 : kdT Tryd.prog 15 = some (.other) := by kernel_rfl
@[go_sem] theorem sz16 : szT Tryd.prog 16 = some 1 := by kernel_rfl
@[go_sem] theorem ag16 : aggT Tryd.prog 16 = some false := by kernel_rfl
@[go_sem] theorem kd16 : kdT Tryd.prog 16 = some (.other) := by kernel_rfl
@[go_sem] theorem sz17 : szT Tryd.prog 17 = some 1 := by kernel_rfl
@[go_sem] theorem ag17 : aggT Tryd.prog 17 = some false := by kernel_rfl
@[go_sem] theorem kd17 : kdT Tryd.prog 17 = some (.other) := by kernel_rfl
@[go_sem] theorem sz18 : szT Tryd.prog 18 = some 1 := by kernel_rfl
@[go_sem] theorem ag18 : aggT Tryd.prog 18 = some true := by kernel_rfl
@[go_sem] theorem kd18 : kdT Tryd.prog 18 = some (.other) := by kernel_rfl
@[go_sem] theorem fl18_0 : fldT Tryd.prog 18 0 = some (0, 1, false) := by kernel_rfl
@[go_sem] theorem pr18_0 : prtT Tryd.prog 18 0 = some (0, 1, 17) := by kernel_rfl
@[go_sem] theorem fo18 : fieldsOk Tryd.prog 18 = true := by kernel_rfl
@[go_sem] theorem sz19 : szT Tryd.prog 19 = some 1 := by kernel_rfl
@[go_sem] theorem ag19 : aggT Tryd.prog 19 = some true := by kernel_rfl
@[go_sem] theorem kd19 : kdT Tryd.prog 19 = some (.other) := by kernel_rfl
@[go_sem] theorem fl19_0 : fldT Tryd.prog 19 0 = some (0, 1, false) := by kernel_rfl
@[go_sem] theorem pr19_0 : prtT Tryd.prog 19 0 = some (0, 1, 17) := by kernel_rfl
@[go_sem] theorem fo19 : fieldsOk Tryd.prog 19 = true := by kernel_rfl
@[go_sem] theorem sz20 : szT Tryd.prog 20 = some 1 := by kernel_rfl
@[go_sem] theorem ag20 : aggT Tryd.prog 20 = some false := by kernel_rfl
@[go_sem] theorem kd20 : kdT Tryd.prog 20 = some (.other) := by kernel_rfl
@[go_sem] theorem if20 : ifcT Tryd.prog 20 = true := by kernel_rfl
@[go_sem] theorem ze20 : zeroT Tryd.prog 20 = some [.err false] := by kernel_rfl
@[go_sem] theorem sz21 : szT Tryd.prog 21 = some 1 := by kernel_rfl
@[go_sem] theorem ag21 : aggT Tryd.prog 21 = some false := by kernel_rfl
@[go_sem] theorem kd21 : kdT Tryd.prog 21 = some (.int .i32) := by kernel_rfl
@[go_sem] theorem ze21 : zeroT Tryd.prog 21 = some [.int .i32 0] := by kernel_rfl
@[go_sem] theorem sz22 : szT Tryd.prog 22 = some 1 := by kernel_rfl
@[go_sem] theorem ag22 : aggT Tryd.prog 22 = some false := by kernel_rfl
@[go_sem] theorem kd22 : kdT Tryd.prog 22 = some (.other) := by kernel_rfl
@[go_sem] theorem el22 : elT Tryd.prog 22 = some (1, false) := by kernel_rfl
@[go_sem] theorem bs22 : bsT Tryd.prog 22 = some (3, 1) := by kernel_rfl
@[go_sem] theorem by22 : byT Tryd.prog 22 = some 8 := by kernel_rfl
@[go_sem] theorem ni22 : notInt Tryd.prog 22 = true := by kernel_rfl
@[go_sem] theorem ze22 : zeroT Tryd.prog 22 = some [.nil 1] := by kernel_rfl
@[go_sem] theorem sz28 : szT Tryd.prog 28 = some 1 := by kernel_rfl
@[go_sem] theorem ag28 : aggT Tryd.prog 28 = some false := by kernel_rfl
@[go_sem] theorem kd28 : kdT Tryd.prog 28 = some (.other) := by kernel_rfl
@[go_sem] theorem el28 : elT Tryd.prog 28 = some (1, false) := by kernel_rfl
@[go_sem] theorem bs28 : bsT Tryd.prog 28 = some (9, 1) := by kernel_rfl
@[go_sem] theorem by28 : byT Tryd.prog 28 = some 16 := by kernel_rfl
@[go_sem] theorem ni28 : notInt Tryd.prog 28 = true := by kernel_rfl
@[go_sem] theorem ze28 : zeroT Tryd.prog 28 = some [.nil 1] := by kernel_rfl
@[go_sem] theorem sz29 : szT Tryd.prog 29 = some 1 := by kernel_rfl
@[go_sem] theorem ag29 : aggT Tryd.prog 29 = some false := by kernel_rfl
@[go_sem] theorem kd29 : kdT Tryd.prog 29 = some (.other) := by kernel_rfl
@[go_sem] theorem el29 : elT Tryd.prog 29 = some (4, true) := by kernel_rfl
@[go_sem] theorem bs29 : bsT Tryd.prog 29 = some (34, 4) := by kernel_rfl
@[go_sem] theorem by29 : byT Tryd.prog 29 = some 40 := by kernel_rfl
@[go_sem] theorem ni29 : notInt Tryd.prog 29 = true := by kernel_rfl
@[go_sem] theorem ze29 : zeroT Tryd.prog 29 = some [.nil 4] := by kernel_rfl
@[go_sem] theorem sz30 : szT Tryd.prog 30 = some 1 := by kernel_rfl
@[go_sem] theorem ag30 : aggT Tryd.prog 30 = some false := by kernel_rfl
@[go_sem] theorem kd30 : kdT Tryd.prog 30 = some (.int .i64) := by kernel_rfl
@[go_sem] theorem ze30 : zeroT Tryd.prog 30 = some [.int .i64 0] := by kernel_rfl
@[go_sem] theorem sz33 : szT Tryd.prog 33 = some 4 := by kernel_rfl
@[go_sem] theorem ag33 : aggT Tryd.prog 33 = some true := by kernel_rfl
@[go_sem] theorem kd33 : kdT Tryd.prog 33 = some (.other) := by kernel_rfl
@[go_sem] theorem fl33_0 : fldT Tryd.prog 33 0 = some (0, 1, false) := by kernel_rfl
@[go_sem] theorem pr33_0 : prtT Tryd.prog 33 0 = some (0, 1, 3) := by kernel_rfl
@[go_sem] theorem fl33_1 : fldT Tryd.prog 33 1 = some (1, 1, false) := by kernel_rfl
@[go_sem] theorem pr33_1 : prtT Tryd.prog 33 1 = some (1, 1, 9) := by kernel_rfl
@[go_sem] theorem fl33_2 : fldT Tryd.prog 33 2 = some (2, 1, false) := by kernel_rfl
@[go_sem] theorem pr33_2 : prtT Tryd.prog 33 2 = some (2, 1, 2) := by kernel_rfl
@[go_sem] theorem fl33_3 : fldT Tryd.prog 33 3 = some (3, 1, false) := by kernel_rfl
@[go_sem] theorem pr33_3 : prtT Tryd.prog 33 3 = some (3, 1, 3) := by kernel_rfl
@[go_sem] theorem fo33 : fieldsOk Tryd.prog 33 = true := by kernel_rfl
@[go_sem] theorem eqs33 (a0 b0 : Int) (a1 b1 : List UInt8) (a2 b2 : Int) (a3 b3 : Int) : eqStT Tryd.prog 6 33 [.int .i64 a0, .str a1, .int .i64 a2, .int .i64 a3] [.int .i64 b0, .str b1, .int .i64 b2, .int .i64 b3] = some ((decide (a0 = b0)) && ((decide (a1 = b1)) && ((decide (a2 = b2)) && ((decide (a3 = b3)) && true)))) := by kernel_rfl
@[go_sem] theorem eqg33 : Go.Program.eqGuardType Tryd.prog (Go.Program.depth Tryd.prog) 33 = false := by kernel_rfl
@[go_sem] theorem ze33 : zeroT Tryd.prog 33 = some [.int .i64 0, .str [], .int .i64 0, .int .i64 0] := by kernel_rfl
@[go_sem] theorem sz34 : szT Tryd.prog 34 = some 4 := by kernel_rfl
@[go_sem] theorem ag34 : aggT Tryd.prog 34 = some true := by kernel_rfl
@[go_sem] theorem kd34 : kdT Tryd.prog 34 = some (.other) := by kernel_rfl
@[go_sem] theorem fl34_0 : fldT Tryd.prog 34 0 = some (0, 1, false) := by kernel_rfl
@[go_sem] theorem pr34_0 : prtT Tryd.prog 34 0 = some (0, 1, 3) := by kernel_rfl
@[go_sem] theorem fl34_1 : fldT Tryd.prog 34 1 = some (1, 1, false) := by kernel_rfl
@[go_sem] theorem pr34_1 : prtT Tryd.prog 34 1 = some (1, 1, 9) := by kernel_rfl
@[go_sem] theorem fl34_2 : fldT Tryd.prog 34 2 = some (2, 1, false) := by kernel_rfl
@[go_sem] theorem pr34_2 : prtT Tryd.prog 34 2 = some (2, 1, 2) := by kernel_rfl
@[go_sem] theorem fl34_3 : fldT Tryd.prog 34 3 = some (3, 1, false) := by kernel_rfl
@[go_sem] theorem pr34_3 : prtT Tryd.prog 34 3 = some (3, 1, 3) := by kernel_rfl
@[go_sem] theorem fo34 : fieldsOk Tryd.prog 34 = true := by kernel_rfl
@[go_sem] theorem eqs34 (a0 b0 : Int) (a1 b1 : List UInt8) (a2 b2 : Int) (a3 b3 : Int) : eqStT Tryd.prog 6 34 [.int .i64 a0, .str a1, .int .i64 a2, .int .i64 a3] [.int .i64 b0, .str b1, .int .i64 b2, .int .i64 b3] = some ((decide (a0 = b0)) && ((decide (a1 = b1)) && ((decide (a2 = b2)) && ((decide (a3 = b3)) && true)))) := by kernel_rfl
@[go_sem] theorem eqg34 : Go.Program.eqGuardType Tryd.prog (Go.Program.depth Tryd.prog) 34 = false := by kernel_rfl
@[go_sem] theorem ze34 : zeroT Tryd.prog 34 = some [.int .i64 0, .str [], .int .i64 0, .int .i64 0] := by kernel_rfl
@[go_sem] theorem sz36 : szT Tryd.prog 36 = some 1 := by kernel_rfl
@[go_sem] theorem ag36 : aggT Tryd.prog 36 = some false := by kernel_rfl
@[go_sem] theorem kd36 : kdT Tryd.prog 36 = some (.int .u64) := by kernel_rfl
@[go_sem] theorem ze36 : zeroT Tryd.prog 36 = some [.int .u64 0] := by kernel_rfl
@[go_sem] theorem sz40 : szT Tryd.prog 40 = some 1 := by kernel_rfl
@[go_sem] theorem ag40 : aggT Tryd.prog 40 = some false := by kernel_rfl
@[go_sem] theorem kd40 : kdT Tryd.prog 40 = some (.other) := by kernel_rfl
@[go_sem] theorem el40 : elT Tryd.prog 40 = some (1, false) := by kernel_rfl
@[go_sem] theorem bs40 : bsT Tryd.prog 40 = some (5, 1) := by kernel_rfl
@[go_sem] theorem by40 : byT Tryd.prog 40 = some 1 := by kernel_rfl
@[go_sem] theorem ni40 : notInt Tryd.prog 40 = true := by kernel_rfl
@[go_sem] theorem bt40 : bysT Tryd.prog 40 = true := by kernel_rfl
@[go_sem] theorem ze40 : zeroT Tryd.prog 40 = some [.nil 1] := by kernel_rfl
@[go_sem] theorem sz47 : szT Tryd.prog 47 = some 1 := by kernel_rfl
@[go_sem] theorem ag47 : aggT Tryd.prog 47 = some false := by kernel_rfl
@[go_sem] theorem kd47 : kdT Tryd.prog 47 = some (.other) := by kernel_rfl
@[go_sem] theorem sz49 : szT Tryd.prog 49 = some 1 := by kernel_rfl
@[go_sem] theorem ag49 : aggT Tryd.prog 49 = some false := by kernel_rfl
@[go_sem] theorem kd49 : kdT Tryd.prog 49 = some (.other) := by kernel_rfl
@[go_sem] theorem sz50 : szT Tryd.prog 50 = some 1 := by kernel_rfl
@[go_sem] theorem ag50 : aggT Tryd.prog 50 = some false := by kernel_rfl
@[go_sem] theorem kd50 : kdT Tryd.prog 50 = some (.other) := by kernel_rfl
@[go_sem] theorem el50 : elT Tryd.prog 50 = some (4, true) := by kernel_rfl
@[go_sem] theorem bs50 : bsT Tryd.prog 50 = some (67, 4) := by kernel_rfl
@[go_sem] theorem by50 : byT Tryd.prog 50 = some 64 := by kernel_rfl
@[go_sem] theorem ni50 : notInt Tryd.prog 50 = true := by kernel_rfl
@[go_sem] theorem ze50 : zeroT Tryd.prog 50 = some [.nil 4] := by kernel_rfl
@[go_sem] theorem sz51 : szT Tryd.prog 51 = some 5 := by kernel_rfl
@[go_sem] theorem ag51 : aggT Tryd.prog 51 = some true := by kernel_rfl
@[go_sem] theorem kd51 : kdT Tryd.prog 51 = some (.other) := by kernel_rfl
@[go_sem] theorem fl51_0 : fldT Tryd.prog 51 0 = some (0, 1, false) := by kernel_rfl
@[go_sem] theorem pr51_0 : prtT Tryd.prog 51 0 = some (0, 1, 49) := by kernel_rfl
@[go_sem] theorem fl51_1 : fldT Tryd.prog 51 1 = some (1, 1, false) := by kernel_rfl
@[go_sem] theorem pr51_1 : prtT Tryd.prog 51 1 = some (1, 1, 50) := by kernel_rfl
@[go_sem] theorem fl51_2 : fldT Tryd.prog 51 2 = some (2, 1, false) := by kernel_rfl
@[go_sem] theorem pr51_2 : prtT Tryd.prog 51 2 = some (2, 1, 3) := by kernel_rfl
@[go_sem] theorem fl51_3 : fldT Tryd.prog 51 3 = some (3, 1, false) := by kernel_rfl
@[go_sem] theorem pr51_3 : prtT Tryd.prog 51 3 = some (3, 1, 4) := by kernel_rfl
@[go_sem] theorem fl51_4 : fldT Tryd.prog 51 4 = some (4, 1, false) := by kernel_rfl
@[go_sem] theorem pr51_4 : prtT Tryd.prog 51 4 = some (4, 1, 3) := by kernel_rfl
@[go_sem] theorem fo51 : fieldsOk Tryd.prog 51 = true := by kernel_rfl
@[go_sem] theorem sz52 : szT Tryd.prog 52 = some 5 := by kernel_rfl
@[go_sem] theorem ag52 : aggT Tryd.prog 52 = some true := by kernel_rfl
@[go_sem] theorem kd52 : kdT Tryd.prog 52 = some (.other) := by kernel_rfl
@[go_sem] theorem fl52_0 : fldT Tryd.prog 52 0 = some (0, 1, false) := by kernel_rfl
@[go_sem] theorem pr52_0 : prtT Tryd.prog 52 0 = some (0, 1, 49) := by kernel_rfl
@[go_sem] theorem fl52_1 : fldT Tryd.prog 52 1 = some (1, 1, false) := by kernel_rfl
@[go_sem] theorem pr52_1 : prtT Tryd.prog 52 1 = some (1, 1, 50) := by kernel_rfl
@[go_sem] theorem fl52_2 : fldT Tryd.prog 52 2 = some (2, 1, false) := by kernel_rfl
@[go_sem] theorem pr52_2 : prtT Tryd.prog 52 2 = some (2, 1, 3) := by kernel_rfl
@[go_sem] theorem fl52_3 : fldT Tryd.prog 52 3 = some (3, 1, false) := by kernel_rfl
@[go_sem] theorem pr52_3 : prtT Tryd.prog 52 3 = some (3, 1, 4) := by kernel_rfl
@[go_sem] theorem fl52_4 : fldT Tryd.prog 52 4 = some (4, 1, false) := by kernel_rfl
@[go_sem] theorem pr52_4 : prtT Tryd.prog 52 4 = some (4, 1, 3) := by kernel_rfl
@[go_sem] theorem fo52 : fieldsOk Tryd.prog 52 = true := by kernel_rfl
@[go_sem] theorem sz57 : szT Tryd.prog 57 = some 1 := by kernel_rfl
@[go_sem] theorem ag57 : aggT Tryd.prog 57 = some false := by kernel_rfl
@[go_sem] theorem kd57 : kdT Tryd.prog 57 = some (.other) := by kernel_rfl
@[go_sem] theorem sz62 : szT Tryd.prog 62 = some 2 := by kernel_rfl
@[go_sem] theorem ag62 : aggT Tryd.prog 62 = some true := by kernel_rfl
@[go_sem] theorem kd62 : kdT Tryd.prog 62 = some (.other) := by kernel_rfl
@[go_sem] theorem fl62_0 : fldT Tryd.prog 62 0 = some (0, 1, false) := by kernel_rfl
@[go_sem] theorem pr62_0 : prtT Tryd.prog 62 0 = some (0, 1, 22) := by kernel_rfl
@[go_sem] theorem fl62_1 : fldT Tryd.prog 62 1 = some (1, 1, false) := by kernel_rfl
@[go_sem] theorem pr62_1 : prtT Tryd.prog 62 1 = some (1, 1, 3) := by kernel_rfl
@[go_sem] theorem fo62 : fieldsOk Tryd.prog 62 = true := by kernel_rfl
@[go_sem] theorem ze62 : zeroT Tryd.prog 62 = some [.nil 1, .int .i64 0] := by kernel_rfl
@[go_sem] theorem sz63 : szT Tryd.prog 63 = some 2 := by kernel_rfl
@[go_sem] theorem ag63 : aggT Tryd.prog 63 = some true := by kernel_rfl
@[go_sem] theorem kd63 : kdT Tryd.prog 63 = some (.other) := by kernel_rfl
@[go_sem] theorem fl63_0 : fldT Tryd.prog 63 0 = some (0, 1, false) := by kernel_rfl
@[go_sem] theorem pr63_0 : prtT Tryd.prog 63 0 = some (0, 1, 22) := by kernel_rfl
@[go_sem] theorem fl63_1 : fldT Tryd.prog 63 1 = some (1, 1, false) := by kernel_rfl
@[go_sem] theorem pr63_1 : prtT Tryd.prog 63 1 = some (1, 1, 3) := by kernel_rfl
@[go_sem] theorem fo63 : fieldsOk Tryd.prog 63 = true := by kernel_rfl
@[go_sem] theorem ze63 : zeroT Tryd.prog 63 = some [.nil 1, .int .i64 0] := by kernel_rfl
@[go_sem] theorem sz66 : szT Tryd.prog 66 = some 4 := by kernel_rfl
@[go_sem] theorem ag66 : aggT Tryd.prog 66 = some true := by kernel_rfl
@[go_sem] theorem kd66 : kdT Tryd.prog 66 = some (.other) := by kernel_rfl
@[go_sem] theorem fl66_0 : fldT Tryd.prog 66 0 = some (0, 1, false) := by kernel_rfl
@[go_sem] theorem pr66_0 : prtT Tryd.prog 66 0 = some (0, 1, 9) := by kernel_rfl
@[go_sem] theorem fl66_1 : fldT Tryd.prog 66 1 = some (1, 1, false) := by kernel_rfl
@[go_sem] theorem pr66_1 : prtT Tryd.prog 66 1 = some (1, 1, 9) := by kernel_rfl
@[go_sem] theorem fl66_2 : fldT Tryd.prog 66 2 = some (2, 1, false) := by kernel_rfl
@[go_sem] theorem pr66_2 : prtT Tryd.prog 66 2 = some (2, 1, 22) := by kernel_rfl
@[go_sem] theorem fl66_3 : fldT Tryd.prog 66 3 = some (3, 1, false) := by kernel_rfl
@[go_sem] theorem pr66_3 : prtT Tryd.prog 66 3 = some (3, 1, 3) := by kernel_rfl
@[go_sem] theorem fo66 : fieldsOk Tryd.prog 66 = true := by kernel_rfl
@[go_sem] theorem ze66 : zeroT Tryd.prog 66 = some [.str [], .str [], .nil 1, .int .i64 0] := by kernel_rfl
@[go_sem] theorem sz67 : szT Tryd.prog 67 = some 4 := by kernel_rfl
@[go_sem] theorem ag67 : aggT Tryd.prog 67 = some true := by kernel_rfl
@[go_sem] theorem kd67 : kdT Tryd.prog 67 = some (.other) := by kernel_rfl
@[go_sem] theorem fl67_0 : fldT Tryd.prog 67 0 = some (0, 1, false) := by kernel_rfl
@[go_sem] theorem pr67_0 : prtT Tryd.prog 67 0 = some (0, 1, 9) := by kernel_rfl
@[go_sem] theorem fl67_1 : fldT Tryd.prog 67 1 = some (1, 1, false) := by kernel_rfl
@[go_sem] theorem pr67_1 : prtT Tryd.prog 67 1 = some (1, 1, 9) := by kernel_rfl
@[go_sem] theorem fl67_2 : fldT Tryd.prog 67 2 = some (2, 1, false) := by kernel_rfl
@[go_sem] theorem pr67_2 : prtT Tryd.prog 67 2 = some (2, 1, 22) := by kernel_rfl
@[go_sem] theorem fl67_3 : fldT Tryd.prog 67 3 = some (3, 1, false) := by kernel_rfl
@[go_sem] theorem pr67_3 : prtT Tryd.prog 67 3 = some (3, 1, 3) := by kernel_rfl
@[go_sem] theorem fo67 : fieldsOk Tryd.prog 67 = true := by kernel_rfl
@[go_sem] theorem ze67 : zeroT Tryd.prog 67 = some [.str [], .str [], .nil 1, .int .i64 0] := by kernel_rfl
@[go_sem] theorem sz71 : szT Tryd.prog 71 = some 1 := by kernel_rfl
@[go_sem] theorem ag71 : aggT Tryd.prog 71 = some false := by kernel_rfl
@[go_sem] theorem kd71 : kdT Tryd.prog 71 = some (.other) := by kernel_rfl
@[go_sem] theorem sz72 : szT Tryd.prog 72 = some 2 := by kernel_rfl
@[go_sem] theorem ag72 : aggT Tryd.prog 72 = some true := by kernel_rfl
@[go_sem] theorem kd72 : kdT Tryd.prog 72 = some (.other) := by kernel_rfl
@[go_sem] theorem fl72_0 : fldT Tryd.prog 72 0 = some (0, 1, false) := by kernel_rfl
@[go_sem] theorem pr72_0 : prtT Tryd.prog 72 0 = some (0, 1, 9) := by kernel_rfl
@[go_sem] theorem fl72_1 : fldT Tryd.prog 72 1 = some (1, 1, false) := by kernel_rfl
@[go_sem] theorem pr72_1 : prtT Tryd.prog 72 1 = some (1, 1, 3) := by kernel_rfl
@[go_sem] theorem fo72 : fieldsOk Tryd.prog 72 = true := by kernel_rfl
@[go_sem] theorem eqs72 (a0 b0 : List UInt8) (a1 b1 : Int) : eqStT Tryd.prog 6 72 [.str a0, .int .i64 a1] [.str b0, .int .i64 b1] = some ((decide (a0 = b0)) && ((decide (a1 = b1)) && true)) := by kernel_rfl
@[go_sem] theorem eqg72 : Go.Program.eqGuardType Tryd.prog (Go.Program.depth Tryd.prog) 72 = false := by kernel_rfl
@[go_sem] theorem ze72 : zeroT Tryd.prog 72 = some [.str [], .int .i64 0] := by kernel_rfl
@[go_sem] theorem sz73 : szT Tryd.prog 73 = some 2 := by kernel_rfl
@[go_sem] theorem ag73 : aggT Tryd.prog 73 = some true := by kernel_rfl
@[go_sem] theorem kd73 : kdT Tryd.prog 73 = some (.other) := by kernel_rfl
@[go_sem] theorem fl73_0 : fldT Tryd.prog 73 0 = some (0, 1, false) := by kernel_rfl
@[go_sem] theorem pr73_0 : prtT Tryd.prog 73 0 = some (0, 1, 9) := by kernel_rfl
@[go_sem] theorem fl73_1 : fldT Tryd.prog 73 1 = some (1, 1, false) := by kernel_rfl
@[go_sem] theorem pr73_1 : prtT Tryd.prog 73 1 = some (1, 1, 3) := by kernel_rfl
@[go_sem] theorem fo73 : fieldsOk Tryd.prog 73 = true := by kernel_rfl
@[go_sem] theorem ze73 : zeroT Tryd.prog 73 = some [.str [], .int .i64 0] := by kernel_rfl
@[go_sem] theorem sz77 : szT Tryd.prog 77 = some 1 := by kernel_rfl
@[go_sem] theorem ag77 : aggT Tryd.prog 77 = some false := by kernel_rfl
@[go_sem] theorem kd77 : kdT Tryd.prog 77 = some (.other) := by kernel_rfl
@[go_sem] theorem sz78 : szT Tryd.prog 78 = some 2 := by kernel_rfl
@[go_sem] theorem ag78 : aggT Tryd.prog 78 = some true := by kernel_rfl
@[go_sem] theorem kd78 : kdT Tryd.prog 78 = some (.other) := by kernel_rfl
@[go_sem] theorem fl78_0 : fldT Tryd.prog 78 0 = some (0, 1, false) := by kernel_rfl
@[go_sem] theorem pr78_0 : prtT Tryd.prog 78 0 = some (0, 1, 77) := by kernel_rfl
@[go_sem] theorem fl78_1 : fldT Tryd.prog 78 1 = some (1, 1, false) := by kernel_rfl
@[go_sem] theorem pr78_1 : prtT Tryd.prog 78 1 = some (1, 1, 40) := by kernel_rfl
@[go_sem] theorem fo78 : fieldsOk Tryd.prog 78 = true := by kernel_rfl
@[go_sem] theorem sz79 : szT Tryd.prog 79 = some 2 := by kernel_rfl
@[go_sem] theorem ag79 : aggT Tryd.prog 79 = some true := by kernel_rfl
@[go_sem] theorem kd79 : kdT Tryd.prog 79 = some (.other) := by kernel_rfl
@[go_sem] theorem fl79_0 : fldT Tryd.prog 79 0 = some (0, 1, false) := by kernel_rfl
@[go_sem] theorem pr79_0 : prtT Tryd.prog 79 0 = some (0, 1, 77) := by kernel_rfl
@[go_sem] theorem fl79_1 : fldT Tryd.prog 79 1 = some (1, 1, false) := by kernel_rfl
@[go_sem] theorem pr79_1 : prtT Tryd.prog 79 1 = some (1, 1, 40) := by kernel_rfl
@[go_sem] theorem fo79 : fieldsOk Tryd.prog 79 = true := by kernel_rfl
@[go_sem] theorem sz81 : szT Tryd.prog 81 = some 1 := by kernel_rfl
@[go_sem] theorem ag81 : aggT Tryd.prog 81 = some false := by kernel_rfl
@[go_sem] theorem kd81 : kdT Tryd.prog 81 = some (.other) := by kernel_rfl
@[go_sem] theorem if81 : ifcT Tryd.prog 81 = true := by kernel_rfl
@[go_sem] theorem ze81 : zeroT Tryd.prog 81 = some [.err false] := by kernel_rfl
@[go_sem] theorem sz82 : szT Tryd.prog 82 = some 1 := by kernel_rfl
@[go_sem] theorem ag82 : aggT Tryd.prog 82 = some false := by kernel_rfl
@[go_sem] theorem kd82 : kdT Tryd.prog 82 = some (.other) := by kernel_rfl
@[go_sem] theorem if82 : ifcT Tryd.prog 82 = true := by kernel_rfl
@[go_sem] theorem ze82 : zeroT Tryd.prog 82 = some [.err false] := by kernel_rfl
@[go_sem] theorem sz86 : szT Tryd.prog 86 = some 1 := by kernel_rfl
@[go_sem] theorem ag86 : aggT Tryd.prog 86 = some false := by kernel_rfl
@[go_sem] theorem kd86 : kdT Tryd.prog 86 = some (.other) := by kernel_rfl
@[go_sem] theorem ze86 : zeroT Tryd.prog 86 = some [.fnil] := by kernel_rfl
@[go_sem] theorem sz94 : szT Tryd.prog 94 = some 1 := by kernel_rfl
@[go_sem] theorem ag94 : aggT Tryd.prog 94 = some false := by kernel_rfl
@[go_sem] theorem kd94 : kdT Tryd.prog 94 = some (.other) := by kernel_rfl
@[go_sem] theorem el94 : elT Tryd.prog 94 = some (2, true) := by kernel_rfl
@[go_sem] theorem bs94 : bsT Tryd.prog 94 = some (96, 2) := by kernel_rfl
@[go_sem] theorem by94 : byT Tryd.prog 94 = some 24 := by kernel_rfl
@[go_sem] theorem ni94 : notInt Tryd.prog 94 = true := by kernel_rfl
@[go_sem] theorem ze94 : zeroT Tryd.prog 94 = some [.nil 2] := by kernel_rfl
@[go_sem] theorem sz95 : szT Tryd.prog 95 = some 2 := by kernel_rfl
@[go_sem] theorem ag95 : aggT Tryd.prog 95 = some true := by kernel_rfl
@[go_sem] theorem kd95 : kdT Tryd.prog 95 = some (.other) := by kernel_rfl
@[go_sem] theorem fl95_0 : fldT Tryd.prog 95 0 = some (0, 1, false) := by kernel_rfl
@[go_sem] theorem pr95_0 : prtT Tryd.prog 95 0 = some (0, 1, 9) := by kernel_rfl
@[go_sem] theorem fl95_1 : fldT Tryd.prog 95 1 = some (1, 1, false) := by kernel_rfl
@[go_sem] theorem pr95_1 : prtT Tryd.prog 95 1 = some (1, 1, 3) := by kernel_rfl
@[go_sem] theorem fo95 : fieldsOk Tryd.prog 95 = true := by kernel_rfl
@[go_sem] theorem eqs95 (a0 b0 : List UInt8) (a1 b1 : Int) : eqStT Tryd.prog 6 95 [.str a0, .int .i64 a1] [.str b0, .int .i64 b1] = some ((decide (a0 = b0)) && ((decide (a1 = b1)) && true)) := by kernel_rfl
@[go_sem] theorem eqg95 : Go.Program.eqGuardType Tryd.prog (Go.Program.depth Tryd.prog) 95 = false := by kernel_rfl
@[go_sem] theorem ze95 : zeroT Tryd.prog 95 = some [.str [], .int .i64 0] := by kernel_rfl
@[go_sem] theorem sz96 : szT Tryd.prog 96 = some 2 := by kernel_rfl
@[go_sem] theorem ag96 : aggT Tryd.prog 96 = some true := by kernel_rfl
@[go_sem] theorem kd96 : kdT Tryd.prog 96 = some (.other) := by kernel_rfl
@[go_sem] theorem fl96_0 : fldT Tryd.prog 96 0 = some (0, 1, false) := by kernel_rfl
@[go_sem] theorem pr96_0 : prtT Tryd.prog 96 0 = some (0, 1, 9) := by kernel_rfl
@[go_sem] theorem fl96_1 : fldT Tryd.prog 96 1 = some (1, 1, false) := by kernel_rfl
@[go_sem] theorem pr96_1 : prtT Tryd.prog 96 1 = some (1, 1, 3) := by kernel_rfl
@[go_sem] theorem fo96 : fieldsOk Tryd.prog 96 = true := by kernel_rfl
@[go_sem] theorem ze96 : zeroT Tryd.prog 96 = some [.str [], .int .i64 0] := by kernel_rfl
@[go_sem] theorem sz101 : szT Tryd.prog 101 = some 1 := by kernel_rfl
@[go_sem] theorem ag101 : aggT Tryd.prog 101 = some false := by kernel_rfl
@[go_sem] theorem kd101 : kdT Tryd.prog 101 = some (.int .i8) := by kernel_rfl
@[go_sem] theorem ze101 : zeroT Tryd.prog 101 = some [.int .i8 0] := by kernel_rfl
@[go_sem] theorem sz102 : szT Tryd.prog 102 = some 1 := by kernel_rfl
@[go_sem] theorem ag102 : aggT Tryd.prog 102 = some false := by kernel_rfl
@[go_sem] theorem kd102 : kdT Tryd.prog 102 = some (.int .i8) := by kernel_rfl
@[go_sem] theorem ze102 : zeroT Tryd.prog 102 = some [.int .i8 0] := by kernel_rfl
@[go_sem] theorem sz103 : szT Tryd.prog 103 = some 3 := by kernel_rfl
@[go_sem] theorem ag103 : aggT Tryd.prog 103 = some true := by kernel_rfl
@[go_sem] theorem kd103 : kdT Tryd.prog 103 = some (.other) := by kernel_rfl
@[go_sem] theorem fl103_0 : fldT Tryd.prog 103 0 = some (0, 1, false) := by kernel_rfl
@[go_sem] theorem pr103_0 : prtT Tryd.prog 103 0 = some (0, 1, 40) := by kernel_rfl
@[go_sem] theorem fl103_1 : fldT Tryd.prog 103 1 = some (1, 1, false) := by kernel_rfl
@[go_sem] theorem pr103_1 : prtT Tryd.prog 103 1 = some (1, 1, 3) := by kernel_rfl
@[go_sem] theorem fl103_2 : fldT Tryd.prog 103 2 = some (2, 1, false) := by kernel_rfl
@[go_sem] theorem pr103_2 : prtT Tryd.prog 103 2 = some (2, 1, 102) := by kernel_rfl
@[go_sem] theorem fo103 : fieldsOk Tryd.prog 103 = true := by kernel_rfl
@[go_sem] theorem ze103 : zeroT Tryd.prog 103 = some [.nil 1, .int .i64 0, .int .i8 0] := by kernel_rfl
@[go_sem] theorem sz104 : szT Tryd.prog 104 = some 3 := by kernel_rfl
@[go_sem] theorem ag104 : aggT Tryd.prog 104 = some true := by kernel_rfl
@[go_sem] theorem kd104 : kdT Tryd.prog 104 = some (.other) := by kernel_rfl
@[go_sem] theorem fl104_0 : fldT Tryd.prog 104 0 = some (0, 1, false) := by kernel_rfl
@[go_sem] theorem pr104_0 : prtT Tryd.prog 104 0 = some (0, 1, 40) := by kernel_rfl
@[go_sem] theorem fl104_1 : fldT Tryd.prog 104 1 = some (1, 1, false) := by kernel_rfl
@[go_sem] theorem pr104_1 : prtT Tryd.prog 104 1 = some (1, 1, 3) := by kernel_rfl
@[go_sem] theorem fl104_2 : fldT Tryd.prog 104 2 = some (2, 1, false) := by kernel_rfl
@[go_sem] theorem pr104_2 : prtT Tryd.prog 104 2 = some (2, 1, 102) := by kernel_rfl
@[go_sem] theorem fo104 : fieldsOk Tryd.prog 104 = true := by kernel_rfl
@[go_sem] theorem ze104 : zeroT Tryd.prog 104 = some [.nil 1, .int .i64 0, .int .i8 0] := by kernel_rfl
@[go_sem] theorem sz106 : szT Tryd.prog 106 = some 1 := by kernel_rfl
@[go_sem] theorem ag106 : aggT Tryd.prog 106 = some false := by kernel_rfl
@[go_sem] theorem kd106 : kdT Tryd.prog 106 = some (.other) := by kernel_rfl
@[go_sem] theorem sz107 : szT Tryd.prog 107 = some 1 := by kernel_rfl
@[go_sem] theorem ag107 : aggT Tryd.prog 107 = some false := by kernel_rfl
@[go_sem] theorem kd107 : kdT Tryd.prog 107 = some (.int .u64) := by kernel_rfl
@[go_sem] theorem ze107 : zeroT Tryd.prog 107 = some [.int .u64 0] := by kernel_rfl
@[go_sem] theorem sz119 : szT Tryd.prog 119 = some 24 := by kernel_rfl
@[go_sem] theorem ag119 : aggT Tryd.prog 119 = some true := by kernel_rfl
@[go_sem] theorem kd119 : kdT Tryd.prog 119 = some (.other) := by kernel_rfl
@[go_sem] theorem ar119 : arT Tryd.prog 119 = some (24, 1, false) := by kernel_rfl
@[go_sem] theorem pr119_0 : prtT Tryd.prog 119 0 = some (0, 1, 5) := by kernel_rfl
@[go_sem] theorem pr119_1 : prtT Tryd.prog 119 1 = some (1, 1, 5) := by kernel_rfl
@[go_sem] theorem pr119_2 : prtT Tryd.prog 119 2 = some (2, 1, 5) := by kernel_rfl
@[go_sem] theorem pr119_3 : prtT Tryd.prog 119 3 = some (3, 1, 5) := by kernel_rfl
@[go_sem] theorem pr119_4 : prtT Tryd.prog 119 4 = some (4, 1, 5) := by kernel_rfl
@[go_sem] theorem pr119_5 : prtT Tryd.prog 119 5 = some (5, 1, 5) := by kernel_rfl
@[go_sem] theorem pr119_6 : prtT Tryd.prog 119 6 = some (6, 1, 5) := by kernel_rfl
@[go_sem] theorem pr119_7 : prtT Tryd.prog 119 7 = some (7, 1, 5) := by kernel_rfl
@[go_sem] theorem fo119 : fieldsOk Tryd.prog 119 = true := by kernel_rfl
@[go_sem] theorem ze119 : zeroT Tryd.prog 119 = some [.int .u8 0, .int .u8 0, .int .u8 0, .int .u8 0, .int .u8 0, .int .u8 0, .int .u8 0, .int .u8 0, .int .u8 0, .int .u8 0, .int .u8 0, .int .u8 0, .int .u8 0, .int .u8 0, .int .u8 0, .int .u8 0, .int .u8 0, .int .u8 0, .int .u8 0, .int .u8 0, .int .u8 0, .int .u8 0, .int .u8 0, .int .u8 0] := by kernel_rfl
@[go_sem] theorem sz124 : szT Tryd.prog 124 = some 1 := by kernel_rfl
@[go_sem] theorem ag124 : aggT Tryd.prog 124 = some false := by kernel_rfl
@[go_sem] theorem kd124 : kdT Tryd.prog 124 = some (.other) := by kernel_rfl
@[go_sem] theorem sz127 : szT Tryd.prog 127 = some 1 := by kernel_rfl
@[go_sem] theorem ag127 : aggT Tryd.prog 127 = some false := by kernel_rfl
@[go_sem] theorem kd127 : kdT Tryd.prog 127 = some (.other) := by kernel_rfl
@[go_sem] theorem sz134 : szT Tryd.prog 134 = some 20 := by kernel_rfl
@[go_sem] theorem ag134 : aggT Tryd.prog 134 = some true := by kernel_rfl
@[go_sem] theorem kd134 : kdT Tryd.prog 134 = some (.other) := by kernel_rfl
@[go_sem] theorem ar134 : arT Tryd.prog 134 = some (20, 1, false) := by kernel_rfl
@[go_sem] theorem pr134_0 : prtT Tryd.prog 134 0 = some (0, 1, 107) := by kernel_rfl
@[go_sem] theorem pr134_1 : prtT Tryd.prog 134 1 = some (1, 1, 107) := by kernel_rfl
@[go_sem] theorem pr134_2 : prtT Tryd.prog 134 2 = some (2, 1, 107) := by kernel_rfl
@[go_sem] theorem pr134_3 : prtT Tryd.prog 134 3 = some (3, 1, 107) := by kernel_rfl
@[go_sem] theorem pr134_4 : prtT Tryd.prog 134 4 = some (4, 1, 107) := by kernel_rfl
@[go_sem] theorem pr134_5 : prtT Tryd.prog 134 5 = some (5, 1, 107) := by kernel_rfl
@[go_sem] theorem pr134_6 : prtT Tryd.prog 134 6 = some (6, 1, 107) := by kernel_rfl
@[go_sem] theorem pr134_7 : prtT Tryd.prog 134 7 = some (7, 1, 107) := by kernel_rfl
@[go_sem] theorem fo134 : fieldsOk Tryd.prog 134 = true := by kernel_rfl
@[go_sem] theorem ze134 : zeroT Tryd.prog 134 = some [.int .u64 0, .int .u64 0, .int .u64 0, .int .u64 0, .int .u64 0, .int .u64 0, .int .u64 0, .int .u64 0, .int .u64 0, .int .u64 0, .int .u64 0, .int .u64 0, .int .u64 0, .int .u64 0, .int .u64 0, .int .u64 0, .int .u64 0, .int .u64 0, .int .u64 0, .int .u64 0] := by kernel_rfl
@[go_sem] theorem sz135 : szT Tryd.prog 135 = some 1 := by kernel_rfl
@[go_sem] theorem ag135 : aggT Tryd.prog 135 = some false := by kernel_rfl
@[go_sem] theorem kd135 : kdT Tryd.prog 135 = some (.int .u32) := by kernel_rfl
@[go_sem] theorem ze135 : zeroT Tryd.prog 135 = some [.int .u32 0] := by kernel_rfl
@[go_sem] theorem sz136 : szT Tryd.prog 136 = some 65 := by kernel_rfl
@[go_sem] theorem ag136 : aggT Tryd.prog 136 = some true := by kernel_rfl
@[go_sem] theorem kd136 : kdT Tryd.prog 136 = some (.other) := by kernel_rfl
@[go_sem] theorem ar136 : arT Tryd.prog 136 = some (65, 1, false) := by kernel_rfl
@[go_sem] theorem pr136_0 : prtT Tryd.prog 136 0 = some (0, 1, 5) := by kernel_rfl
@[go_sem] theorem pr136_1 : prtT Tryd.prog 136 1 = some (1, 1, 5) := by kernel_rfl
@[go_sem] theorem pr136_2 : prtT Tryd.prog 136 2 = some (2, 1, 5) := by kernel_rfl
@[go_sem] theorem pr136_3 : prtT Tryd.prog 136 3 = some (3, 1, 5) := by kernel_rfl
@[go_sem] theorem pr136_4 : prtT Tryd.prog 136 4 = some (4, 1, 5) := by kernel_rfl
@[go_sem] theorem pr136_5 : prtT Tryd.prog 136 5 = some (5, 1, 5) := by kernel_rfl
@[go_sem] theorem pr136_6 : prtT Tryd.prog 136 6 = some (6, 1, 5) := by kernel_rfl
@[go_sem] theorem pr136_7 : prtT Tryd.prog 136 7 = some (7, 1, 5) := by kernel_rfl
@[go_sem] theorem fo136 : fieldsOk Tryd.prog 136 = true := by kernel_rfl
@[go_sem] theorem sz141 : szT Tryd.prog 141 = some 1 := by kernel_rfl
@[go_sem] theorem ag141 : aggT Tryd.prog 141 = some false := by kernel_rfl
@[go_sem] theorem kd141 : kdT Tryd.prog 141 = some (.int .i64) := by kernel_rfl
@[go_sem] theorem ze141 : zeroT Tryd.prog 141 = some [.int .i64 0] := by kernel_rfl
@[go_sem] theorem sz144 : szT Tryd.prog 144 = some 1 := by kernel_rfl
@[go_sem] theorem ag144 : aggT Tryd.prog 144 = some false := by kernel_rfl
@[go_sem] theorem kd144 : kdT Tryd.prog 144 = some (.other) := by kernel_rfl
@[go_sem] theorem sz150 : szT Tryd.prog 150 = some 3 := by kernel_rfl
@[go_sem] theorem ag150 : aggT Tryd.prog 150 = some true := by kernel_rfl
@[go_sem] theorem kd150 : kdT Tryd.prog 150 = some (.other) := by kernel_rfl
@[go_sem] theorem fl150_0 : fldT Tryd.prog 150 0 = some (0, 1, false) := by kernel_rfl
@[go_sem] theorem pr150_0 : prtT Tryd.prog 150 0 = some (0, 1, 9) := by kernel_rfl
@[go_sem] theorem fl150_1 : fldT Tryd.prog 150 1 = some (1, 1, false) := by kernel_rfl
@[go_sem] theorem pr150_1 : prtT Tryd.prog 150 1 = some (1, 1, 9) := by kernel_rfl
@[go_sem] theorem fl150_2 : fldT Tryd.prog 150 2 = some (2, 1, false) := by kernel_rfl
@[go_sem] theorem pr150_2 : prtT Tryd.prog 150 2 = some (2, 1, 82) := by kernel_rfl
@[go_sem] theorem fo150 : fieldsOk Tryd.prog 150 = true := by kernel_rfl
@[go_sem] theorem ze150 : zeroT Tryd.prog 150 = some [.str [], .str [], .err false] := by kernel_rfl
@[go_sem] theorem sz151 : szT Tryd.prog 151 = some 3 := by kernel_rfl
@[go_sem] theorem ag151 : aggT Tryd.prog 151 = some true := by kernel_rfl
@[go_sem] theorem kd151 : kdT Tryd.prog 151 = some (.other) := by kernel_rfl
@[go_sem] theorem fl151_0 : fldT Tryd.prog 151 0 = some (0, 1, false) := by kernel_rfl
@[go_sem] theorem pr151_0 : prtT Tryd.prog 151 0 = some (0, 1, 9) := by kernel_rfl
@[go_sem] theorem fl151_1 : fldT Tryd.prog 151 1 = some (1, 1, false) := by kernel_rfl
@[go_sem] theorem pr151_1 : prtT Tryd.prog 151 1 = some (1, 1, 9) := by kernel_rfl
@[go_sem] theorem fl151_2 : fldT Tryd.prog 151 2 = some (2, 1, false) := by kernel_rfl
@[go_sem] theorem pr151_2 : prtT Tryd.prog 151 2 = some (2, 1, 82) := by kernel_rfl
@[go_sem] theorem fo151 : fieldsOk Tryd.prog 151 = true := by kernel_rfl
@[go_sem] theorem ze151 : zeroT Tryd.prog 151 = some [.str [], .str [], .err false] := by kernel_rfl
@[go_sem] theorem sz153 : szT Tryd.prog 153 = some 32 := by kernel_rfl
@[go_sem] theorem ag153 : aggT Tryd.prog 153 = some true := by kernel_rfl
@[go_sem] theorem kd153 : kdT Tryd.prog 153 = some (.other) := by kernel_rfl
@[go_sem] theorem ar153 : arT Tryd.prog 153 = some (32, 1, false) := by kernel_rfl
@[go_sem] theorem pr153_0 : prtT Tryd.prog 153 0 = some (0, 1, 5) := by kernel_rfl
@[go_sem] theorem pr153_1 : prtT Tryd.prog 153 1 = some (1, 1, 5) := by kernel_rfl
@[go_sem] theorem pr153_2 : prtT Tryd.prog 153 2 = some (2, 1, 5) := by kernel_rfl
@[go_sem] theorem pr153_3 : prtT Tryd.prog 153 3 = some (3, 1, 5) := by kernel_rfl
@[go_sem] theorem pr153_4 : prtT Tryd.prog 153 4 = some (4, 1, 5) := by kernel_rfl
@[go_sem] theorem pr153_5 : prtT Tryd.prog 153 5 = some (5, 1, 5) := by kernel_rfl
@[go_sem] theorem pr153_6 : prtT Tryd.prog 153 6 = some (6, 1, 5) := by kernel_rfl
@[go_sem] theorem pr153_7 : prtT Tryd.prog 153 7 = some (7, 1, 5) := by kernel_rfl
@[go_sem] theorem fo153 : fieldsOk Tryd.prog 153 = true := by kernel_rfl
@[go_sem] theorem ze153 : zeroT Tryd.prog 153 = some [.int .u8 0, .int .u8 0, .int .u8 0, .int .u8 0, .int .u8 0, .int .u8 0, .int .u8 0, .int .u8 0, .int .u8 0, .int .u8 0, .int .u8 0, .int .u8 0, .int .u8 0, .int .u8 0, .int .u8 0, .int .u8 0, .int .u8 0, .int .u8 0, .int .u8 0, .int .u8 0, .int .u8 0, .int .u8 0, .int .u8 0, .int .u8 0, .int .u8 0, .int .u8 0, .int .u8 0, .int .u8 0, .int .u8 0, .int .u8 0, .int .u8 0, .int .u8 0] := by kernel_rfl
@[go_sem] theorem sz154 : szT Tryd.prog 154 = some 64 := by kernel_rfl
@[go_sem] theorem ag154 : aggT Tryd.prog 154 = some true := by kernel_rfl
@[go_sem] theorem kd154 : kdT Tryd.prog 154 = some (.other) := by kernel_rfl
@[go_sem] theorem ar154 : arT Tryd.prog 154 = some (64, 1, false) := by kernel_rfl
@[go_sem] theorem pr154_0 : prtT Tryd.prog 154 0 = some (0, 1, 5) := by kernel_rfl
@[go_sem] theorem pr154_1 : prtT Tryd.prog 154 1 = some (1, 1, 5) := by kernel_rfl
@[go_sem] theorem pr154_2 : prtT Tryd.prog 154 2 = some (2, 1, 5) := by kernel_rfl
@[go_sem] theorem pr154_3 : prtT Tryd.prog 154 3 = some (3, 1, 5) := by kernel_rfl
@[go_sem] theorem pr154_4 : prtT Tryd.prog 154 4 = some (4, 1, 5) := by kernel_rfl
@[go_sem] theorem pr154_5 : prtT Tryd.prog 154 5 = some (5, 1, 5) := by kernel_rfl
@[go_sem] theorem pr154_6 : prtT Tryd.prog 154 6 = some (6, 1, 5) := by kernel_rfl
@[go_sem] theorem pr154_7 : prtT Tryd.prog 154 7 = some (7, 1, 5) := by kernel_rfl
@[go_sem] theorem fo154 : fieldsOk Tryd.prog 154 = true := by kernel_rfl
@[go_sem] theorem sz155 : szT Tryd.prog 155 = some 1 := by kernel_rfl
@[go_sem] theorem ag155 : aggT Tryd.prog 155 = some false := by kernel_rfl
@[go_sem] theorem kd155 : kdT Tryd.prog 155 = some (.other) := by kernel_rfl
@[go_sem] theorem sz156 : szT Tryd.prog 156 = some 1 := by kernel_rfl
@[go_sem] theorem ag156 : aggT Tryd.prog 156 = some true := by kernel_rfl
@[go_sem] theorem kd156 : kdT Tryd.prog 156 = some (.other) := by kernel_rfl
@[go_sem] theorem fl156_0 : fldT Tryd.prog 156 0 = some (0, 1, false) := by kernel_rfl
@[go_sem] theorem pr156_0 : prtT Tryd.prog 156 0 = some (0, 1, 9) := by kernel_rfl
@[go_sem] theorem fo156 : fieldsOk Tryd.prog 156 = true := by kernel_rfl
@[go_sem] theorem eqs156 (a0 b0 : List UInt8) : eqStT Tryd.prog 6 156 [.str a0] [.str b0] = some ((decide (a0 = b0)) && true) := by kernel_rfl
@[go_sem] theorem eqg156 : Go.Program.eqGuardType Tryd.prog (Go.Program.depth Tryd.prog) 156 = false := by kernel_rfl
@[go_sem] theorem ze156 : zeroT Tryd.prog 156 = some [.str []] := by kernel_rfl
@[go_sem] theorem sz157 : szT Tryd.prog 157 = some 1 := by kernel_rfl
@[go_sem] theorem ag157 : aggT Tryd.prog 157 = some true := by kernel_rfl
@[go_sem] theorem kd157 : kdT Tryd.prog 157 = some (.other) := by kernel_rfl
@[go_sem] theorem fl157_0 : fldT Tryd.prog 157 0 = some (0, 1, false) := by kernel_rfl
@[go_sem] theorem pr157_0 : prtT Tryd.prog 157 0 = some (0, 1, 9) := by kernel_rfl
@[go_sem] theorem fo157 : fieldsOk Tryd.prog 157 = true := by kernel_rfl
@[go_sem] theorem ze157 : zeroT Tryd.prog 157 = some [.str []] := by kernel_rfl
@[go_sem] theorem sz160 : szT Tryd.prog 160 = some 4 := by kernel_rfl
@[go_sem] theorem ag160 : aggT Tryd.prog 160 = some true := by kernel_rfl
@[go_sem] theorem kd160 : kdT Tryd.prog 160 = some (.other) := by kernel_rfl
@[go_sem] theorem fl160_0 : fldT Tryd.prog 160 0 = some (0, 1, false) := by kernel_rfl
@[go_sem] theorem pr160_0 : prtT Tryd.prog 160 0 = some (0, 1, 17) := by kernel_rfl
@[go_sem] theorem fl160_1 : fldT Tryd.prog 160 1 = some (1, 1, false) := by kernel_rfl
@[go_sem] theorem pr160_1 : prtT Tryd.prog 160 1 = some (1, 1, 17) := by kernel_rfl
@[go_sem] theorem fl160_2 : fldT Tryd.prog 160 2 = some (2, 1, false) := by kernel_rfl
@[go_sem] theorem pr160_2 : prtT Tryd.prog 160 2 = some (2, 1, 17) := by kernel_rfl
@[go_sem] theorem fl160_3 : fldT Tryd.prog 160 3 = some (3, 1, false) := by kernel_rfl
@[go_sem] theorem pr160_3 : prtT Tryd.prog 160 3 = some (3, 1, 9) := by kernel_rfl
@[go_sem] theorem fo160 : fieldsOk Tryd.prog 160 = true := by kernel_rfl
@[go_sem] theorem sz161 : szT Tryd.prog 161 = some 4 := by kernel_rfl
@[go_sem] theorem ag161 : aggT Tryd.prog 161 = some true := by kernel_rfl
@[go_sem] theorem kd161 : kdT Tryd.prog 161 = some (.other) := by kernel_rfl
@[go_sem] theorem fl161_0 : fldT Tryd.prog 161 0 = some (0, 1, false) := by kernel_rfl
@[go_sem] theorem pr161_0 : prtT Tryd.prog 161 0 = some (0, 1, 17) := by kernel_rfl
@[go_sem] theorem fl161_1 : fldT Tryd.prog 161 1 = some (1, 1, false) := by kernel_rfl
@[go_sem] theorem pr161_1 : prtT Tryd.prog 161 1 = some (1, 1, 17) := by kernel_rfl
@[go_sem] theorem fl161_2 : fldT Tryd.prog 161 2 = some (2, 1, false) := by kernel_rfl
@[go_sem] theorem pr161_2 : prtT Tryd.prog 161 2 = some (2, 1, 17) := by kernel_rfl
@[go_sem] theorem fl161_3 : fldT Tryd.prog 161 3 = some (3, 1, false) := by kernel_rfl
@[go_sem] theorem pr161_3 : prtT Tryd.prog 161 3 = some (3, 1, 9) := by kernel_rfl
@[go_sem] theorem fo161 : fieldsOk Tryd.prog 161 = true := by kernel_rfl
@[go_sem] theorem sz162 : szT Tryd.prog 162 = some 0 := by kernel_rfl
@[go_sem] theorem ag162 : aggT Tryd.prog 162 = some true := by kernel_rfl
@[go_sem] theorem kd162 : kdT Tryd.prog 162 = some (.other) := by kernel_rfl
@[go_sem] theorem ar162 : arT Tryd.prog 162 = some (0, 1, false) := by kernel_rfl
@[go_sem] theorem fo162 : fieldsOk Tryd.prog 162 = true := by kernel_rfl
@[go_sem] theorem sz163 : szT Tryd.prog 163 = some 0 := by kernel_rfl
@[go_sem] theorem ag163 : aggT Tryd.prog 163 = some true := by kernel_rfl
@[go_sem] theorem kd163 : kdT Tryd.prog 163 = some (.other) := by kernel_rfl
@[go_sem] theorem pr163_0 : prtT Tryd.prog 163 0 = some (0, 0, 162) := by kernel_rfl
@[go_sem] theorem fo163 : fieldsOk Tryd.prog 163 = true := by kernel_rfl
@[go_sem] theorem sz164 : szT Tryd.prog 164 = some 0 := by kernel_rfl
@[go_sem] theorem ag164 : aggT Tryd.prog 164 = some true := by kernel_rfl
@[go_sem] theorem kd164 : kdT Tryd.prog 164 = some (.other) := by kernel_rfl
@[go_sem] theorem pr164_0 : prtT Tryd.prog 164 0 = some (0, 0, 162) := by kernel_rfl
@[go_sem] theorem fo164 : fieldsOk Tryd.prog 164 = true := by kernel_rfl
@[go_sem] theorem sz165 : szT Tryd.prog 165 = some 1 := by kernel_rfl
@[go_sem] theorem ag165 : aggT Tryd.prog 165 = some false := by kernel_rfl
@[go_sem] theorem kd165 : kdT Tryd.prog 165 = some (.int .u8) := by kernel_rfl
@[go_sem] theorem ze165 : zeroT Tryd.prog 165 = some [.int .u8 0] := by kernel_rfl
@[go_sem] theorem sz166 : szT Tryd.prog 166 = some 1 := by kernel_rfl
@[go_sem] theorem ag166 : aggT Tryd.prog 166 = some false := by kernel_rfl
@[go_sem] theorem kd166 : kdT Tryd.prog 166 = some (.int .u8) := by kernel_rfl
@[go_sem] theorem ze166 : zeroT Tryd.prog 166 = some [.int .u8 0] := by kernel_rfl
@[go_sem] theorem sz168 : szT Tryd.prog 168 = some 1 := by kernel_rfl
@[go_sem] theorem ag168 : aggT Tryd.prog 168 = some false := by kernel_rfl
@[go_sem] theorem kd168 : kdT Tryd.prog 168 = some (.int .i32) := by kernel_rfl
@[go_sem] theorem ze168 : zeroT Tryd.prog 168 = some [.int .i32 0] := by kernel_rfl
@[go_sem] theorem sz169 : szT Tryd.prog 169 = some 1 := by kernel_rfl
@[go_sem] theorem ag169 : aggT Tryd.prog 169 = some false := by kernel_rfl
@[go_sem] theorem kd169 : kdT Tryd.prog 169 = some (.int .i32) := by kernel_rfl
@[go_sem] theorem ze169 : zeroT Tryd.prog 169 = some [.int .i32 0] := by kernel_rfl
@[go_sem] theorem sz170 : szT Tryd.prog 170 = some 11 := by kernel_rfl
@[go_sem] theorem ag170 : aggT Tryd.prog 170 = some true := by kernel_rfl
@[go_sem] theorem kd170 : kdT Tryd.prog 170 = some (.other) := by kernel_rfl
@[go_sem] theorem fl170_0 : fldT Tryd.prog 170 0 = some (0, 1, false) := by kernel_rfl
@[go_sem] theorem pr170_0 : prtT Tryd.prog 170 0 = some (0, 1, 12) := by kernel_rfl
@[go_sem] theorem fl170_1 : fldT Tryd.prog 170 1 = some (1, 1, false) := by kernel_rfl
@[go_sem] theorem pr170_1 : prtT Tryd.prog 170 1 = some (1, 1, 12) := by kernel_rfl
@[go_sem] theorem fl170_2 : fldT Tryd.prog 170 2 = some (2, 1, false) := by kernel_rfl
@[go_sem] theorem pr170_2 : prtT Tryd.prog 170 2 = some (2, 1, 135) := by kernel_rfl
@[go_sem] theorem fl170_3 : fldT Tryd.prog 170 3 = some (3, 1, false) := by kernel_rfl
@[go_sem] theorem pr170_3 : prtT Tryd.prog 170 3 = some (3, 1, 165) := by kernel_rfl
@[go_sem] theorem fl170_4 : fldT Tryd.prog 170 4 = some (4, 1, false) := by kernel_rfl
@[go_sem] theorem pr170_4 : prtT Tryd.prog 170 4 = some (4, 1, 5) := by kernel_rfl
@[go_sem] theorem fl170_5 : fldT Tryd.prog 170 5 = some (5, 1, false) := by kernel_rfl
@[go_sem] theorem pr170_5 : prtT Tryd.prog 170 5 = some (5, 1, 5) := by kernel_rfl
@[go_sem] theorem fl170_6 : fldT Tryd.prog 170 6 = some (6, 1, false) := by kernel_rfl
@[go_sem] theorem pr170_6 : prtT Tryd.prog 170 6 = some (6, 1, 166) := by kernel_rfl
@[go_sem] theorem fl170_7 : fldT Tryd.prog 170 7 = some (7, 1, false) := by kernel_rfl
@[go_sem] theorem pr170_7 : prtT Tryd.prog 170 7 = some (7, 1, 167) := by kernel_rfl
@[go_sem] theorem fl170_8 : fldT Tryd.prog 170 8 = some (8, 1, false) := by kernel_rfl
@[go_sem] theorem pr170_8 : prtT Tryd.prog 170 8 = some (8, 1, 106) := by kernel_rfl
@[go_sem] theorem fl170_9 : fldT Tryd.prog 170 9 = some (9, 1, false) := by kernel_rfl
@[go_sem] theorem pr170_9 : prtT Tryd.prog 170 9 = some (9, 1, 168) := by kernel_rfl
@[go_sem] theorem fl170_10 : fldT Tryd.prog 170 10 = some (10, 1, false) := by kernel_rfl
@[go_sem] theorem pr170_10 : prtT Tryd.prog 170 10 = some (10, 1, 169) := by kernel_rfl
@[go_sem] theorem fo170 : fieldsOk Tryd.prog 170 = true := by kernel_rfl
@[go_sem] theorem sz171 : szT Tryd.prog 171 = some 11 := by kernel_rfl
@[go_sem] theorem ag171 : aggT Tryd.prog 171 = some true := by kernel_rfl
@[go_sem] theorem kd171 : kdT Tryd.prog 171 = some (.other) := by kernel_rfl
@[go_sem] theorem fl171_0 : fldT Tryd.prog 171 0 = some (0, 1, false) := by kernel_rfl
@[go_sem] theorem pr171_0 : prtT Tryd.prog 171 0 = some (0, 1, 12) := by kernel_rfl
@[go_sem] theorem fl171_1 : fldT Tryd.prog 171 1 = some (1, 1, false) := by kernel_rfl
@[go_sem] theorem pr171_1 : prtT Tryd.prog 171 1 = some (1, 1, 12) := by kernel_rfl
@[go_sem] theorem fl171_2 : fldT Tryd.prog 171 2 = some (2, 1, false) := by kernel_rfl
@[go_sem] theorem pr171_2 : prtT Tryd.prog 171 2 = some (2, 1, 135) := by kernel_rfl
@[go_sem] theorem fl171_3 : fldT Tryd.prog 171 3 = some (3, 1, false) := by kernel_rfl
@[go_sem] theorem pr171_3 : prtT Tryd.prog 171 3 = some (3, 1, 165) := by kernel_rfl
@[go_sem] theorem fl171_4 : fldT Tryd.prog 171 4 = some (4, 1, false) := by kernel_rfl
@[go_sem] theorem pr171_4 : prtT Tryd.prog 171 4 = some (4, 1, 5) := by kernel_rfl
@[go_sem] theorem fl171_5 : fldT Tryd.prog 171 5 = some (5, 1, false) := by kernel_rfl
@[go_sem] theorem pr171_5 : prtT Tryd.prog 171 5 = some (5, 1, 5) := by kernel_rfl
@[go_sem] theorem fl171_6 : fldT Tryd.prog 171 6 = some (6, 1, false) := by kernel_rfl
@[go_sem] theorem pr171_6 : prtT Tryd.prog 171 6 = some (6, 1, 166) := by kernel_rfl
@[go_sem] theorem fl171_7 : fldT Tryd.prog 171 7 = some (7, 1, false) := by kernel_rfl
@[go_sem] theorem pr171_7 : prtT Tryd.prog 171 7 = some (7, 1, 167) := by kernel_rfl
@[go_sem] theorem fl171_8 : fldT Tryd.prog 171 8 = some (8, 1, false) := by kernel_rfl
@[go_sem] theorem pr171_8 : prtT Tryd.prog 171 8 = some (8, 1, 106) := by kernel_rfl
@[go_sem] theorem fl171_9 : fldT Tryd.prog 171 9 = some (9, 1, false) := by kernel_rfl
@[go_sem] theorem pr171_9 : prtT Tryd.prog 171 9 = some (9, 1, 168) := by kernel_rfl
@[go_sem] theorem fl171_10 : fldT Tryd.prog 171 10 = some (10, 1, false) := by kernel_rfl
@[go_sem] theorem pr171_10 : prtT Tryd.prog 171 10 = some (10, 1, 169) := by kernel_rfl
@[go_sem] theorem fo171 : fieldsOk Tryd.prog 171 = true := by kernel_rfl
end Go.Proofs.YtogponhonjiidaaDoor
set_option linter.unusedVariables false
set_option linter.unusedSimpArgs false
namespace Go.Sx
variable {P : Program} {n : Nat} {Q : Exit → AS → Prop}
/-- whatever meets σ meets τ -/
def Gh (n : Nat) (σ τ : AS) : Prop := ∀ κ M0 a w, St κ M0 n σ a w → St κ M0 n τ a w
theorem Gh.refl (σ : AS) : Gh n σ σ := fun _ _ _ _ h => h
theorem Gh.trans {σ τ ρ : AS} (h : Gh n σ τ) (k : Gh n τ ρ) : Gh n σ ρ := fun κ M0 a w s => k κ M0 a w (h κ M0 a w s)
theorem AWP.gh {c : Code} {σ τ : AS} (h : Gh n σ τ) (k : AWP P n c τ Q) : AWP P n c σ Q := fun κ M0 a w s => k κ M0 a w (h κ M0 a w s)
theorem Gh.keep {env : Env} {B : Bx} (ds : List Nat) : Gh n ⟨env, B⟩ ⟨keepL env ds, B⟩ := by
 intro κ M0 a w s
 obtain ⟨M, ν, h1, h2, h3, h4, h5, h6⟩ := s
 exact ⟨M, ν, h1, h2, h3, fun d t e => h4 d t (keepL_lookup env d t ds e), h5, h6⟩
def noDup : List Nat → Bool
 | [] => true
 | k :: ks => ks.all (fun j => Bool.not (j == k)) && noDup ks
theorem noDup_spec : ∀ {l : List Nat}, noDup l = true → l.Nodup
 | [], _ => List.nodup_nil
 | k :: ks, h => by
  simp only [noDup, Bool.and_eq_true, List.all_eq_true] at h
  refine List.nodup_cons.2 ⟨fun hm => ?_, noDup_spec h.2⟩
  have := h.1 k hm
  simp at this
/-- boxes are let go of -/
theorem Gh.drop {env : Env} {B B' : Bx} (hs : bxSub B B') (hn : noDup (B'.map (·.1)) = true) : Gh n ⟨env, B⟩ ⟨env, B'⟩ := by
 intro κ M0 a w s
 obtain ⟨M, ν, h1, h2, h3, h4, h5, h6⟩ := s
 exact ⟨M, ν, h1, h2, h3, h4, h5.drop (bxSub_spec hs) (noDup_spec hn), h6⟩
def rnm (j k i : Nat) : Nat := bif i == j then k else i
def renE (j k : Nat) : Env → Env
 | [] => []
 | p :: env => (p.1, p.2.ren (rnm j k)) :: renE j k env
def renB (j k : Nat) : Bx → Bx
 | [] => []
 | p :: B => (rnm j k p.1, p.2.ren (rnm j k)) :: renB j k B
theorem renE_lookup {j k d : Nat} {t : T} : ∀ {env : Env}, (renE j k env).lookup d = some t → ∃ u, env.lookup d = some u ∧ t = u.ren (rnm j k)
 | [], h => by simp [renE] at h
 | p :: env, h => by
  obtain ⟨e, u⟩ := p
  simp only [renE, List.lookup_cons] at h ⊢
  cases hb : (d == e) with
  | true => rw [hb] at h; simp only [Option.some.injEq] at h; exact ⟨u, rfl, h.symm⟩
  | false => rw [hb] at h; exact renE_lookup h
theorem renB_mem {j k i : Nat} {r : Res} : ∀ {B : Bx}, (i, r) ∈ renB j k B → ∃ i0 r0, (i0, r0) ∈ B ∧ i = rnm j k i0 ∧ r = r0.ren (rnm j k)
 | p :: B, h => by
  simp only [renB] at h
  rcases List.mem_cons.1 h with h | h
  ·cases h; exact ⟨p.1, p.2, by simp, rfl, rfl⟩
  ·obtain ⟨i0, r0, hm, e1, e2⟩ := renB_mem h
   exact ⟨i0, r0, List.mem_cons_of_mem _ hm, e1, e2⟩
theorem renB_keys {j k : Nat} : ∀ {B : Bx}, (renB j k B).map (·.1) = (B.map (·.1)).map (rnm j k)
 | [] => rfl
 | p :: B => by simp only [renB, List.map_cons, renB_keys]
theorem nodup_map_inj {f : Nat → Nat} : ∀ {l : List Nat}, l.Nodup → (∀ x ∈ l, ∀ y ∈ l, f x = f y → x = y) → (l.map f).Nodup
 | [], _, _ => by simp
 | a :: l, hn, hf => by
  simp only [List.nodup_cons] at hn
  simp only [List.map_cons, List.nodup_cons]
  refine ⟨fun hm => ?_, nodup_map_inj hn.2 fun x hx y hy => hf x (List.mem_cons_of_mem _ hx) y (List.mem_cons_of_mem _ hy)⟩
  obtain ⟨x, hx, e⟩ := List.mem_map.1 hm
  have := hf x (List.mem_cons_of_mem _ hx) a (by simp) e
  subst this
  exact hn.1 hx
theorem Res.ok_ren_gen {M : Mem} {ν : Nu} {w : World} {ρ : Nat → Nat} {k : Nat} : ∀ {r : Res}, (r.ren ρ).ok M ν w (ρ k) ↔ r.ok M (fun i => ν (ρ i)) w k
 | .cells cs => by
  simp only [Res.ren, Res.ok]
  constructor
  ·rintro ⟨b, c, et, h1, h2, h3⟩; exact ⟨b, c, et, h1, h2, (Cell.reps_ren cs _).1 h3⟩
  ·rintro ⟨b, c, et, h1, h2, h3⟩; exact ⟨b, c, et, h1, h2, (Cell.reps_ren cs _).2 h3⟩
 | .row sz rows => by simp only [Res.ren, Res.ok]
 | .mp ag es => by simp only [Res.ren, Res.ok]
theorem Gh.rename {env : Env} {B : Bx} (j k : Nat) (hj : lowN j = true) (hk : lowN k = true) (hf : Env.fresh k env = true) (hfB : Bx.fresh k B = true) : Gh n ⟨env, B⟩ ⟨renE j k env, renB j k B⟩ := by
  intro κ M0 a w s
  have hj := lowN_spec hj
  have hk := lowN_spec hk
  obtain ⟨M, ν, h1, h2, h3, h4, h5, h6⟩ := s
  have agree : ∀ i, i ≠ k → ν.set k (ν j) (rnm j k i) = ν i := by
    intro i hi
    unfold rnm
    cases hb : (i == j) with
    | true => have : i = j := by simpa using hb
              subst this; simp [Nu.set_self]
    | false => simp only [cond_false]; exact Nu.set_other i hi
  have keyne : ∀ i r, (i, r) ∈ B → i ≠ k := fun i r hm => (Bx.fresh_spec hfB hm).1
  refine ⟨M, ν.set k (ν j), h1, h2, h3, ?_, ⟨h5.os, h5.tape, h5.output, Nat.zero_le _, h5.size, h5.unch, h5.fro, ?_, ?_, ?_, ?_⟩, ?_⟩
  · intro d t e
    obtain ⟨u, hu, rfl⟩ := renE_lookup e
    exact (T.rep_ren u _).2 (T.rep_fresh agree u _ (Env.fresh_spec hf (lookup_mem hu)) (h4 d u hu))
  · intro i r hm
    obtain ⟨i0, r0, hm0, rfl, rfl⟩ := renB_mem hm
    exact Res.ok_ren_gen.2 (Res.ok_fresh agree (keyne i0 r0 hm0) (Bx.fresh_spec hfB hm0).2 (h5.res i0 r0 hm0))
  · intro i r b hm hb
    obtain ⟨i0, r0, hm0, rfl, rfl⟩ := renB_mem hm
    rw [agree i0 (keyne i0 r0 hm0)] at hb
    obtain ⟨g1, g2⟩ := h5.away i0 r0 b hm0 hb
    exact ⟨g1, g2⟩
  · intro i r i' r' b hm hm' hb hb'
    obtain ⟨i0, r0, hm0, rfl, rfl⟩ := renB_mem hm
    obtain ⟨i1, r1, hm1, rfl, rfl⟩ := renB_mem hm'
    rw [agree i0 (keyne i0 r0 hm0)] at hb
    rw [agree i1 (keyne i1 r1 hm1)] at hb'
    rw [h5.inj i0 r0 i1 r1 b hm0 hm1 hb hb']
  · rw [renB_keys]
    refine nodup_map_inj h5.nodup fun x hx y hy e => ?_
    obtain ⟨p, hp, rfl⟩ := List.mem_map.1 hx
    obtain ⟨q, hq, rfl⟩ := List.mem_map.1 hy
    have hpk := keyne p.1 p.2 hp
    have hqk := keyne q.1 q.2 hq
    unfold rnm at e
    cases hb : (p.1 == j) with
    | true =>
      cases hc : (q.1 == j) with
      | true => have h1 : p.1 = j := by simpa using hb
                have h2 : q.1 = j := by simpa using hc
                rw [h1, h2]
      | false => rw [hb, hc] at e; exact absurd e.symm hqk
    | false =>
      cases hc : (q.1 == j) with
      | true => rw [hb, hc] at e; exact absurd e hpk
      | false => rw [hb, hc] at e; exact e
  · intro i hi
    rw [Nu.set_other i (by omega)]; exact h6 i hi
def frE (k sz : Nat) (rows : List (List C)) : Env → Env
 | [] => []
 | p :: env => (p.1, p.2.fr k sz rows) :: frE k sz rows env
def Env.frOk (k len : Nat) : Env → Prop
 | [] => True
 | p :: env => p.2.frOk k len ∧ Env.frOk k len env
def frB (k sz : Nat) (rows : List (List C)) : Bx → Bx
 | [] => []
 | p :: B => (match p.2 with
  | .cells cs => (p.1, .cells (Cell.frs k sz rows cs))
  | r => (p.1, r)) :: frB k sz rows B
def Bx.frOk (k len : Nat) : Bx → Prop
 | [] => True
 | p :: B => (match p.2 with
  | .cells cs => Cell.frOks k len cs
  | _ => True) ∧ Bx.frOk k len B
theorem frE_lookup {k sz len d : Nat} {rows : List (List C)} {t : T} : ∀ {env : Env}, Env.frOk k len env → (frE k sz rows env).lookup d = some t → ∃ u, env.lookup d = some u ∧ t = u.fr k sz rows ∧ u.frOk k len
 | [], _, h => by simp [frE] at h
 | p :: env, ho, h => by
  obtain ⟨e, u⟩ := p
  simp only [Env.frOk] at ho
  simp only [frE, List.lookup_cons] at h ⊢
  cases hb : (d == e) with
  | true => rw [hb] at h; simp only [Option.some.injEq] at h; exact ⟨u, rfl, h.symm, ho.1⟩
  | false => rw [hb] at h; exact frE_lookup ho.2 h
theorem frB_mem {k sz len i : Nat} {rows : List (List C)} {r : Res} : ∀ {B : Bx}, Bx.frOk k len B → (i, r) ∈ frB k sz rows B → ∃ r0, (i, r0) ∈ B ∧ ((r = r0 ∧ ∀ cs, r0 ≠ .cells cs) ∨ ∃ cs, r0 = .cells cs ∧ r = .cells (Cell.frs k sz rows cs) ∧ Cell.frOks k len cs)
 | p :: B, ho, h => by
  obtain ⟨i', r'⟩ := p
  simp only [Bx.frOk] at ho
  simp only [frB] at h
  rcases List.mem_cons.1 h with h | h
  ·cases r' with
   | cells cs => cases h; exact ⟨.cells cs, by simp, .inr ⟨cs, rfl, rfl, ho.1⟩⟩
   | row s rs => cases h; exact ⟨.row s rs, by simp, .inl ⟨rfl, by intro cs; simp⟩⟩
   | mp ag es => cases h; exact ⟨.mp ag es, by simp, .inl ⟨rfl, by intro cs; simp⟩⟩
  ·obtain ⟨r0, hm, h⟩ := frB_mem ho.2 h
   exact ⟨r0, List.mem_cons_of_mem _ hm, h⟩
theorem frB_keys {k sz : Nat} {rows : List (List C)} : ∀ {B : Bx}, (frB k sz rows B).map (·.1) = B.map (·.1)
 | [] => rfl
 | (i, .cells cs) :: B => by simp only [frB, List.map_cons, frB_keys]
 | (i, .row s rs) :: B => by simp only [frB, List.map_cons, frB_keys]
 | (i, .mp s rs) :: B => by simp only [frB, List.map_cons, frB_keys]
theorem Bx.frOk_drop {k j len : Nat} : ∀ {B : Bx}, Bx.frOk k len B → Bx.frOk k len (Bx.drop j B)
 | [], _ => trivial
 | p :: B, h => by
  simp only [Bx.frOk] at h
  unfold Bx.drop
  cases hp : (p.1 == j) with
  | true => exact h.2
  | false => exact ⟨h.1, Bx.frOk_drop h.2⟩
theorem Gh.freeze {env : Env} {B : Bx} (k : Nat) {sz : Nat} {rows : List (List C)} (hb : B.lookup k = some (.row sz rows)) (hlow : lowN k = true) (hE : Env.frOk k rows.length env) (hB : Bx.frOk k rows.length B) :
  Gh n ⟨env, B⟩ ⟨frE k sz rows env, frB k sz rows (Bx.drop k B)⟩ := by
 intro κ M0 a w s
 obtain ⟨M, ν, h1, h2, h3, h4, h5, h6⟩ := s
 obtain ⟨M', g1, g2, g3⟩ := h5.freeze (lookup_box hb) (lowN_spec hlow)
 have hB' := Bx.frOk_drop (j := k) hB
 refine ⟨M', ν, h1.trans g1, h2, h3, ?_, ⟨g2.os, g2.tape, g2.output, Nat.zero_le _, g2.size, g2.unch, g2.fro, ?_, ?_, ?_, by rw [frB_keys]; exact g2.nodup⟩, h6⟩
 ·intro d t e
  obtain ⟨u, hu, rfl, hok⟩ := frE_lookup hE e
  exact T.rep_fr g3 u _ hok (h4 d u hu)
 ·intro i r hm
  obtain ⟨r0, hm0, ⟨rfl, _⟩ | ⟨cs, rfl, rfl, hok⟩⟩ := frB_mem hB' hm
  ·exact g2.res i r hm0
  ·have h0 := h5.res i _ (Bx.mem_drop h5.nodup hm0).1
   simp only [Res.ok] at h0 ⊢
   obtain ⟨b, c, et, e1, e2, e3⟩ := h0
   exact ⟨b, c, et, e1, e2, Cell.reps_fr g3 cs _ hok e3⟩
 ·intro i r b hm hb
  obtain ⟨r0, hm0, _⟩ := frB_mem hB' hm
  exact g2.away i r0 b hm0 hb
 ·intro i r i' r' b hm hm' hb hb'
  obtain ⟨r0, hm0, _⟩ := frB_mem hB' hm
  obtain ⟨r1, hm1, _⟩ := frB_mem hB' hm'
  exact g2.inj i r0 i' r1 b hm0 hm1 hb hb'
theorem Sat.nilrow {κ : Kap} {M : Mem} {ν : Nu} {B : Bx} {w : World} (h : Sat κ M ν B w) (k sz : Nat) (hfB : Bx.fresh k B = true) : Sat κ M (ν.set k ⟨none, 0⟩) ((k, .row sz []) :: B) w := by
 refine ⟨h.os, h.tape, h.output, Nat.zero_le _, h.size, h.unch, h.fro, ?_, ?_, ?_, ?_⟩
 ·intro j r hm
  rcases List.mem_cons.1 hm with e | hm
  ·cases e; simp only [Res.ok, Nu.set_self]; exact ⟨Nat.le_refl _, Nat.zero_le _, .inl (by simp)⟩
  ·obtain ⟨hj, hc⟩ := Bx.fresh_spec hfB hm
   exact Res.ok_fresh Nu.set_other hj hc (h.res j r hm)
 ·intro j r b hm hb
  rcases List.mem_cons.1 hm with e | hm
  ·cases e; rw [Nu.set_self] at hb; cases hb
  ·obtain ⟨hj, hc⟩ := Bx.fresh_spec hfB hm
   rw [Nu.set_other j hj] at hb
   exact h.away j r b hm hb
 ·intro j r j' r' b hm hm' hb hb'
  rcases List.mem_cons.1 hm with e | hm <;> rcases List.mem_cons.1 hm' with e' | hm'
  ·cases e; cases e'; rfl
  ·cases e; rw [Nu.set_self] at hb; cases hb
  ·cases e'; rw [Nu.set_self] at hb'; cases hb'
  ·obtain ⟨hj, _⟩ := Bx.fresh_spec hfB hm
   obtain ⟨hj', _⟩ := Bx.fresh_spec hfB hm'
   rw [Nu.set_other j hj] at hb
   rw [Nu.set_other j' hj'] at hb'
   exact h.inj j r j' r' b hm hm' hb hb'
 ·simp only [List.map_cons, List.nodup_cons]
  refine ⟨fun hm => ?_, h.nodup⟩
  obtain ⟨x, hx, e⟩ := List.mem_map.1 hm
  exact (Bx.fresh_spec (j := x.1) (r := x.2) hfB hx).1 e
/-- the temporary d holds a nil slice: from now on it is the row k -/
theorem Gh.nilrow {env : Env} {B : Bx} (d k : Nat) {sz : Nat} (hd : env.lookup d = some (.one (.dat (.nil sz)))) (hlow : lowN k = true) (hf : Env.fresh k env = true) (hfB : Bx.fresh k B = true) :
  Gh n ⟨env, B⟩ ⟨(d, .one (.own k 0)) :: env, (k, .row sz []) :: B⟩ := by
 intro κ M0 a w s
 obtain ⟨M, ν, h1, h2, h3, h4, h5, h6⟩ := s
 refine ⟨M, ν.set k ⟨none, 0⟩, h1, h2, h3, ?_, h5.nilrow k sz hfB, fun i hi => by rw [Nu.set_other i (by have := lowN_spec hlow; omega)]; exact h6 i hi⟩
 intro e t he
 simp only [List.lookup_cons] at he
 cases hb : (e == d) with
 | true =>
  rw [hb] at he
  have : e = d := by simpa using hb
  subst this
  simp only [Option.some.injEq] at he
  subst he
  have := h4 e _ hd
  simp only [T.rep, Cell.rep, C.rep, Nu.set_self] at this ⊢
  rw [this]; rfl
 | false =>
  rw [hb] at he
  exact (h4.fresh hf Nu.set_other) e t he
/-- the i-th cell of the box j holds a nil slice: from now on it is the row k -/
theorem Gh.nilcell {env : Env} {B : Bx} (j i k : Nat) {sz : Nat} {pre post : List Cell} {cs : List Cell} (hb : B.lookup j = some (.cells cs)) (hc : cutC i cs = some (pre, .dat (.nil sz) :: post)) (hlow : lowN k = true) (hf : Env.fresh k env = true) (hfB : Bx.fresh k B = true) :
  Gh n ⟨env, B⟩ ⟨env, (k, .row sz []) :: Bx.put j (.cells (pre ++ .own k 0 :: post)) B⟩ := by
 intro κ M0 a w s
 obtain ⟨M, ν, h1, h2, h3, h4, h5, h6⟩ := s
 have hs := h5.nilrow k sz hfB
 have hmem := lookup_box hb
 obtain ⟨e1, _⟩ := cutC_spec hc
 refine ⟨M, ν.set k ⟨none, 0⟩, h1, h2, h3, h4.fresh hf Nu.set_other, ?_, fun i hi => by rw [Nu.set_other i (by have := lowN_spec hlow; omega)]; exact h6 i hi⟩
 have hkeys : ∀ i r, (i, r) ∈ (k, Res.row sz []) :: Bx.put j (.cells (pre ++ .own k 0 :: post)) B → ∃ r0, (i, r0) ∈ (k, Res.row sz []) :: B := by
  intro i r hm
  rcases List.mem_cons.1 hm with e | hm
  ·cases e; exact ⟨_, List.mem_cons_self ..⟩
  ·rcases Bx.mem_put h5.nodup hm with e | ⟨hm, _⟩
   ·cases e; exact ⟨_, List.mem_cons_of_mem _ hmem⟩
   ·exact ⟨r, List.mem_cons_of_mem _ hm⟩
 refine ⟨hs.os, hs.tape, hs.output, Nat.zero_le _, hs.size, hs.unch, hs.fro, ?_, ?_, ?_, ?_⟩
 ·intro i r hm
  rcases List.mem_cons.1 hm with e | hm
  ·cases e; exact hs.res k _ (List.mem_cons_self ..)
  ·rcases Bx.mem_put h5.nodup hm with e | ⟨hm, _⟩
   ·cases e
    have h0 := hs.res j _ (List.mem_cons_of_mem _ hmem)
    simp only [Res.ok] at h0 ⊢
    obtain ⟨b, c, et, g1, g2, g3⟩ := h0
    refine ⟨b, c, et, g1, g2, ?_⟩
    rw [e1] at g3
    obtain ⟨u1, u2, eu, hu1, hu2⟩ := Cell.reps_split g3
    rw [eu]
    simp only [Cell.reps] at hu2
    obtain ⟨v, vs, ev, hv, hvs⟩ := hu2
    subst ev
    refine Cell.reps_append hu1 ?_
    simp only [Cell.reps]
    refine ⟨v, vs, rfl, ?_, hvs⟩
    simp only [Cell.rep, C.rep, Nu.set_self] at hv ⊢
    rw [hv]; rfl
   ·exact hs.res i r (List.mem_cons_of_mem _ hm)
 ·intro i r b hm hb
  obtain ⟨r0, hm0⟩ := hkeys i r hm
  exact hs.away i r0 b hm0 hb
 ·intro i r i' r' b hm hm' hb hb'
  obtain ⟨r0, hm0⟩ := hkeys i r hm
  obtain ⟨r1, hm1⟩ := hkeys i' r' hm'
  exact hs.inj i r0 i' r1 b hm0 hm1 hb hb'
 ·have := hs.nodup
  simp only [List.map_cons, Bx.put_keys] at this ⊢
  exact this
attribute [go_sem] rnm renE renB frE frB Env.frOk Bx.frOk bxSub noDup T.ren T.rens Cell.ren Cell.rens Res.ren
mutual
/-- the row k, that has len elements, is spoken of at its full length -/
def Cell.frAOk (k len : Nat) : Cell → Prop
 | .arr j m => (j == k) = true → m = len
 | .clo _ caps => Cell.frAOks k len caps
 | _ => True
def Cell.frAOks (k len : Nat) : List Cell → Prop
 | [] => True
 | c :: cs => Cell.frAOk k len c ∧ Cell.frAOks k len cs
end
mutual
def Cell.frA (k sz : Nat) (rows : List (List C)) : Cell → Cell
 | .own j m => .own j m
 | .clo f caps => .clo f (Cell.frsA k sz rows caps)
 | .dat c => .dat c
 | .ptr j o => .ptr j o
 | .rp j s i f => .rp j s i f
 | .arr j m => bif j == k then .dat (.sl sz rows) else .arr j m
 | .ref r => .ref r
 | .mp j => .mp j
def Cell.frsA (k sz : Nat) (rows : List (List C)) : List Cell → List Cell
 | [] => []
 | c :: cs => Cell.frA k sz rows c :: Cell.frsA k sz rows cs
end
mutual
def T.frAOk (k len : Nat) : T → Prop
 | .one c => c.frAOk k len
 | .agg cs => Cell.frAOks k len cs
 | .tup ts => T.frAOks k len ts
 | _ => True
def T.frAOks (k len : Nat) : List T → Prop
 | [] => True
 | t :: ts => T.frAOk k len t ∧ T.frAOks k len ts
end
mutual
def T.frA (k sz : Nat) (rows : List (List C)) : T → T
 | .one c => .one (c.frA k sz rows)
 | .agg cs => mkAgg (Cell.frsA k sz rows cs)
 | .tup ts => .tup (T.frsA k sz rows ts)
 | .st r => .st r
 | .un => .un
def T.frsA (k sz : Nat) (rows : List (List C)) : List T → List T
 | [] => []
 | t :: ts => T.frA k sz rows t :: T.frsA k sz rows ts
end
def frAE (k sz : Nat) (rows : List (List C)) : Env → Env
 | [] => []
 | p :: env => (p.1, p.2.frA k sz rows) :: frAE k sz rows env
def Env.frAOk (k len : Nat) : Env → Prop
 | [] => True
 | p :: env => p.2.frAOk k len ∧ Env.frAOk k len env
def frAB (k sz : Nat) (rows : List (List C)) : Bx → Bx
 | [] => []
 | p :: B => (match p.2 with
  | .cells cs => (p.1, .cells (Cell.frsA k sz rows cs))
  | r => (p.1, r)) :: frAB k sz rows B
def Bx.frAOk (k len : Nat) : Bx → Prop
 | [] => True
 | p :: B => (match p.2 with
  | .cells cs => Cell.frAOks k len cs
  | _ => True) ∧ Bx.frAOk k len B
attribute [go_sem] Cell.frAOk Cell.frAOks T.frAOk T.frAOks Cell.frA Cell.frsA T.frA T.frsA frAE frAB Env.frAOk Bx.frAOk
end Go.Sx
set_option linter.unusedVariables false
namespace Go.Sx
variable {P : Program} {n : Nat} {Q : Exit → AS → Prop}
/-- the names that change: (theirs, ours) -/
def rn : List (Nat × Nat) → Nat → Nat
 | [], i => i
 | p :: l, i => bif i == p.1 then p.2 else rn l i
def rnLow : List (Nat × Nat) → Bool
 | [] => true
 | p :: l => Nat.blt p.1 pin && (Nat.blt p.2 pin && rnLow l)
theorem rn_pin : ∀ {l : List (Nat × Nat)}, rnLow l = true → ∀ k, pin ≤ k → rn l k = k
 | [], _, k, _ => rfl
 | p :: l, h, k, hk => by
  simp only [rnLow, Bool.and_eq_true] at h
  have h1 : p.1 < pin := by simpa using h.1
  unfold rn
  have : (k == p.1) = false := by simp; omega
  rw [this]; exact rn_pin h.2.2 k hk
theorem rn_low : ∀ {l : List (Nat × Nat)}, rnLow l = true → ∀ k, k < pin → rn l k < pin
 | [], _, k, hk => hk
 | p :: l, h, k, hk => by
  simp only [rnLow, Bool.and_eq_true] at h
  have h2 : p.2 < pin := by simpa using h.2.1
  unfold rn
  cases (k == p.1)
  ·exact rn_low h.2.2 k hk
  ·exact h2
def wkE (l : List (Nat × Nat)) (env : Env) : Env → Prop
 | [] => True
 | p :: τ => env.lookup p.1 = some (p.2.ren (rn l)) ∧ wkE l env τ
def wkB (l : List (Nat × Nat)) (B : Bx) : Bx → Prop
 | [] => True
 | p :: τ => B.lookup (rn l p.1) = some (p.2.ren (rn l)) ∧ wkB l B τ
theorem wkE_spec {l : List (Nat × Nat)} {env : Env} : ∀ {τ : Env}, wkE l env τ → ∀ p ∈ τ, env.lookup p.1 = some (p.2.ren (rn l))
 | q :: τ, h, p, hm => by
  rcases List.mem_cons.1 hm with rfl | hm
  ·exact h.1
  ·exact wkE_spec h.2 p hm
theorem wkB_spec {l : List (Nat × Nat)} {B : Bx} : ∀ {τ : Bx}, wkB l B τ → ∀ p ∈ τ, (rn l p.1, p.2.ren (rn l)) ∈ B
 | q :: τ, h, p, hm => by
  rcases List.mem_cons.1 hm with rfl | hm
  ·exact lookup_box h.1
  ·exact wkB_spec h.2 p hm
theorem Gh.to {env : Env} {B : Bx} (l : List (Nat × Nat)) {τ : AS} (h1 : wkE l env τ.env) (h2 : wkB l B τ.B) (h3 : noDup (τ.B.map fun p => rn l p.1) = true) (h4 : noDup (τ.B.map (·.1)) = true) (h5 : rnLow l = true) : Gh n ⟨env, B⟩ τ := by
 intro κ M0 a w s
 exact s.weak (ρ := rn l) ⟨wkE_spec h1, wkB_spec h2, noDup_spec h3, noDup_spec h4, rn_pin h5, rn_low h5⟩
/-- a loop whose states are told by data -/
theorem AWP.loopS {c : Code} {σ : AS} {X : Type} (env : X → Env) (box : X → Bx) (ok : X → Prop) (meas : X → Nat) (x₀ : X) (hs : Gh n σ ⟨env x₀, box x₀⟩) (h₀ : ok x₀)
  (round : ∀ x, ok x → AWP P n c ⟨env x, box x⟩ (Then (fun σ' => ∃ x', meas x' < meas x ∧ ok x' ∧ Gh n σ' ⟨env x', box x'⟩) Q)) : AWP P n (.loop c) σ Q := by
 refine AWP.gh hs ?_
 refine AWP.loop (fun k σ => ∃ x, σ = ⟨env x, box x⟩ ∧ ok x ∧ meas x = k) (meas x₀) ⟨x₀, rfl, h₀, rfl⟩ ?_
 rintro k _ ⟨x, rfl, hx, rfl⟩ κ M0 a w s
 refine wp_mono (round x hx κ M0 a w s) ?_
 rintro e a' w' ⟨σ', s', q⟩
 cases e with
 | normal => obtain ⟨x', h1, h2, h3⟩ := q; exact ⟨_, h3 κ M0 a' w' s', meas x', h1, x', rfl, h2, rfl⟩
 | exit id => exact ⟨σ', s', q⟩
 | goto l => exact ⟨σ', s', q⟩
 | ret => exact ⟨σ', s', q⟩
 | panic ch => exact ⟨σ', s', q⟩
 | outgrown => exact ⟨σ', s', q⟩
theorem PCBk.mk {f : FuncId} {args0 : List T} {res0 res0' : Res} {r0 : T} (k : Nat) (h : PCB P f args0 [(pin, res0)] r0 [(pin, res0')]) :
  PCBk P f (T.rens (fun _ => k) args0) k (res0.ren fun _ => k) (r0.ren fun _ => k) (res0'.ren fun _ => k) := ⟨_, _, _, _, h, rfl, rfl, rfl, rfl⟩
/-- at the end a step of the proof's own may be taken (freezing) -/
def GhQ (n : Nat) (Q : Exit → AS → Prop) (e : Exit) (σ : AS) : Prop := ∃ τ, Gh n σ τ ∧ Q e τ
theorem AWP.ghQ {c : Code} {σ : AS} (h : AWP P n c σ (GhQ n Q)) : AWP P n c σ Q := by
 intro κ M0 a w s
 refine wp_mono (h κ M0 a w s) ?_
 rintro e a' w' ⟨σ', s', τ, g, q⟩
 exact ⟨τ, g κ M0 a' w' s', q⟩
theorem GhQ.step {Q : Exit → AS → Prop} {e : Exit} {σ τ : AS} (h : Gh n σ τ) (k : GhQ n Q e τ) : GhQ n Q e σ := by
 obtain ⟨ρ, h2, q⟩ := k
 exact ⟨ρ, h.trans h2, q⟩
theorem fin0 {A : Prop} {B : Bx} (h : A) : A ∧ ∀ x ∈ ([] : Bx), x ∈ B := ⟨h, fun _ h => by cases h⟩
theorem wrap_succ {k m : Nat} (h : k < m) (hm : m ≤ 9223372036854775807) : IntKind.i64.wrap ((k : Int) + 1) = ((k + 1 : Nat) : Int) := by rw [w64 (by omega)]; rfl
/-- the loop's test, the element at it -/
theorem at_lt {α : Type} {enc : α → List C} {l : List α} {k : Nat} (h : k < l.length) : ∃ d, l[k]? = some d ∧ (l.map enc)[k]? = some (enc d) ∧ decide ((k : Int) < (l.length : Int)) = true ∧ l.drop k = d :: l.drop (k + 1) :=
 ⟨l[k], by simp [h], by simp [h], by simpa using h, List.drop_eq_getElem_cons h⟩
@[go_sem] theorem frOks_map (k n : Nat) : ∀ r : List C, Cell.frOks k n (r.map .dat) = True
 | [] => by simp [Cell.frOks]
 | c :: r => by simp only [List.map_cons, Cell.frOks, Cell.frOk, frOks_map k n r, and_true]
@[go_sem] theorem frs_map (k sz : Nat) (rows : List (List C)) : ∀ r : List C, Cell.frs k sz rows (r.map .dat) = r.map .dat
 | [] => rfl
 | c :: r => by simp only [List.map_cons, Cell.frs, Cell.fr, frs_map k sz rows r]
@[go_sem] theorem rens_map (ρ : Nat → Nat) : ∀ r : List C, Cell.rens ρ (r.map .dat) = r.map .dat
 | [] => rfl
 | c :: r => by simp only [List.map_cons, Cell.rens, Cell.ren, rens_map ρ r]
@[go_sem] theorem frAOks_map (k n : Nat) : ∀ r : List C, Cell.frAOks k n (r.map .dat) = True
 | [] => by simp [Cell.frAOks]
 | c :: r => by simp only [List.map_cons, Cell.frAOks, Cell.frAOk, frAOks_map k n r, and_true]
@[go_sem] theorem frsA_map (k sz : Nat) (rows : List (List C)) : ∀ r : List C, Cell.frsA k sz rows (r.map .dat) = r.map .dat
 | [] => rfl
 | c :: r => by simp only [List.map_cons, Cell.frsA, Cell.frA, frsA_map k sz rows r]
attribute [go_sem] rn rnLow wkE wkB
end Go.Sx
set_option linter.unusedVariables false
namespace Go.Sx
variable {P : Program} {n : Nat}
theorem Gh.soft {env : Env} {B : Bx} (j : Nat) {cs : List Cell} (hb : B.lookup j = some (.cells cs)) : Gh n ⟨env, B⟩ ⟨env, Bx.put j (.cells (cs.map Cell.soft)) B⟩ := by
 intro κ M0 a w s
 obtain ⟨M, ν, h1, h2, h3, h4, h5, h6⟩ := s
 have hmem := lookup_box hb
 have hkeys : ∀ i r, (i, r) ∈ Bx.put j (.cells (cs.map Cell.soft)) B → ∃ r0, (i, r0) ∈ B := by
  intro i r hm
  rcases Bx.mem_put h5.nodup hm with e | ⟨hm, _⟩
  ·cases e; exact ⟨_, hmem⟩
  ·exact ⟨r, hm⟩
 refine ⟨M, ν, h1, h2, h3, h4, ⟨h5.os, h5.tape, h5.output, Nat.zero_le _, h5.size, h5.unch, h5.fro, ?_, ?_, ?_, ?_⟩, h6⟩
 ·intro i r hm
  rcases Bx.mem_put h5.nodup hm with e | ⟨hm, _⟩
  ·cases e
   have h0 := h5.res j _ hmem
   simp only [Res.ok] at h0 ⊢
   obtain ⟨b, c, et, g1, g2, g3⟩ := h0
   exact ⟨b, c, et, g1, g2, Cell.reps_soft g3⟩
  ·exact h5.res i r hm
 ·intro i r b hm hbk
  obtain ⟨r0, h0⟩ := hkeys i r hm
  exact h5.away i r0 b h0 hbk
 ·intro i r i' r' b hm hm' hbk hbk'
  obtain ⟨r0, h0⟩ := hkeys i r hm
  obtain ⟨r1, h1⟩ := hkeys i' r' hm'
  exact h5.inj i r0 i' r1 b h0 h1 hbk hbk'
 ·rw [Bx.put_keys]; exact h5.nodup
end Go.Sx
set_option linter.unusedVariables false
namespace Go.Sx
variable {P : Program} {n : Nat} {Q : Exit → AS → Prop}
/-- the boxes of these names -/
def keepB (B : Bx) : List Nat → Bx
 | [] => []
 | d :: ds => match B.lookup d with
  | some t => (d, t) :: keepB B ds
  | none => keepB B ds
attribute [go_sem] keepB
/-- a loop of which only some slots and boxes change -/
theorem AWP.loopF {c : Code} {env : Env} {B : Bx} {X : Type} (chg : X → Env) (chB : X → Bx) (ks kb : List Nat) (ok : X → Prop) (meas : X → Nat) (x₀ : X)
  (hs : Gh n ⟨env, B⟩ ⟨chg x₀ ++ keepL env ks, chB x₀ ++ keepB B kb⟩) (h₀ : ok x₀)
  (round : ∀ x, ok x → AWP P n c ⟨chg x ++ keepL env ks, chB x ++ keepB B kb⟩ (Then (fun σ' => ∃ x', meas x' < meas x ∧ ok x' ∧ Gh n σ' ⟨chg x' ++ keepL env ks, chB x' ++ keepB B kb⟩) Q)) : AWP P n (.loop c) ⟨env, B⟩ Q :=
 AWP.loopS (fun x => chg x ++ keepL env ks) (fun x => chB x ++ keepB B kb) ok meas x₀ hs h₀ round
/-- a range over a list -/
theorem AWP.range {c : Code} {env : Env} {B : Bx} {α S : Type} (l : List α) (enc : α → List C) (chg : Nat → S → Env) (chB : Nat → S → Bx) (ks kb : List Nat) (ok : Nat → S → Prop) (s₀ : S)
  (hs : Gh n ⟨env, B⟩ ⟨chg 0 s₀ ++ keepL env ks, chB 0 s₀ ++ keepB B kb⟩) (h₀ : ok 0 s₀)
  (step : ∀ (k : Nat) (s : S) (x : α), k < l.length → l[k]? = some x → (l.map enc)[k]? = some (enc x) → decide ((k : Int) < (l.length : Int)) = true → ok k s →
   AWP P n c ⟨chg k s ++ keepL env ks, chB k s ++ keepB B kb⟩ (Then (fun σ' => ∃ s', ok (k + 1) s' ∧ Gh n σ' ⟨chg (k + 1) s' ++ keepL env ks, chB (k + 1) s' ++ keepB B kb⟩) Q))
  (done : ∀ s : S, decide ((l.length : Int) < (l.length : Int)) = false → ok l.length s → AWP P n c ⟨chg l.length s ++ keepL env ks, chB l.length s ++ keepB B kb⟩ (Then (fun _ => False) Q)) : AWP P n (.loop c) ⟨env, B⟩ Q := by
 refine AWP.loopF (X := Nat × S) (fun x => chg x.1 x.2) (fun x => chB x.1 x.2) ks kb (fun x => x.1 ≤ l.length ∧ ok x.1 x.2) (fun x => l.length - x.1) (0, s₀) hs ⟨Nat.zero_le _, h₀⟩ ?_
 rintro ⟨k, s⟩ ⟨hk, hok⟩
 simp only at hk hok ⊢
 by_cases hlt : k < l.length
 ·obtain ⟨x, hx, hx', hb, _⟩ := at_lt (enc := enc) hlt
  refine (step k s x hlt hx hx' hb hok).mono ?_
  intro e σ' hq
  cases e with
  | normal => obtain ⟨s', h1, h2⟩ := hq; exact ⟨(k + 1, s'), by simp only; omega, ⟨by simp only; omega, h1⟩, h2⟩
  | exit id => exact hq
  | goto l => exact hq
  | ret => exact hq
  | panic ch => exact hq
  | outgrown => exact hq
 ·have : k = l.length := by omega
  subst this
  refine (done s (by simp) hok).mono ?_
  intro e σ' hq
  cases e with
  | normal => exact hq.elim
  | exit id => exact hq
  | goto l => exact hq
  | ret => exact hq
  | panic ch => exact hq
  | outgrown => exact hq
end Go.Sx

