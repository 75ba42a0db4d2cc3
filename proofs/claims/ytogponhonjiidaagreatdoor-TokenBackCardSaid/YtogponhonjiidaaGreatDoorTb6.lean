/- A part of the proof: lemmas about the walk of the program and about plain integers and lists. No conditions beyond those that each lemma states. -/
import Derived.Test.YtogponhonjiidaaGreatDoorTb5
import Derived.Below
import Derived.Sort.Grow
import Derived.Deep.Draws
import Derived.Lib.LaidTab
import Derived.ChangeArms
import Derived.Test.YtogponhonjiidaaGreatDoorProg
import Derived.Test.YtogponhonjiidaaGreatDoorTb4
import Derived.Lib.SliceRun
set_option linter.unusedVariables false
namespace Go.Sx
variable {P : Program}
theorem wf_i64 {m : Int} (h : (Lit.int .i64 m).wf = true) : -9223372036854775808 ≤ m ∧ m ≤ 9223372036854775807 := by
  simp only [Lit.wf, Bool.and_eq_true, decide_eq_true_eq] at h
  exact ⟨h.1, h.2⟩
theorem cells_int {n : Nat} {t : TypeId} {row : List C} (hu : P.underlying t = some (.int .i64)) (h : hasT P n t row) : ∃ m, row = [.int .i64 m] ∧ -9223372036854775808 ≤ m ∧ m ≤ 9223372036854775807 := by
  cases n with
  | zero => exact h.elim
  | succ n =>
    simp only [hasT, hu] at h
    obtain ⟨m, rfl, hw⟩ := h
    exact ⟨m, rfl, wf_i64 hw⟩
theorem arg_int {n : Nat} {t : TypeId} {row : List C} (hu : P.underlying t = some (.int .i64)) (ha : aggT P t = some false) (h : hasT P n t row) : ∃ m, argT P t row = I .i64 m ∧ -9223372036854775808 ≤ m ∧ m ≤ 9223372036854775807 := by
  obtain ⟨m, rfl, h1⟩ := cells_int hu h
  exact ⟨m, by simp only [argT, ha]; rfl, h1⟩
/-- cells of a slice, each element opened by f -/
theorem rows_map {α : Type} {enc : α → List C} {p : α → Prop} {n : Nat} {e : TypeId} (f : ∀ row, hasT P n e row → ∃ a, row = enc a ∧ p a) : ∀ {rows : List (List C)}, (∀ x ∈ rows, hasT P n e x) → ∃ l : List α, rows = l.map enc ∧ ∀ a ∈ l, p a
  | [], _ => ⟨[], rfl, by simp⟩
  | x :: rows, h => by
    obtain ⟨r, rfl, hr⟩ := f x (h x (by simp))
    obtain ⟨l, rfl, hl⟩ := rows_map f (fun y hy => h y (List.mem_cons_of_mem _ hy))
    refine ⟨r :: l, rfl, fun y hy => ?_⟩
    rcases List.mem_cons.1 hy with rfl | hy
    · exact hr
    · exact hl y hy
theorem cells_sl {α : Type} {enc : α → List C} {p : α → Prop} {n : Nat} {t e : TypeId} {row : List C} {sz : Nat} (hu : P.underlying t = some (.slice e)) (hsz : P.cellsOf e = sz) (f : ∀ row, hasT P (n - 1) e row → ∃ a, row = enc a ∧ p a) (h : hasT P n t row) :
    ∃ l : List α, row = [.sl sz (l.map enc)] ∧ l.length ≤ maxLen ∧ ∀ a ∈ l, p a := by
  cases n with
  | zero => exact h.elim
  | succ n =>
    simp only [hasT, hu] at h
    obtain ⟨rows, rfl, h1, h2⟩ := h
    obtain ⟨l, rfl, h3⟩ := rows_map f h2
    exact ⟨l, by rw [hsz], by simpa using h1, h3⟩
theorem arg_sl {α : Type} {enc : α → List C} {p : α → Prop} {n : Nat} {t e : TypeId} {row : List C} {sz : Nat} (hu : P.underlying t = some (.slice e)) (ha : aggT P t = some false) (hsz : P.cellsOf e = sz) (f : ∀ n row, hasT P n e row → ∃ a, row = enc a ∧ p a) (h : hasT P n t row) :
    ∃ l : List α, argT P t row = .one (.dat (.sl sz (l.map enc))) ∧ l.length ≤ maxLen ∧ ∀ a ∈ l, p a := by
  obtain ⟨l, rfl, h1, h2⟩ := cells_sl hu hsz (f (n - 1)) h
  exact ⟨l, by simp only [argT, ha]; rfl, h1, h2⟩
end Go.Sx
set_option linter.unusedVariables false
set_option linter.unusedSimpArgs false
namespace Go.Sx
open Go.RowKit
variable {P : Program}
theorem PC.native {f : FuncId} {args : List T} {r : T} (hE : Ent P f)
    (h : ∀ (M : Mem) ν (w : World) vs, (∀ b o, M b = some o → w.heap[b]? = some o) → T.reps M ν args vs → Calls P f vs.toArray w fun e w' => ∃ v, e = .returned v ∧ r.rep M ν v ∧ Below w.heap.size w w') : PC P f args r := by
  refine ⟨hE, fun M ν w vs hs hv => ?_⟩
  refine Calls.mono (h M ν w vs hs.fro hv) ?_
  rintro e w' ⟨v, rfl, hr, hb⟩
  refine ⟨v, M, rfl, Mem.ext.refl _ _, hr, hb.os, hb.tape, hb.output, Nat.zero_le _, hb.size, fun b hl _ => hb.block b hl, fun b o e => ?_, fun _ _ h => (by cases h), fun _ _ _ h => (by cases h), fun _ _ _ _ _ h => (by cases h), by simp⟩
  have e1 := hs.fro b o e
  rw [hb.block b (Array.getElem?_eq_some_iff.1 e1).1]; exact e1
theorem cell_of_At {M : Mem0} {w : World} {g : Nat} {v : Value} (hf : ∀ b o, M b = some o → w.heap[b]? = some o) (h : At (M g) 0 [v]) : w.cell? ⟨g, 0, none⟩ = some v := by
  obtain ⟨c, et, fz, pre, post, h1, h2, h3⟩ := h
  have h4 := hf _ _ h1
  have : pre = [] := by simpa using h3
  subst this
  unfold World.cell?
  simp only [h4, Option.isSome_none, Bool.false_eq_true, if_false]
  have : c = (v :: post).toArray := by apply Array.ext'; simpa using h2
  rw [this]; simp
theorem below_grow (w : World) (n : Nat) (os : Array Obj) : Below w.heap.size w (Sort.grow (w.drewN n) os) :=
  ⟨rfl, rfl, rfl, by simp [Sort.grow, World.drewN], fun k hk => by simp only [Sort.grow, World.drewN]; rw [Array.getElem?_append_left hk]⟩
theorem reps1 {M : Mem0} {ν : Nu} {a : T} {vs : List Value} (h : T.reps M ν [a] vs) : ∃ x, vs = [x] ∧ a.rep M ν x := by
  simp only [T.reps] at h
  obtain ⟨x, vs', rfl, h1, rfl⟩ := h
  exact ⟨x, rfl, h1⟩
theorem reps2 {M : Mem0} {ν : Nu} {a b : T} {vs : List Value} (h : T.reps M ν [a, b] vs) : ∃ x y, vs = [x, y] ∧ a.rep M ν x ∧ b.rep M ν y := by
  simp only [T.reps] at h
  obtain ⟨x, vs', rfl, h1, y, vs'', rfl, h2, rfl⟩ := h
  exact ⟨x, y, rfl, h1, h2⟩
theorem reps3 {M : Mem0} {ν : Nu} {a b c : T} {vs : List Value} (h : T.reps M ν [a, b, c] vs) : ∃ x y z, vs = [x, y, z] ∧ a.rep M ν x ∧ b.rep M ν y ∧ c.rep M ν z := by
  simp only [T.reps] at h
  obtain ⟨x, vs', rfl, h1, y, vs'', rfl, h2, z, vs3, rfl, h3, rfl⟩ := h
  exact ⟨x, y, z, rfl, h1, h2, h3⟩
theorem rep_S {M : Mem0} {ν : Nu} {l : List UInt8} {v : Value} : (S l).rep M ν v ↔ v = .string ⟨l.toArray⟩ := by simp only [T.rep, Cell.rep, C.rep]
end Go.Sx
namespace Go.Sx
theorem laidMet_tail {P : Program} {w : World} {x : String × DataW Unit} {rest : List (String × DataW Unit)} (h : laidMet P (x :: rest) w) : laidMet P rest w := by
  obtain ⟨ps, ⟨g, t, cs, fuel, p, q, h1, h2, h3, h4, h5, rfl⟩, hn, hc⟩ := h
  exact ⟨q, h5, (List.nodup_append.1 hn).2.1, fun b off hb => hc b off (List.mem_append_right _ hb)⟩
theorem laidMet_head {P : Program} {w : World} {n : String} {d : DataW Unit} {rest : List (String × DataW Unit)} (h : laidMet P ((n, d) :: rest) w) :
    ∃ g t cs fuel p, P.globalNamed n = some g ∧ (P.globals[g]?).map (·.type) = some t ∧ w.var? P n = some cs ∧ DataW.trod (fun _ => ()) P w 0 (fun _ => true) false fuel t cs.toList = some (d, p) := by
  obtain ⟨ps, ⟨g, t, cs, fuel, p, q, h1, h2, h3, h4, h5, rfl⟩, hn, hc⟩ := h
  exact ⟨g, t, cs, fuel, p, h1, h2, h3, h4⟩
theorem tab_of {P : Program} {w : World} {name : String} {cs : Array Value} {g : Nat} (h : w.var? P name = some cs) (hg : P.globalNamed name = some g) : ∃ et fz, w.heap[g]? = some (.cells cs et fz) := by
  unfold World.var? at h
  rw [hg, Option.bind_some] at h
  split at h
  · rename_i c et fz hc; cases h; exact ⟨_, _, hc⟩
  · cases h
theorem at_of_cells {w : World} {b off : Nat} {vs : List Value} (hne : vs ≠ []) (h : ∀ i v, vs[i]? = some v → w.cell? ⟨b, off + i, none⟩ = some v) : At (w.heap[b]?) off vs := by
  obtain ⟨v0, r0, rfl⟩ : ∃ v r, vs = v :: r := by cases vs with | nil => exact absurd rfl hne | cons v r => exact ⟨v, r, rfl⟩
  have h0 := h 0 v0 rfl
  unfold World.cell? at h0
  cases hb : w.heap[b]? with
  | none => simp only [hb] at h0; cases h0
  | some o =>
    cases o with
    | cells c et fz =>
      have hc : ∀ i v, (v0 :: r0)[i]? = some v → c[off + i]? = some v := fun i v hv => by
        have := h i v hv
        unfold World.cell? at this
        simpa only [hb, Option.isSome_none, Bool.false_eq_true, if_false] using this
      have h00 := hc 0 v0 rfl
      have hlen : off < c.size := (Array.getElem?_eq_some_iff.1 h00).1
      refine ⟨c, et, fz, c.toList.take off, c.toList.drop (off + (v0 :: r0).length), rfl, ?_, by simp; omega⟩
      have e : v0 :: r0 = (c.toList.drop off).take (v0 :: r0).length := by
        apply List.ext_getElem?
        intro i
        by_cases hi : i < (v0 :: r0).length
        · rw [List.getElem?_take_of_lt hi, List.getElem?_drop]
          have := hc i _ (List.getElem?_eq_getElem hi)
          rw [List.getElem?_eq_getElem hi, ← this]; simp
        · rw [List.getElem?_eq_none (by omega), List.getElem?_eq_none (by rw [List.length_take]; omega)]
      have e2 : c.toList.drop off = (v0 :: r0) ++ c.toList.drop (off + (v0 :: r0).length) := by
        have e3 := List.take_append_drop (v0 :: r0).length (c.toList.drop off)
        rw [← e, List.drop_drop] at e3
        exact e3.symm
      rw [← e2, List.take_append_drop]
    | _ => simp only [hb] at h0; cases h0
theorem add0 (a : Addr) : a.add 0 = a := by cases a; simp [Addr.add]
/-- a slice of strings that is read as data -/
theorem strs_of {P : Program} {w : World} {t e : TypeId} {cs : List Value} {fuel : Nat} {p : List MemPlace} {strs : List (List UInt8)} {sp : Nat → Bool} {held : Bool} {rst : List (DataW Unit)} (ht : P.underlying t = some (.slice e)) (he : P.underlying e = some .string) (hce : P.cellsOf e = 1) (hne : strs ≠ [])
    (h : DataW.trod (fun _ => ()) P w 0 sp held fuel t cs = some (DataW.slice (strs.map fun s => .lit (.string s)) rst, p)) :
    ∃ b off cap, cs = [.slice (some ⟨b, off, none⟩) strs.length cap] ∧ strs.length ≤ cap ∧ cap ≤ maxLen ∧ At (w.heap[b]?) off (strs.map fun s => Value.string ⟨s.toArray⟩) := by
  rcases DataW.trod_slice ht h with ⟨_, ex⟩ | ⟨a, len, cap, elems, rest, n, _, hcs, ex, _, hlc, hcm, hl, hel, _⟩
  · cases ex
  · injection ex with ex1 _
    injection ex1 with ex2 _
    have hlen : strs.length = len := by
      have h9 := congrArg List.length ex2
      simp only [List.length_map] at h9
      omega
    have key : ∀ i s, strs[i]? = some s → w.cell? (a.add (i * 1)) = some (.string ⟨s.toArray⟩) := by
      intro i s hs
      have hi : i < len := by rw [← hlen]; exact (List.getElem?_eq_some_iff.1 hs).1
      have h1 := hel i hi
      obtain ⟨x, hx⟩ : ∃ x, elems[i]? = some x := ⟨elems[i]'(by omega), List.getElem?_eq_getElem (by omega)⟩
      rw [hx, hce] at h1
      obtain ⟨vs, hv1, hv2⟩ := Option.bind_eq_some_iff.1 h1
      obtain ⟨s', rfl, hx2, _⟩ := DataW.trod_string he hv2
      have h2 : (elems.map (·.1))[i]? = some x.1 := by rw [List.getElem?_map, hx]; rfl
      rw [← ex2, List.getElem?_map, hs] at h2
      have h3 : s = s'.data.toList := by
        rw [hx2] at h2
        simp only [Option.map_some, Option.some.injEq, DataW.lit.injEq, Lit.string.injEq] at h2
        exact h2
      have h4 : w.cell? (a.add (i * 1)) = some (.string s') := by
        unfold World.cells? at hv1
        rw [if_pos (Nat.zero_le _)] at hv1
        simp only [List.range_one, List.mapM_cons, List.mapM_nil, Option.bind_eq_bind, Option.pure_def, Option.bind_eq_some_iff, Option.some.injEq, List.cons.injEq] at hv1
        obtain ⟨v, hv, _, rfl, rfl, _⟩ := hv1
        simpa [add0] using hv
      rw [h4, h3]
    obtain ⟨b, off, sp2⟩ := a
    have hsp : sp2 = none := by
      cases sp2 with
      | none => rfl
      | some z =>
        obtain ⟨s0, r0, rfl⟩ : ∃ s r, strs = s :: r := by cases strs with | nil => exact absurd rfl hne | cons s r => exact ⟨s, r, rfl⟩
        have := key 0 s0 rfl
        unfold World.cell? at this
        split at this
        · simp [Addr.add] at this
        · cases this
    subst hsp
    refine ⟨b, off, cap, by rw [hcs, hlen], by omega, hcm, at_of_cells (by simpa using hne) fun i v hv => ?_⟩
    rw [List.getElem?_map, Option.map_eq_some_iff] at hv
    obtain ⟨s, hs, rfl⟩ := hv
    have := key i s hs
    rw [Nat.mul_one] at this
    cases i with
    | zero => simpa [Addr.add] using this
    | succ i => simpa [Addr.add] using this
theorem err_of {P : Program} {w : World} {t : TypeId} {cs : List Value} {fuel : Nat} {p : List MemPlace} {sp : Nat → Bool} {held : Bool} {nm : String} {d : DataW Unit} {ms : _} (ht : P.underlying t = some (.interface ms))
    (h : DataW.trod (fun _ => ()) P w 0 sp held fuel t cs = some (DataW.iface nm d, p)) : ∃ te pe, cs = [.iface te pe] := by
  cases fuel with
  | zero => simp [DataW.trod] at h
  | succ n =>
    unfold DataW.trod at h
    rw [ht] at h
    simp only [] at h
    split at h <;> first | exact ⟨_, _, rfl⟩ | (simp at h; done) | skip
    all_goals (rename_i hq; first | (cases hq; done) | (exfalso; injection hq with hq; cases hq; done) | skip)
end Go.Sx
namespace Go.Proofs.YtogponhonjiidaaGreatDoor
open Go Go.Sx
theorem mixed : Tryz.prog.follows .mixedOrders = true := by kernel_rfl
@[go_sem] theorem sz2 : szT Tryz.prog 2 = some 1 := by kernel_rfl
@[go_sem] theorem ag2 : aggT Tryz.prog 2 = some false := by kernel_rfl
@[go_sem] theorem kd2 : kdT Tryz.prog 2 = some (.int .i64) := by kernel_rfl
@[go_sem] theorem ze2 : zeroT Tryz.prog 2 = some [.int .i64 0] := by kernel_rfl
@[go_sem] theorem sz3 : szT Tryz.prog 3 = some 1 := by kernel_rfl
@[go_sem] theorem ag3 : aggT Tryz.prog 3 = some false := by kernel_rfl
@[go_sem] theorem kd3 : kdT Tryz.prog 3 = some (.int .i64) := by kernel_rfl
@[go_sem] theorem ze3 : zeroT Tryz.prog 3 = some [.int .i64 0] := by kernel_rfl
@[go_sem] theorem sz4 : szT Tryz.prog 4 = some 1 := by kernel_rfl
@[go_sem] theorem ag4 : aggT Tryz.prog 4 = some false := by kernel_rfl
@[go_sem] theorem kd4 : kdT Tryz.prog 4 = some (.bool) := by kernel_rfl
@[go_sem] theorem ze4 : zeroT Tryz.prog 4 = some [.bool false] := by kernel_rfl
@[go_sem] theorem sz5 : szT Tryz.prog 5 = some 1 := by kernel_rfl
@[go_sem] theorem ag5 : aggT Tryz.prog 5 = some false := by kernel_rfl
@[go_sem] theorem kd5 : kdT Tryz.prog 5 = some (.int .u8) := by kernel_rfl
@[go_sem] theorem ze5 : zeroT Tryz.prog 5 = some [.int .u8 0] := by kernel_rfl
@[go_sem] theorem sz6 : szT Tryz.prog 6 = some 1 := by kernel_rfl
@[go_sem] theorem ag6 : aggT Tryz.prog 6 = some false := by kernel_rfl
@[go_sem] theorem kd6 : kdT Tryz.prog 6 = some (.int .u8) := by kernel_rfl
@[go_sem] theorem ze6 : zeroT Tryz.prog 6 = some [.int .u8 0] := by kernel_rfl
@[go_sem] theorem sz7 : szT Tryz.prog 7 = some 4 := by kernel_rfl
@[go_sem] theorem ag7 : aggT Tryz.prog 7 = some true := by kernel_rfl
@[go_sem] theorem kd7 : kdT Tryz.prog 7 = some (.other) := by kernel_rfl
@[go_sem] theorem fl7_0 : fldT Tryz.prog 7 0 = some (0, 1, false) := by kernel_rfl
@[go_sem] theorem pr7_0 : prtT Tryz.prog 7 0 = some (0, 1, 2) := by kernel_rfl
@[go_sem] theorem fl7_1 : fldT Tryz.prog 7 1 = some (1, 1, false) := by kernel_rfl
@[go_sem] theorem pr7_1 : prtT Tryz.prog 7 1 = some (1, 1, 3) := by kernel_rfl
@[go_sem] theorem fl7_2 : fldT Tryz.prog 7 2 = some (2, 1, false) := by kernel_rfl
@[go_sem] theorem pr7_2 : prtT Tryz.prog 7 2 = some (2, 1, 4) := by kernel_rfl
@[go_sem] theorem fl7_3 : fldT Tryz.prog 7 3 = some (3, 1, false) := by kernel_rfl
@[go_sem] theorem pr7_3 : prtT Tryz.prog 7 3 = some (3, 1, 6) := by kernel_rfl
@[go_sem] theorem fo7 : fieldsOk Tryz.prog 7 = true := by kernel_rfl
@[go_sem] theorem ze7 : zeroT Tryz.prog 7 = some [.int .i64 0, .int .i64 0, .bool false, .int .u8 0] := by kernel_rfl
@[go_sem] theorem sz8 : szT Tryz.prog 8 = some 4 := by kernel_rfl
@[go_sem] theorem ag8 : aggT Tryz.prog 8 = some true := by kernel_rfl
@[go_sem] theorem kd8 : kdT Tryz.prog 8 = some (.other) := by kernel_rfl
@[go_sem] theorem fl8_0 : fldT Tryz.prog 8 0 = some (0, 1, false) := by kernel_rfl
@[go_sem] theorem pr8_0 : prtT Tryz.prog 8 0 = some (0, 1, 2) := by kernel_rfl
@[go_sem] theorem fl8_1 : fldT Tryz.prog 8 1 = some (1, 1, false) := by kernel_rfl
@[go_sem] theorem pr8_1 : prtT Tryz.prog 8 1 = some (1, 1, 3) := by kernel_rfl
@[go_sem] theorem fl8_2 : fldT Tryz.prog 8 2 = some (2, 1, false) := by kernel_rfl
@[go_sem] theorem pr8_2 : prtT Tryz.prog 8 2 = some (2, 1, 4) := by kernel_rfl
@[go_sem] theorem fl8_3 : fldT Tryz.prog 8 3 = some (3, 1, false) := by kernel_rfl
@[go_sem] theorem pr8_3 : prtT Tryz.prog 8 3 = some (3, 1, 6) := by kernel_rfl
@[go_sem] theorem fo8 : fieldsOk Tryz.prog 8 = true := by kernel_rfl
@[go_sem] theorem ze8 : zeroT Tryz.prog 8 = some [.int .i64 0, .int .i64 0, .bool false, .int .u8 0] := by kernel_rfl
@[go_sem] theorem sz9 : szT Tryz.prog 9 = some 1 := by kernel_rfl
@[go_sem] theorem ag9 : aggT Tryz.prog 9 = some false := by kernel_rfl
@[go_sem] theorem kd9 : kdT Tryz.prog 9 = some (.str) := by kernel_rfl
@[go_sem] theorem ni9 : notInt Tryz.prog 9 = true := by kernel_rfl
@[go_sem] theorem ze9 : zeroT Tryz.prog 9 = some [.str []] := by kernel_rfl
@[go_sem] theorem sz10 : szT Tryz.prog 10 = some 1 := by kernel_rfl
@[go_sem] theorem ag10 : aggT Tryz.prog 10 = some false := by kernel_rfl
@[go_sem] theorem kd10 : kdT Tryz.prog 10 = some (.str) := by kernel_rfl
@[go_sem] theorem ni10 : notInt Tryz.prog 10 = true := by kernel_rfl
@[go_sem] theorem ze10 : zeroT Tryz.prog 10 = some [.str []] := by kernel_rfl
@[go_sem] theorem sz11 : szT Tryz.prog 11 = some 1 := by kernel_rfl
@[go_sem] theorem ag11 : aggT Tryz.prog 11 = some false := by kernel_rfl
@[go_sem] theorem kd11 : kdT Tryz.prog 11 = some (.str) := by kernel_rfl
@[go_sem] theorem ni11 : notInt Tryz.prog 11 = true := by kernel_rfl
@[go_sem] theorem ze11 : zeroT Tryz.prog 11 = some [.str []] := by kernel_rfl
@[go_sem] theorem sz12 : szT Tryz.prog 12 = some 1 := by kernel_rfl
@[go_sem] theorem ag12 : aggT Tryz.prog 12 = some false := by kernel_rfl
@[go_sem] theorem kd12 : kdT Tryz.prog 12 = some (.int .u64) := by kernel_rfl
@[go_sem] theorem ze12 : zeroT Tryz.prog 12 = some [.int .u64 0] := by kernel_rfl
@[go_sem] theorem sz13 : szT Tryz.prog 13 = some 2 := by kernel_rfl
@[go_sem] theorem ag13 : aggT Tryz.prog 13 = some true := by kernel_rfl
@[go_sem] theorem kd13 : kdT Tryz.prog 13 = some (.other) := by kernel_rfl
@[go_sem] theorem fl13_0 : fldT Tryz.prog 13 0 = some (0, 1, false) := by kernel_rfl
@[go_sem] theorem pr13_0 : prtT Tryz.prog 13 0 = some (0, 1, 9) := by kernel_rfl
@[go_sem] theorem fl13_1 : fldT Tryz.prog 13 1 = some (1, 1, false) := by kernel_rfl
@[go_sem] theorem pr13_1 : prtT Tryz.prog 13 1 = some (1, 1, 12) := by kernel_rfl
@[go_sem] theorem fo13 : fieldsOk Tryz.prog 13 = true := by kernel_rfl
@[go_sem] theorem ze13 : zeroT Tryz.prog 13 = some [.str [], .int .u64 0] := by kernel_rfl
@[go_sem] theorem sz14 : szT Tryz.prog 14 = some 2 := by kernel_rfl
@[go_sem] theorem ag14 : aggT Tryz.prog 14 = some true := by kernel_rfl
@[go_sem] theorem kd14 : kdT Tryz.prog 14 = some (.other) := by kernel_rfl
@[go_sem] theorem fl14_0 : fldT Tryz.prog 14 0 = some (0, 1, false) := by kernel_rfl
@[go_sem] theorem pr14_0 : prtT Tryz.prog 14 0 = some (0, 1, 9) := by kernel_rfl
@[go_sem] theorem fl14_1 : fldT Tryz.prog 14 1 = some (1, 1, false) := by kernel_rfl
@[go_sem] theorem pr14_1 : prtT Tryz.prog 14 1 = some (1, 1, 12) := by kernel_rfl
@[go_sem] theorem fo14 : fieldsOk Tryz.prog 14 = true := by kernel_rfl
@[go_sem] theorem ze14 : zeroT Tryz.prog 14 = some [.str [], .int .u64 0] := by kernel_rfl
@[go_sem] theorem sz15 : szT Tryz.prog 15 = some 1 := by kernel_rfl
@[go_sem] theorem ag15 : aggT Tryz.prog 15 = some false := by kernel_rfl
@[go_sem] theorem kd15 : kdT Tryz.prog 15 = some (.other) := by kernel_rfl
@[go_sem] theorem sz16 : szT Tryz.prog 16 = some 1 := by kernel_rfl
@[go_sem] theorem ag16 : aggT Tryz.prog 16 = some false := by kernel_rfl
@[go_sem] theorem kd16 : kdT Tryz.prog 16 = some (.other) := by kernel_rfl
@[go_sem] theorem sz17 : szT Tryz.prog 17 = some 1 := by kernel_rfl
@[go_sem] theorem ag17 : aggT Tryz.prog 17 = some false := by kernel_rfl
@[go_sem] theorem kd17 : kdT Tryz.prog 17 = some (.other) := by kernel_rfl
@[go_sem] theorem sz18 : szT Tryz.prog 18 = some 1 := by kernel_rfl
@[go_sem] theorem ag18 : aggT Tryz.prog 18 = some true := by kernel_rfl
@[go_sem] theorem kd18 : kdT Tryz.prog 18 = some (.other) := by kernel_rfl
@[go_sem] theorem fl18_0 : fldT Tryz.prog 18 0 = some (0, 1, false) := by kernel_rfl
@[go_sem] theorem pr18_0 : prtT Tryz.prog 18 0 = some (0, 1, 17) := by kernel_rfl
@[go_sem] theorem fo18 : fieldsOk Tryz.prog 18 = true := by kernel_rfl
@[go_sem] theorem sz19 : szT Tryz.prog 19 = some 1 := by kernel_rfl
@[go_sem] theorem ag19 : aggT Tryz.prog 19 = some true := by kernel_rfl
@[go_sem] theorem kd19 : kdT Tryz.prog 19 = some (.other) := by kernel_rfl
@[go_sem] theorem fl19_0 : fldT Tryz.prog 19 0 = some (0, 1, false) := by kernel_rfl
@[go_sem] theorem pr19_0 : prtT Tryz.prog 19 0 = some (0, 1, 17) := by kernel_rfl
@[go_sem] theorem fo19 : fieldsOk Tryz.prog 19 = true := by kernel_rfl
@[go_sem] theorem sz20 : szT Tryz.prog 20 = some 1 := by kernel_rfl
@[go_sem] theorem ag20 : aggT Tryz.prog 20 = some false := by kernel_rfl
@[go_sem] theorem kd20 : kdT Tryz.prog 20 = some (.other) := by kernel_rfl
@[go_sem] theorem if20 : ifcT Tryz.prog 20 = true := by kernel_rfl
@[go_sem] theorem ze20 : zeroT Tryz.prog 20 = some [.err false] := by kernel_rfl
@[go_sem] theorem sz21 : szT Tryz.prog 21 = some 1 := by kernel_rfl
@[go_sem] theorem ag21 : aggT Tryz.prog 21 = some false := by kernel_rfl
@[go_sem] theorem kd21 : kdT Tryz.prog 21 = some (.int .i32) := by kernel_rfl
@[go_sem] theorem ze21 : zeroT Tryz.prog 21 = some [.int .i32 0] := by kernel_rfl
@[go_sem] theorem sz22 : szT Tryz.prog 22 = some 1 := by kernel_rfl
@[go_sem] theorem ag22 : aggT Tryz.prog 22 = some false := by kernel_rfl
@[go_sem] theorem kd22 : kdT Tryz.prog 22 = some (.other) := by kernel_rfl
@[go_sem] theorem el22 : elT Tryz.prog 22 = some (1, false) := by kernel_rfl
@[go_sem] theorem bs22 : bsT Tryz.prog 22 = some (3, 1) := by kernel_rfl
@[go_sem] theorem by22 : byT Tryz.prog 22 = some 8 := by kernel_rfl
@[go_sem] theorem ni22 : notInt Tryz.prog 22 = true := by kernel_rfl
@[go_sem] theorem ze22 : zeroT Tryz.prog 22 = some [.nil 1] := by kernel_rfl
@[go_sem] theorem sz28 : szT Tryz.prog 28 = some 1 := by kernel_rfl
@[go_sem] theorem ag28 : aggT Tryz.prog 28 = some false := by kernel_rfl
@[go_sem] theorem kd28 : kdT Tryz.prog 28 = some (.other) := by kernel_rfl
@[go_sem] theorem el28 : elT Tryz.prog 28 = some (1, false) := by kernel_rfl
@[go_sem] theorem bs28 : bsT Tryz.prog 28 = some (9, 1) := by kernel_rfl
@[go_sem] theorem by28 : byT Tryz.prog 28 = some 16 := by kernel_rfl
@[go_sem] theorem ni28 : notInt Tryz.prog 28 = true := by kernel_rfl
@[go_sem] theorem ze28 : zeroT Tryz.prog 28 = some [.nil 1] := by kernel_rfl
@[go_sem] theorem sz29 : szT Tryz.prog 29 = some 1 := by kernel_rfl
@[go_sem] theorem ag29 : aggT Tryz.prog 29 = some false := by kernel_rfl
@[go_sem] theorem kd29 : kdT Tryz.prog 29 = some (.other) := by kernel_rfl
@[go_sem] theorem el29 : elT Tryz.prog 29 = some (4, true) := by kernel_rfl
@[go_sem] theorem bs29 : bsT Tryz.prog 29 = some (46, 4) := by kernel_rfl
@[go_sem] theorem by29 : byT Tryz.prog 29 = some 40 := by kernel_rfl
@[go_sem] theorem ni29 : notInt Tryz.prog 29 = true := by kernel_rfl
@[go_sem] theorem ze29 : zeroT Tryz.prog 29 = some [.nil 4] := by kernel_rfl
@[go_sem] theorem sz30 : szT Tryz.prog 30 = some 1 := by kernel_rfl
@[go_sem] theorem ag30 : aggT Tryz.prog 30 = some false := by kernel_rfl
@[go_sem] theorem kd30 : kdT Tryz.prog 30 = some (.int .i64) := by kernel_rfl
@[go_sem] theorem ze30 : zeroT Tryz.prog 30 = some [.int .i64 0] := by kernel_rfl
@[go_sem] theorem sz36 : szT Tryz.prog 36 = some 1 := by kernel_rfl
@[go_sem] theorem ag36 : aggT Tryz.prog 36 = some false := by kernel_rfl
@[go_sem] theorem kd36 : kdT Tryz.prog 36 = some (.other) := by kernel_rfl
@[go_sem] theorem sz38 : szT Tryz.prog 38 = some 1 := by kernel_rfl
@[go_sem] theorem ag38 : aggT Tryz.prog 38 = some false := by kernel_rfl
@[go_sem] theorem kd38 : kdT Tryz.prog 38 = some (.other) := by kernel_rfl
@[go_sem] theorem sz39 : szT Tryz.prog 39 = some 1 := by kernel_rfl
@[go_sem] theorem ag39 : aggT Tryz.prog 39 = some false := by kernel_rfl
@[go_sem] theorem kd39 : kdT Tryz.prog 39 = some (.other) := by kernel_rfl
@[go_sem] theorem el39 : elT Tryz.prog 39 = some (4, true) := by kernel_rfl
@[go_sem] theorem bs39 : bsT Tryz.prog 39 = some (58, 4) := by kernel_rfl
@[go_sem] theorem by39 : byT Tryz.prog 39 = some 64 := by kernel_rfl
@[go_sem] theorem ni39 : notInt Tryz.prog 39 = true := by kernel_rfl
@[go_sem] theorem ze39 : zeroT Tryz.prog 39 = some [.nil 4] := by kernel_rfl
@[go_sem] theorem sz40 : szT Tryz.prog 40 = some 5 := by kernel_rfl
@[go_sem] theorem ag40 : aggT Tryz.prog 40 = some true := by kernel_rfl
@[go_sem] theorem kd40 : kdT Tryz.prog 40 = some (.other) := by kernel_rfl
@[go_sem] theorem fl40_0 : fldT Tryz.prog 40 0 = some (0, 1, false) := by kernel_rfl
@[go_sem] theorem pr40_0 : prtT Tryz.prog 40 0 = some (0, 1, 38) := by kernel_rfl
@[go_sem] theorem fl40_1 : fldT Tryz.prog 40 1 = some (1, 1, false) := by kernel_rfl
@[go_sem] theorem pr40_1 : prtT Tryz.prog 40 1 = some (1, 1, 39) := by kernel_rfl
@[go_sem] theorem fl40_2 : fldT Tryz.prog 40 2 = some (2, 1, false) := by kernel_rfl
@[go_sem] theorem pr40_2 : prtT Tryz.prog 40 2 = some (2, 1, 3) := by kernel_rfl
@[go_sem] theorem fl40_3 : fldT Tryz.prog 40 3 = some (3, 1, false) := by kernel_rfl
@[go_sem] theorem pr40_3 : prtT Tryz.prog 40 3 = some (3, 1, 4) := by kernel_rfl
@[go_sem] theorem fl40_4 : fldT Tryz.prog 40 4 = some (4, 1, false) := by kernel_rfl
@[go_sem] theorem pr40_4 : prtT Tryz.prog 40 4 = some (4, 1, 3) := by kernel_rfl
@[go_sem] theorem fo40 : fieldsOk Tryz.prog 40 = true := by kernel_rfl
@[go_sem] theorem sz41 : szT Tryz.prog 41 = some 5 := by kernel_rfl
@[go_sem] theorem ag41 : aggT Tryz.prog 41 = some true := by kernel_rfl
@[go_sem] theorem kd41 : kdT Tryz.prog 41 = some (.other) := by kernel_rfl
@[go_sem] theorem fl41_0 : fldT Tryz.prog 41 0 = some (0, 1, false) := by kernel_rfl
@[go_sem] theorem pr41_0 : prtT Tryz.prog 41 0 = some (0, 1, 38) := by kernel_rfl
@[go_sem] theorem fl41_1 : fldT Tryz.prog 41 1 = some (1, 1, false) := by kernel_rfl
@[go_sem] theorem pr41_1 : prtT Tryz.prog 41 1 = some (1, 1, 39) := by kernel_rfl
@[go_sem] theorem fl41_2 : fldT Tryz.prog 41 2 = some (2, 1, false) := by kernel_rfl
@[go_sem] theorem pr41_2 : prtT Tryz.prog 41 2 = some (2, 1, 3) := by kernel_rfl
@[go_sem] theorem fl41_3 : fldT Tryz.prog 41 3 = some (3, 1, false) := by kernel_rfl
@[go_sem] theorem pr41_3 : prtT Tryz.prog 41 3 = some (3, 1, 4) := by kernel_rfl
@[go_sem] theorem fl41_4 : fldT Tryz.prog 41 4 = some (4, 1, false) := by kernel_rfl
@[go_sem] theorem pr41_4 : prtT Tryz.prog 41 4 = some (4, 1, 3) := by kernel_rfl
@[go_sem] theorem fo41 : fieldsOk Tryz.prog 41 = true := by kernel_rfl
@[go_sem] theorem sz45 : szT Tryz.prog 45 = some 4 := by kernel_rfl
@[go_sem] theorem ag45 : aggT Tryz.prog 45 = some true := by kernel_rfl
@[go_sem] theorem kd45 : kdT Tryz.prog 45 = some (.other) := by kernel_rfl
@[go_sem] theorem fl45_0 : fldT Tryz.prog 45 0 = some (0, 1, false) := by kernel_rfl
@[go_sem] theorem pr45_0 : prtT Tryz.prog 45 0 = some (0, 1, 3) := by kernel_rfl
@[go_sem] theorem fl45_1 : fldT Tryz.prog 45 1 = some (1, 1, false) := by kernel_rfl
@[go_sem] theorem pr45_1 : prtT Tryz.prog 45 1 = some (1, 1, 9) := by kernel_rfl
@[go_sem] theorem fl45_2 : fldT Tryz.prog 45 2 = some (2, 1, false) := by kernel_rfl
@[go_sem] theorem pr45_2 : prtT Tryz.prog 45 2 = some (2, 1, 2) := by kernel_rfl
@[go_sem] theorem fl45_3 : fldT Tryz.prog 45 3 = some (3, 1, false) := by kernel_rfl
@[go_sem] theorem pr45_3 : prtT Tryz.prog 45 3 = some (3, 1, 3) := by kernel_rfl
@[go_sem] theorem fo45 : fieldsOk Tryz.prog 45 = true := by kernel_rfl
@[go_sem] theorem eqs45 (a0 b0 : Int) (a1 b1 : List UInt8) (a2 b2 : Int) (a3 b3 : Int) : eqStT Tryz.prog 6 45 [.int .i64 a0, .str a1, .int .i64 a2, .int .i64 a3] [.int .i64 b0, .str b1, .int .i64 b2, .int .i64 b3] = some ((decide (a0 = b0)) && ((decide (a1 = b1)) && ((decide (a2 = b2)) && ((decide (a3 = b3)) && true)))) := by kernel_rfl
@[go_sem] theorem eqg45 : Go.Program.eqGuardType Tryz.prog (Go.Program.depth Tryz.prog) 45 = false := by kernel_rfl
@[go_sem] theorem ze45 : zeroT Tryz.prog 45 = some [.int .i64 0, .str [], .int .i64 0, .int .i64 0] := by kernel_rfl
@[go_sem] theorem sz46 : szT Tryz.prog 46 = some 4 := by kernel_rfl
@[go_sem] theorem ag46 : aggT Tryz.prog 46 = some true := by kernel_rfl
@[go_sem] theorem kd46 : kdT Tryz.prog 46 = some (.other) := by kernel_rfl
@[go_sem] theorem fl46_0 : fldT Tryz.prog 46 0 = some (0, 1, false) := by kernel_rfl
@[go_sem] theorem pr46_0 : prtT Tryz.prog 46 0 = some (0, 1, 3) := by kernel_rfl
@[go_sem] theorem fl46_1 : fldT Tryz.prog 46 1 = some (1, 1, false) := by kernel_rfl
@[go_sem] theorem pr46_1 : prtT Tryz.prog 46 1 = some (1, 1, 9) := by kernel_rfl
@[go_sem] theorem fl46_2 : fldT Tryz.prog 46 2 = some (2, 1, false) := by kernel_rfl
@[go_sem] theorem pr46_2 : prtT Tryz.prog 46 2 = some (2, 1, 2) := by kernel_rfl
@[go_sem] theorem fl46_3 : fldT Tryz.prog 46 3 = some (3, 1, false) := by kernel_rfl
@[go_sem] theorem pr46_3 : prtT Tryz.prog 46 3 = some (3, 1, 3) := by kernel_rfl
@[go_sem] theorem fo46 : fieldsOk Tryz.prog 46 = true := by kernel_rfl
@[go_sem] theorem eqs46 (a0 b0 : Int) (a1 b1 : List UInt8) (a2 b2 : Int) (a3 b3 : Int) : eqStT Tryz.prog 6 46 [.int .i64 a0, .str a1, .int .i64 a2, .int .i64 a3] [.int .i64 b0, .str b1, .int .i64 b2, .int .i64 b3] = some ((decide (a0 = b0)) && ((decide (a1 = b1)) && ((decide (a2 = b2)) && ((decide (a3 = b3)) && true)))) := by kernel_rfl
@[go_sem] theorem eqg46 : Go.Program.eqGuardType Tryz.prog (Go.Program.depth Tryz.prog) 46 = false := by kernel_rfl
@[go_sem] theorem ze46 : zeroT Tryz.prog 46 = some [.int .i64 0, .str [], .int .i64 0, .int .i64 0] := by kernel_rfl
@[go_sem] theorem sz47 : szT Tryz.prog 47 = some 1 := by kernel_rfl
@[go_sem] theorem ag47 : aggT Tryz.prog 47 = some false := by kernel_rfl
@[go_sem] theorem kd47 : kdT Tryz.prog 47 = some (.int .u64) := by kernel_rfl
@[go_sem] theorem ze47 : zeroT Tryz.prog 47 = some [.int .u64 0] := by kernel_rfl
@[go_sem] theorem sz53 : szT Tryz.prog 53 = some 2 := by kernel_rfl
@[go_sem] theorem ag53 : aggT Tryz.prog 53 = some true := by kernel_rfl
@[go_sem] theorem kd53 : kdT Tryz.prog 53 = some (.other) := by kernel_rfl
@[go_sem] theorem fl53_0 : fldT Tryz.prog 53 0 = some (0, 1, false) := by kernel_rfl
@[go_sem] theorem pr53_0 : prtT Tryz.prog 53 0 = some (0, 1, 22) := by kernel_rfl
@[go_sem] theorem fl53_1 : fldT Tryz.prog 53 1 = some (1, 1, false) := by kernel_rfl
@[go_sem] theorem pr53_1 : prtT Tryz.prog 53 1 = some (1, 1, 3) := by kernel_rfl
@[go_sem] theorem fo53 : fieldsOk Tryz.prog 53 = true := by kernel_rfl
@[go_sem] theorem ze53 : zeroT Tryz.prog 53 = some [.nil 1, .int .i64 0] := by kernel_rfl
@[go_sem] theorem sz54 : szT Tryz.prog 54 = some 2 := by kernel_rfl
@[go_sem] theorem ag54 : aggT Tryz.prog 54 = some true := by kernel_rfl
@[go_sem] theorem kd54 : kdT Tryz.prog 54 = some (.other) := by kernel_rfl
@[go_sem] theorem fl54_0 : fldT Tryz.prog 54 0 = some (0, 1, false) := by kernel_rfl
@[go_sem] theorem pr54_0 : prtT Tryz.prog 54 0 = some (0, 1, 22) := by kernel_rfl
@[go_sem] theorem fl54_1 : fldT Tryz.prog 54 1 = some (1, 1, false) := by kernel_rfl
@[go_sem] theorem pr54_1 : prtT Tryz.prog 54 1 = some (1, 1, 3) := by kernel_rfl
@[go_sem] theorem fo54 : fieldsOk Tryz.prog 54 = true := by kernel_rfl
@[go_sem] theorem ze54 : zeroT Tryz.prog 54 = some [.nil 1, .int .i64 0] := by kernel_rfl
@[go_sem] theorem sz57 : szT Tryz.prog 57 = some 4 := by kernel_rfl
@[go_sem] theorem ag57 : aggT Tryz.prog 57 = some true := by kernel_rfl
@[go_sem] theorem kd57 : kdT Tryz.prog 57 = some (.other) := by kernel_rfl
@[go_sem] theorem fl57_0 : fldT Tryz.prog 57 0 = some (0, 1, false) := by kernel_rfl
@[go_sem] theorem pr57_0 : prtT Tryz.prog 57 0 = some (0, 1, 9) := by kernel_rfl
@[go_sem] theorem fl57_1 : fldT Tryz.prog 57 1 = some (1, 1, false) := by kernel_rfl
@[go_sem] theorem pr57_1 : prtT Tryz.prog 57 1 = some (1, 1, 9) := by kernel_rfl
@[go_sem] theorem fl57_2 : fldT Tryz.prog 57 2 = some (2, 1, false) := by kernel_rfl
@[go_sem] theorem pr57_2 : prtT Tryz.prog 57 2 = some (2, 1, 22) := by kernel_rfl
@[go_sem] theorem fl57_3 : fldT Tryz.prog 57 3 = some (3, 1, false) := by kernel_rfl
@[go_sem] theorem pr57_3 : prtT Tryz.prog 57 3 = some (3, 1, 3) := by kernel_rfl
@[go_sem] theorem fo57 : fieldsOk Tryz.prog 57 = true := by kernel_rfl
@[go_sem] theorem ze57 : zeroT Tryz.prog 57 = some [.str [], .str [], .nil 1, .int .i64 0] := by kernel_rfl
@[go_sem] theorem sz58 : szT Tryz.prog 58 = some 4 := by kernel_rfl
@[go_sem] theorem ag58 : aggT Tryz.prog 58 = some true := by kernel_rfl
@[go_sem] theorem kd58 : kdT Tryz.prog 58 = some (.other) := by kernel_rfl
@[go_sem] theorem fl58_0 : fldT Tryz.prog 58 0 = some (0, 1, false) := by kernel_rfl
@[go_sem] theorem pr58_0 : prtT Tryz.prog 58 0 = some (0, 1, 9) := by kernel_rfl
@[go_sem] theorem fl58_1 : fldT Tryz.prog 58 1 = some (1, 1, false) := by kernel_rfl
@[go_sem] theorem pr58_1 : prtT Tryz.prog 58 1 = some (1, 1, 9) := by kernel_rfl
@[go_sem] theorem fl58_2 : fldT Tryz.prog 58 2 = some (2, 1, false) := by kernel_rfl
@[go_sem] theorem pr58_2 : prtT Tryz.prog 58 2 = some (2, 1, 22) := by kernel_rfl
@[go_sem] theorem fl58_3 : fldT Tryz.prog 58 3 = some (3, 1, false) := by kernel_rfl
@[go_sem] theorem pr58_3 : prtT Tryz.prog 58 3 = some (3, 1, 3) := by kernel_rfl
@[go_sem] theorem fo58 : fieldsOk Tryz.prog 58 = true := by kernel_rfl
@[go_sem] theorem ze58 : zeroT Tryz.prog 58 = some [.str [], .str [], .nil 1, .int .i64 0] := by kernel_rfl
@[go_sem] theorem sz64 : szT Tryz.prog 64 = some 1 := by kernel_rfl
@[go_sem] theorem ag64 : aggT Tryz.prog 64 = some false := by kernel_rfl
@[go_sem] theorem kd64 : kdT Tryz.prog 64 = some (.other) := by kernel_rfl
@[go_sem] theorem el64 : elT Tryz.prog 64 = some (1, false) := by kernel_rfl
@[go_sem] theorem bs64 : bsT Tryz.prog 64 = some (5, 1) := by kernel_rfl
@[go_sem] theorem by64 : byT Tryz.prog 64 = some 1 := by kernel_rfl
@[go_sem] theorem ni64 : notInt Tryz.prog 64 = true := by kernel_rfl
@[go_sem] theorem bt64 : bysT Tryz.prog 64 = true := by kernel_rfl
@[go_sem] theorem ze64 : zeroT Tryz.prog 64 = some [.nil 1] := by kernel_rfl
@[go_sem] theorem sz65 : szT Tryz.prog 65 = some 1 := by kernel_rfl
@[go_sem] theorem ag65 : aggT Tryz.prog 65 = some false := by kernel_rfl
@[go_sem] theorem kd65 : kdT Tryz.prog 65 = some (.other) := by kernel_rfl
@[go_sem] theorem sz66 : szT Tryz.prog 66 = some 1 := by kernel_rfl
@[go_sem] theorem ag66 : aggT Tryz.prog 66 = some false := by kernel_rfl
@[go_sem] theorem kd66 : kdT Tryz.prog 66 = some (.other) := by kernel_rfl
@[go_sem] theorem sz67 : szT Tryz.prog 67 = some 2 := by kernel_rfl
@[go_sem] theorem ag67 : aggT Tryz.prog 67 = some true := by kernel_rfl
@[go_sem] theorem kd67 : kdT Tryz.prog 67 = some (.other) := by kernel_rfl
@[go_sem] theorem fl67_0 : fldT Tryz.prog 67 0 = some (0, 1, false) := by kernel_rfl
@[go_sem] theorem pr67_0 : prtT Tryz.prog 67 0 = some (0, 1, 9) := by kernel_rfl
@[go_sem] theorem fl67_1 : fldT Tryz.prog 67 1 = some (1, 1, false) := by kernel_rfl
@[go_sem] theorem pr67_1 : prtT Tryz.prog 67 1 = some (1, 1, 3) := by kernel_rfl
@[go_sem] theorem fo67 : fieldsOk Tryz.prog 67 = true := by kernel_rfl
@[go_sem] theorem eqs67 (a0 b0 : List UInt8) (a1 b1 : Int) : eqStT Tryz.prog 6 67 [.str a0, .int .i64 a1] [.str b0, .int .i64 b1] = some ((decide (a0 = b0)) && ((decide (a1 = b1)) && true)) := by kernel_rfl
@[go_sem] theorem eqg67 : Go.Program.eqGuardType Tryz.prog (Go.Program.depth Tryz.prog) 67 = false := by kernel_rfl
@[go_sem] theorem ze67 : zeroT Tryz.prog 67 = some [.str [], .int .i64 0] := by kernel_rfl
@[go_sem] theorem sz68 : szT Tryz.prog 68 = some 2 := by kernel_rfl
@[go_sem] theorem ag68 : aggT Tryz.prog 68 = some true := by kernel_rfl
@[go_sem] theorem kd68 : kdT Tryz.prog 68 = some (.other) := by kernel_rfl
@[go_sem] theorem fl68_0 : fldT Tryz.prog 68 0 = some (0, 1, false) := by kernel_rfl
@[go_sem] theorem pr68_0 : prtT Tryz.prog 68 0 = some (0, 1, 9) := by kernel_rfl
@[go_sem] theorem fl68_1 : fldT Tryz.prog 68 1 = some (1, 1, false) := by kernel_rfl
@[go_sem] theorem pr68_1 : prtT Tryz.prog 68 1 = some (1, 1, 3) := by kernel_rfl
@[go_sem] theorem fo68 : fieldsOk Tryz.prog 68 = true := by kernel_rfl
@[go_sem] theorem ze68 : zeroT Tryz.prog 68 = some [.str [], .int .i64 0] := by kernel_rfl
@[go_sem] theorem sz73 : szT Tryz.prog 73 = some 1 := by kernel_rfl
@[go_sem] theorem ag73 : aggT Tryz.prog 73 = some false := by kernel_rfl
@[go_sem] theorem kd73 : kdT Tryz.prog 73 = some (.other) := by kernel_rfl
@[go_sem] theorem sz74 : szT Tryz.prog 74 = some 2 := by kernel_rfl
@[go_sem] theorem ag74 : aggT Tryz.prog 74 = some true := by kernel_rfl
@[go_sem] theorem kd74 : kdT Tryz.prog 74 = some (.other) := by kernel_rfl
@[go_sem] theorem fl74_0 : fldT Tryz.prog 74 0 = some (0, 1, false) := by kernel_rfl
@[go_sem] theorem pr74_0 : prtT Tryz.prog 74 0 = some (0, 1, 73) := by kernel_rfl
@[go_sem] theorem fl74_1 : fldT Tryz.prog 74 1 = some (1, 1, false) := by kernel_rfl
@[go_sem] theorem pr74_1 : prtT Tryz.prog 74 1 = some (1, 1, 64) := by kernel_rfl
@[go_sem] theorem fo74 : fieldsOk Tryz.prog 74 = true := by kernel_rfl
@[go_sem] theorem sz75 : szT Tryz.prog 75 = some 2 := by kernel_rfl
@[go_sem] theorem ag75 : aggT Tryz.prog 75 = some true := by kernel_rfl
@[go_sem] theorem kd75 : kdT Tryz.prog 75 = some (.other) := by kernel_rfl
@[go_sem] theorem fl75_0 : fldT Tryz.prog 75 0 = some (0, 1, false) := by kernel_rfl
@[go_sem] theorem pr75_0 : prtT Tryz.prog 75 0 = some (0, 1, 73) := by kernel_rfl
@[go_sem] theorem fl75_1 : fldT Tryz.prog 75 1 = some (1, 1, false) := by kernel_rfl
@[go_sem] theorem pr75_1 : prtT Tryz.prog 75 1 = some (1, 1, 64) := by kernel_rfl
@[go_sem] theorem fo75 : fieldsOk Tryz.prog 75 = true := by kernel_rfl
@[go_sem] theorem sz77 : szT Tryz.prog 77 = some 1 := by kernel_rfl
@[go_sem] theorem ag77 : aggT Tryz.prog 77 = some false := by kernel_rfl
@[go_sem] theorem kd77 : kdT Tryz.prog 77 = some (.other) := by kernel_rfl
@[go_sem] theorem if77 : ifcT Tryz.prog 77 = true := by kernel_rfl
@[go_sem] theorem ze77 : zeroT Tryz.prog 77 = some [.err false] := by kernel_rfl
@[go_sem] theorem sz78 : szT Tryz.prog 78 = some 1 := by kernel_rfl
@[go_sem] theorem ag78 : aggT Tryz.prog 78 = some false := by kernel_rfl
@[go_sem] theorem kd78 : kdT Tryz.prog 78 = some (.other) := by kernel_rfl
@[go_sem] theorem if78 : ifcT Tryz.prog 78 = true := by kernel_rfl
@[go_sem] theorem ze78 : zeroT Tryz.prog 78 = some [.err false] := by kernel_rfl
@[go_sem] theorem sz82 : szT Tryz.prog 82 = some 1 := by kernel_rfl
@[go_sem] theorem ag82 : aggT Tryz.prog 82 = some false := by kernel_rfl
@[go_sem] theorem kd82 : kdT Tryz.prog 82 = some (.other) := by kernel_rfl
@[go_sem] theorem ze82 : zeroT Tryz.prog 82 = some [.fnil] := by kernel_rfl
@[go_sem] theorem sz90 : szT Tryz.prog 90 = some 1 := by kernel_rfl
@[go_sem] theorem ag90 : aggT Tryz.prog 90 = some false := by kernel_rfl
@[go_sem] theorem kd90 : kdT Tryz.prog 90 = some (.other) := by kernel_rfl
@[go_sem] theorem el90 : elT Tryz.prog 90 = some (2, true) := by kernel_rfl
@[go_sem] theorem bs90 : bsT Tryz.prog 90 = some (92, 2) := by kernel_rfl
@[go_sem] theorem by90 : byT Tryz.prog 90 = some 24 := by kernel_rfl
@[go_sem] theorem ni90 : notInt Tryz.prog 90 = true := by kernel_rfl
@[go_sem] theorem ze90 : zeroT Tryz.prog 90 = some [.nil 2] := by kernel_rfl
@[go_sem] theorem sz91 : szT Tryz.prog 91 = some 2 := by kernel_rfl
@[go_sem] theorem ag91 : aggT Tryz.prog 91 = some true := by kernel_rfl
@[go_sem] theorem kd91 : kdT Tryz.prog 91 = some (.other) := by kernel_rfl
@[go_sem] theorem fl91_0 : fldT Tryz.prog 91 0 = some (0, 1, false) := by kernel_rfl
@[go_sem] theorem pr91_0 : prtT Tryz.prog 91 0 = some (0, 1, 9) := by kernel_rfl
@[go_sem] theorem fl91_1 : fldT Tryz.prog 91 1 = some (1, 1, false) := by kernel_rfl
@[go_sem] theorem pr91_1 : prtT Tryz.prog 91 1 = some (1, 1, 3) := by kernel_rfl
@[go_sem] theorem fo91 : fieldsOk Tryz.prog 91 = true := by kernel_rfl
@[go_sem] theorem eqs91 (a0 b0 : List UInt8) (a1 b1 : Int) : eqStT Tryz.prog 6 91 [.str a0, .int .i64 a1] [.str b0, .int .i64 b1] = some ((decide (a0 = b0)) && ((decide (a1 = b1)) && true)) := by kernel_rfl
@[go_sem] theorem eqg91 : Go.Program.eqGuardType Tryz.prog (Go.Program.depth Tryz.prog) 91 = false := by kernel_rfl
@[go_sem] theorem ze91 : zeroT Tryz.prog 91 = some [.str [], .int .i64 0] := by kernel_rfl
@[go_sem] theorem sz92 : szT Tryz.prog 92 = some 2 := by kernel_rfl
@[go_sem] theorem ag92 : aggT Tryz.prog 92 = some true := by kernel_rfl
@[go_sem] theorem kd92 : kdT Tryz.prog 92 = some (.other) := by kernel_rfl
@[go_sem] theorem fl92_0 : fldT Tryz.prog 92 0 = some (0, 1, false) := by kernel_rfl
@[go_sem] theorem pr92_0 : prtT Tryz.prog 92 0 = some (0, 1, 9) := by kernel_rfl
@[go_sem] theorem fl92_1 : fldT Tryz.prog 92 1 = some (1, 1, false) := by kernel_rfl
@[go_sem] theorem pr92_1 : prtT Tryz.prog 92 1 = some (1, 1, 3) := by kernel_rfl
@[go_sem] theorem fo92 : fieldsOk Tryz.prog 92 = true := by kernel_rfl
@[go_sem] theorem ze92 : zeroT Tryz.prog 92 = some [.str [], .int .i64 0] := by kernel_rfl
@[go_sem] theorem sz97 : szT Tryz.prog 97 = some 1 := by kernel_rfl
@[go_sem] theorem ag97 : aggT Tryz.prog 97 = some false := by kernel_rfl
@[go_sem] theorem kd97 : kdT Tryz.prog 97 = some (.int .i8) := by kernel_rfl
@[go_sem] theorem ze97 : zeroT Tryz.prog 97 = some [.int .i8 0] := by kernel_rfl
@[go_sem] theorem sz98 : szT Tryz.prog 98 = some 1 := by kernel_rfl
@[go_sem] theorem ag98 : aggT Tryz.prog 98 = some false := by kernel_rfl
@[go_sem] theorem kd98 : kdT Tryz.prog 98 = some (.int .i8) := by kernel_rfl
@[go_sem] theorem ze98 : zeroT Tryz.prog 98 = some [.int .i8 0] := by kernel_rfl
@[go_sem] theorem sz99 : szT Tryz.prog 99 = some 3 := by kernel_rfl
@[go_sem] theorem ag99 : aggT Tryz.prog 99 = some true := by kernel_rfl
@[go_sem] theorem kd99 : kdT Tryz.prog 99 = some (.other) := by kernel_rfl
@[go_sem] theorem fl99_0 : fldT Tryz.prog 99 0 = some (0, 1, false) := by kernel_rfl
@[go_sem] theorem pr99_0 : prtT Tryz.prog 99 0 = some (0, 1, 64) := by kernel_rfl
@[go_sem] theorem fl99_1 : fldT Tryz.prog 99 1 = some (1, 1, false) := by kernel_rfl
@[go_sem] theorem pr99_1 : prtT Tryz.prog 99 1 = some (1, 1, 3) := by kernel_rfl
@[go_sem] theorem fl99_2 : fldT Tryz.prog 99 2 = some (2, 1, false) := by kernel_rfl
@[go_sem] theorem pr99_2 : prtT Tryz.prog 99 2 = some (2, 1, 98) := by kernel_rfl
@[go_sem] theorem fo99 : fieldsOk Tryz.prog 99 = true := by kernel_rfl
@[go_sem] theorem ze99 : zeroT Tryz.prog 99 = some [.nil 1, .int .i64 0, .int .i8 0] := by kernel_rfl
@[go_sem] theorem sz100 : szT Tryz.prog 100 = some 3 := by kernel_rfl
@[go_sem] theorem ag100 : aggT Tryz.prog 100 = some true := by kernel_rfl
@[go_sem] theorem kd100 : kdT Tryz.prog 100 = some (.other) := by kernel_rfl
@[go_sem] theorem fl100_0 : fldT Tryz.prog 100 0 = some (0, 1, false) := by kernel_rfl
@[go_sem] theorem pr100_0 : prtT Tryz.prog 100 0 = some (0, 1, 64) := by kernel_rfl
@[go_sem] theorem fl100_1 : fldT Tryz.prog 100 1 = some (1, 1, false) := by kernel_rfl
@[go_sem] theorem pr100_1 : prtT Tryz.prog 100 1 = some (1, 1, 3) := by kernel_rfl
@[go_sem] theorem fl100_2 : fldT Tryz.prog 100 2 = some (2, 1, false) := by kernel_rfl
@[go_sem] theorem pr100_2 : prtT Tryz.prog 100 2 = some (2, 1, 98) := by kernel_rfl
@[go_sem] theorem fo100 : fieldsOk Tryz.prog 100 = true := by kernel_rfl
@[go_sem] theorem ze100 : zeroT Tryz.prog 100 = some [.nil 1, .int .i64 0, .int .i8 0] := by kernel_rfl
@[go_sem] theorem sz102 : szT Tryz.prog 102 = some 1 := by kernel_rfl
@[go_sem] theorem ag102 : aggT Tryz.prog 102 = some false := by kernel_rfl
@[go_sem] theorem kd102 : kdT Tryz.prog 102 = some (.other) := by kernel_rfl
@[go_sem] theorem sz103 : szT Tryz.prog 103 = some 1 := by kernel_rfl
@[go_sem] theorem ag103 : aggT Tryz.prog 103 = some false := by kernel_rfl
@[go_sem] theorem kd103 : kdT Tryz.prog 103 = some (.int .u64) := by kernel_rfl
@[go_sem] theorem ze103 : zeroT Tryz.prog 103 = some [.int .u64 0] := by kernel_rfl
@[go_sem] theorem sz115 : szT Tryz.prog 115 = some 24 := by kernel_rfl
@[go_sem] theorem ag115 : aggT Tryz.prog 115 = some true := by kernel_rfl
@[go_sem] theorem kd115 : kdT Tryz.prog 115 = some (.other) := by kernel_rfl
@[go_sem] theorem ar115 : arT Tryz.prog 115 = some (24, 1, false) := by kernel_rfl
@[go_sem] theorem pr115_0 : prtT Tryz.prog 115 0 = some (0, 1, 5) := by kernel_rfl
@[go_sem] theorem pr115_1 : prtT Tryz.prog 115 1 = some (1, 1, 5) := by kernel_rfl
@[go_sem] theorem pr115_2 : prtT Tryz.prog 115 2 = some (2, 1, 5) := by kernel_rfl
@[go_sem] theorem pr115_3 : prtT Tryz.prog 115 3 = some (3, 1, 5) := by kernel_rfl
@[go_sem] theorem pr115_4 : prtT Tryz.prog 115 4 = some (4, 1, 5) := by kernel_rfl
@[go_sem] theorem pr115_5 : prtT Tryz.prog 115 5 = some (5, 1, 5) := by kernel_rfl
@[go_sem] theorem pr115_6 : prtT Tryz.prog 115 6 = some (6, 1, 5) := by kernel_rfl
@[go_sem] theorem pr115_7 : prtT Tryz.prog 115 7 = some (7, 1, 5) := by kernel_rfl
@[go_sem] theorem fo115 : fieldsOk Tryz.prog 115 = true := by kernel_rfl
@[go_sem] theorem ze115 : zeroT Tryz.prog 115 = some [.int .u8 0, .int .u8 0, .int .u8 0, .int .u8 0, .int .u8 0, .int .u8 0, .int .u8 0, .int .u8 0, .int .u8 0, .int .u8 0, .int .u8 0, .int .u8 0, .int .u8 0, .int .u8 0, .int .u8 0, .int .u8 0, .int .u8 0, .int .u8 0, .int .u8 0, .int .u8 0, .int .u8 0, .int .u8 0, .int .u8 0, .int .u8 0] := by kernel_rfl
@[go_sem] theorem sz120 : szT Tryz.prog 120 = some 1 := by kernel_rfl
@[go_sem] theorem ag120 : aggT Tryz.prog 120 = some false := by kernel_rfl
@[go_sem] theorem kd120 : kdT Tryz.prog 120 = some (.other) := by kernel_rfl
@[go_sem] theorem sz123 : szT Tryz.prog 123 = some 1 := by kernel_rfl
@[go_sem] theorem ag123 : aggT Tryz.prog 123 = some false := by kernel_rfl
@[go_sem] theorem kd123 : kdT Tryz.prog 123 = some (.other) := by kernel_rfl
@[go_sem] theorem sz130 : szT Tryz.prog 130 = some 20 := by kernel_rfl
@[go_sem] theorem ag130 : aggT Tryz.prog 130 = some true := by kernel_rfl
@[go_sem] theorem kd130 : kdT Tryz.prog 130 = some (.other) := by kernel_rfl
@[go_sem] theorem ar130 : arT Tryz.prog 130 = some (20, 1, false) := by kernel_rfl
@[go_sem] theorem pr130_0 : prtT Tryz.prog 130 0 = some (0, 1, 103) := by kernel_rfl
@[go_sem] theorem pr130_1 : prtT Tryz.prog 130 1 = some (1, 1, 103) := by kernel_rfl
@[go_sem] theorem pr130_2 : prtT Tryz.prog 130 2 = some (2, 1, 103) := by kernel_rfl
@[go_sem] theorem pr130_3 : prtT Tryz.prog 130 3 = some (3, 1, 103) := by kernel_rfl
@[go_sem] theorem pr130_4 : prtT Tryz.prog 130 4 = some (4, 1, 103) := by kernel_rfl
@[go_sem] theorem pr130_5 : prtT Tryz.prog 130 5 = some (5, 1, 103) := by kernel_rfl
@[go_sem] theorem pr130_6 : prtT Tryz.prog 130 6 = some (6, 1, 103) := by kernel_rfl
@[go_sem] theorem pr130_7 : prtT Tryz.prog 130 7 = some (7, 1, 103) := by kernel_rfl
@[go_sem] theorem fo130 : fieldsOk Tryz.prog 130 = true := by kernel_rfl
@[go_sem] theorem ze130 : zeroT Tryz.prog 130 = some [.int .u64 0, .int .u64 0, .int .u64 0, .int .u64 0, .int .u64 0, .int .u64 0, .int .u64 0, .int .u64 0, .int .u64 0, .int .u64 0, .int .u64 0, .int .u64 0, .int .u64 0, .int .u64 0, .int .u64 0, .int .u64 0, .int .u64 0, .int .u64 0, .int .u64 0, .int .u64 0] := by kernel_rfl
@[go_sem] theorem sz131 : szT Tryz.prog 131 = some 1 := by kernel_rfl
@[go_sem] theorem ag131 : aggT Tryz.prog 131 = some false := by kernel_rfl
@[go_sem] theorem kd131 : kdT Tryz.prog 131 = some (.int .u32) := by kernel_rfl
@[go_sem] theorem ze131 : zeroT Tryz.prog 131 = some [.int .u32 0] := by kernel_rfl
@[go_sem] theorem sz132 : szT Tryz.prog 132 = some 65 := by kernel_rfl
@[go_sem] theorem ag132 : aggT Tryz.prog 132 = some true := by kernel_rfl
@[go_sem] theorem kd132 : kdT Tryz.prog 132 = some (.other) := by kernel_rfl
@[go_sem] theorem ar132 : arT Tryz.prog 132 = some (65, 1, false) := by kernel_rfl
@[go_sem] theorem pr132_0 : prtT Tryz.prog 132 0 = some (0, 1, 5) := by kernel_rfl
@[go_sem] theorem pr132_1 : prtT Tryz.prog 132 1 = some (1, 1, 5) := by kernel_rfl
@[go_sem] theorem pr132_2 : prtT Tryz.prog 132 2 = some (2, 1, 5) := by kernel_rfl
@[go_sem] theorem pr132_3 : prtT Tryz.prog 132 3 = some (3, 1, 5) := by kernel_rfl
@[go_sem] theorem pr132_4 : prtT Tryz.prog 132 4 = some (4, 1, 5) := by kernel_rfl
@[go_sem] theorem pr132_5 : prtT Tryz.prog 132 5 = some (5, 1, 5) := by kernel_rfl
@[go_sem] theorem pr132_6 : prtT Tryz.prog 132 6 = some (6, 1, 5) := by kernel_rfl
@[go_sem] theorem pr132_7 : prtT Tryz.prog 132 7 = some (7, 1, 5) := by kernel_rfl
@[go_sem] theorem fo132 : fieldsOk Tryz.prog 132 = true := by kernel_rfl
@[go_sem] theorem sz137 : szT Tryz.prog 137 = some 1 := by kernel_rfl
@[go_sem] theorem ag137 : aggT Tryz.prog 137 = some false := by kernel_rfl
@[go_sem] theorem kd137 : kdT Tryz.prog 137 = some (.int .i64) := by kernel_rfl
@[go_sem] theorem ze137 : zeroT Tryz.prog 137 = some [.int .i64 0] := by kernel_rfl
@[go_sem] theorem sz140 : szT Tryz.prog 140 = some 1 := by kernel_rfl
@[go_sem] theorem ag140 : aggT Tryz.prog 140 = some false := by kernel_rfl
@[go_sem] theorem kd140 : kdT Tryz.prog 140 = some (.other) := by kernel_rfl
@[go_sem] theorem sz146 : szT Tryz.prog 146 = some 3 := by kernel_rfl
@[go_sem] theorem ag146 : aggT Tryz.prog 146 = some true := by kernel_rfl
@[go_sem] theorem kd146 : kdT Tryz.prog 146 = some (.other) := by kernel_rfl
@[go_sem] theorem fl146_0 : fldT Tryz.prog 146 0 = some (0, 1, false) := by kernel_rfl
@[go_sem] theorem pr146_0 : prtT Tryz.prog 146 0 = some (0, 1, 9) := by kernel_rfl
@[go_sem] theorem fl146_1 : fldT Tryz.prog 146 1 = some (1, 1, false) := by kernel_rfl
@[go_sem] theorem pr146_1 : prtT Tryz.prog 146 1 = some (1, 1, 9) := by kernel_rfl
@[go_sem] theorem fl146_2 : fldT Tryz.prog 146 2 = some (2, 1, false) := by kernel_rfl
@[go_sem] theorem pr146_2 : prtT Tryz.prog 146 2 = some (2, 1, 78) := by kernel_rfl
@[go_sem] theorem fo146 : fieldsOk Tryz.prog 146 = true := by kernel_rfl
@[go_sem] theorem ze146 : zeroT Tryz.prog 146 = some [.str [], .str [], .err false] := by kernel_rfl
@[go_sem] theorem sz147 : szT Tryz.prog 147 = some 3 := by kernel_rfl
@[go_sem] theorem ag147 : aggT Tryz.prog 147 = some true := by kernel_rfl
@[go_sem] theorem kd147 : kdT Tryz.prog 147 = some (.other) := by kernel_rfl
@[go_sem] theorem fl147_0 : fldT Tryz.prog 147 0 = some (0, 1, false) := by kernel_rfl
@[go_sem] theorem pr147_0 : prtT Tryz.prog 147 0 = some (0, 1, 9) := by kernel_rfl
@[go_sem] theorem fl147_1 : fldT Tryz.prog 147 1 = some (1, 1, false) := by kernel_rfl
@[go_sem] theorem pr147_1 : prtT Tryz.prog 147 1 = some (1, 1, 9) := by kernel_rfl
@[go_sem] theorem fl147_2 : fldT Tryz.prog 147 2 = some (2, 1, false) := by kernel_rfl
@[go_sem] theorem pr147_2 : prtT Tryz.prog 147 2 = some (2, 1, 78) := by kernel_rfl
@[go_sem] theorem fo147 : fieldsOk Tryz.prog 147 = true := by kernel_rfl
@[go_sem] theorem ze147 : zeroT Tryz.prog 147 = some [.str [], .str [], .err false] := by kernel_rfl
@[go_sem] theorem sz149 : szT Tryz.prog 149 = some 32 := by kernel_rfl
@[go_sem] theorem ag149 : aggT Tryz.prog 149 = some true := by kernel_rfl
@[go_sem] theorem kd149 : kdT Tryz.prog 149 = some (.other) := by kernel_rfl
@[go_sem] theorem ar149 : arT Tryz.prog 149 = some (32, 1, false) := by kernel_rfl
@[go_sem] theorem pr149_0 : prtT Tryz.prog 149 0 = some (0, 1, 5) := by kernel_rfl
@[go_sem] theorem pr149_1 : prtT Tryz.prog 149 1 = some (1, 1, 5) := by kernel_rfl
@[go_sem] theorem pr149_2 : prtT Tryz.prog 149 2 = some (2, 1, 5) := by kernel_rfl
@[go_sem] theorem pr149_3 : prtT Tryz.prog 149 3 = some (3, 1, 5) := by kernel_rfl
@[go_sem] theorem pr149_4 : prtT Tryz.prog 149 4 = some (4, 1, 5) := by kernel_rfl
@[go_sem] theorem pr149_5 : prtT Tryz.prog 149 5 = some (5, 1, 5) := by kernel_rfl
@[go_sem] theorem pr149_6 : prtT Tryz.prog 149 6 = some (6, 1, 5) := by kernel_rfl
@[go_sem] theorem pr149_7 : prtT Tryz.prog 149 7 = some (7, 1, 5) := by kernel_rfl
@[go_sem] theorem fo149 : fieldsOk Tryz.prog 149 = true := by kernel_rfl
@[go_sem] theorem ze149 : zeroT Tryz.prog 149 = some [.int .u8 0, .int .u8 0, .int .u8 0, .int .u8 0, .int .u8 0, .int .u8 0, .int .u8 0, .int .u8 0, .int .u8 0, .int .u8 0, .int .u8 0, .int .u8 0, .int .u8 0, .int .u8 0, .int .u8 0, .int .u8 0, .int .u8 0, .int .u8 0, .int .u8 0, .int .u8 0, .int .u8 0, .int .u8 0, .int .u8 0, .int .u8 0, .int .u8 0, .int .u8 0, .int .u8 0, .int .u8 0, .int .u8 0, .int .u8 0, .int .u8 0, .int .u8 0] := by kernel_rfl
@[go_sem] theorem sz150 : szT Tryz.prog 150 = some 64 := by kernel_rfl
@[go_sem] theorem ag150 : aggT Tryz.prog 150 = some true := by kernel_rfl
@[go_sem] theorem kd150 : kdT Tryz.prog 150 = some (.other) := by kernel_rfl
@[go_sem] theorem ar150 : arT Tryz.prog 150 = some (64, 1, false) := by kernel_rfl
@[go_sem] theorem pr150_0 : prtT Tryz.prog 150 0 = some (0, 1, 5) := by kernel_rfl
@[go_sem] theorem pr150_1 : prtT Tryz.prog 150 1 = some (1, 1, 5) := by kernel_rfl
@[go_sem] theorem pr150_2 : prtT Tryz.prog 150 2 = some (2, 1, 5) := by kernel_rfl
@[go_sem] theorem pr150_3 : prtT Tryz.prog 150 3 = some (3, 1, 5) := by kernel_rfl
@[go_sem] theorem pr150_4 : prtT Tryz.prog 150 4 = some (4, 1, 5) := by kernel_rfl
@[go_sem] theorem pr150_5 : prtT Tryz.prog 150 5 = some (5, 1, 5) := by kernel_rfl
@[go_sem] theorem pr150_6 : prtT Tryz.prog 150 6 = some (6, 1, 5) := by kernel_rfl
@[go_sem] theorem pr150_7 : prtT Tryz.prog 150 7 = some (7, 1, 5) := by kernel_rfl
@[go_sem] theorem fo150 : fieldsOk Tryz.prog 150 = true := by kernel_rfl
@[go_sem] theorem sz151 : szT Tryz.prog 151 = some 1 := by kernel_rfl
@[go_sem] theorem ag151 : aggT Tryz.prog 151 = some false := by kernel_rfl
@[go_sem] theorem kd151 : kdT Tryz.prog 151 = some (.other) := by kernel_rfl
@[go_sem] theorem sz152 : szT Tryz.prog 152 = some 1 := by kernel_rfl
@[go_sem] theorem ag152 : aggT Tryz.prog 152 = some true := by kernel_rfl
@[go_sem] theorem kd152 : kdT Tryz.prog 152 = some (.other) := by kernel_rfl
@[go_sem] theorem fl152_0 : fldT Tryz.prog 152 0 = some (0, 1, false) := by kernel_rfl
@[go_sem] theorem pr152_0 : prtT Tryz.prog 152 0 = some (0, 1, 9) := by kernel_rfl
@[go_sem] theorem fo152 : fieldsOk Tryz.prog 152 = true := by kernel_rfl
@[go_sem] theorem eqs152 (a0 b0 : List UInt8) : eqStT Tryz.prog 6 152 [.str a0] [.str b0] = some ((decide (a0 = b0)) && true) := by kernel_rfl
@[go_sem] theorem eqg152 : Go.Program.eqGuardType Tryz.prog (Go.Program.depth Tryz.prog) 152 = false := by kernel_rfl
@[go_sem] theorem ze152 : zeroT Tryz.prog 152 = some [.str []] := by kernel_rfl
@[go_sem] theorem sz153 : szT Tryz.prog 153 = some 1 := by kernel_rfl
@[go_sem] theorem ag153 : aggT Tryz.prog 153 = some true := by kernel_rfl
@[go_sem] theorem kd153 : kdT Tryz.prog 153 = some (.other) := by kernel_rfl
@[go_sem] theorem fl153_0 : fldT Tryz.prog 153 0 = some (0, 1, false) := by kernel_rfl
@[go_sem] theorem pr153_0 : prtT Tryz.prog 153 0 = some (0, 1, 9) := by kernel_rfl
@[go_sem] theorem fo153 : fieldsOk Tryz.prog 153 = true := by kernel_rfl
@[go_sem] theorem ze153 : zeroT Tryz.prog 153 = some [.str []] := by kernel_rfl
@[go_sem] theorem sz156 : szT Tryz.prog 156 = some 4 := by kernel_rfl
@[go_sem] theorem ag156 : aggT Tryz.prog 156 = some true := by kernel_rfl
@[go_sem] theorem kd156 : kdT Tryz.prog 156 = some (.other) := by kernel_rfl
@[go_sem] theorem fl156_0 : fldT Tryz.prog 156 0 = some (0, 1, false) := by kernel_rfl
@[go_sem] theorem pr156_0 : prtT Tryz.prog 156 0 = some (0, 1, 17) := by kernel_rfl
@[go_sem] theorem fl156_1 : fldT Tryz.prog 156 1 = some (1, 1, false) := by kernel_rfl
@[go_sem] theorem pr156_1 : prtT Tryz.prog 156 1 = some (1, 1, 17) := by kernel_rfl
@[go_sem] theorem fl156_2 : fldT Tryz.prog 156 2 = some (2, 1, false) := by kernel_rfl
@[go_sem] theorem pr156_2 : prtT Tryz.prog 156 2 = some (2, 1, 17) := by kernel_rfl
@[go_sem] theorem fl156_3 : fldT Tryz.prog 156 3 = some (3, 1, false) := by kernel_rfl
@[go_sem] theorem pr156_3 : prtT Tryz.prog 156 3 = some (3, 1, 9) := by kernel_rfl
@[go_sem] theorem fo156 : fieldsOk Tryz.prog 156 = true := by kernel_rfl
@[go_sem] theorem sz157 : szT Tryz.prog 157 = some 4 := by kernel_rfl
@[go_sem] theorem ag157 : aggT Tryz.prog 157 = some true := by kernel_rfl
@[go_sem] theorem kd157 : kdT Tryz.prog 157 = some (.other) := by kernel_rfl
@[go_sem] theorem fl157_0 : fldT Tryz.prog 157 0 = some (0, 1, false) := by kernel_rfl
@[go_sem] theorem pr157_0 : prtT Tryz.prog 157 0 = some (0, 1, 17) := by kernel_rfl
@[go_sem] theorem fl157_1 : fldT Tryz.prog 157 1 = some (1, 1, false) := by kernel_rfl
@[go_sem] theorem pr157_1 : prtT Tryz.prog 157 1 = some (1, 1, 17) := by kernel_rfl
@[go_sem] theorem fl157_2 : fldT Tryz.prog 157 2 = some (2, 1, false) := by kernel_rfl
@[go_sem] theorem pr157_2 : prtT Tryz.prog 157 2 = some (2, 1, 17) := by kernel_rfl
@[go_sem] theorem fl157_3 : fldT Tryz.prog 157 3 = some (3, 1, false) := by kernel_rfl
@[go_sem] theorem pr157_3 : prtT Tryz.prog 157 3 = some (3, 1, 9) := by kernel_rfl
@[go_sem] theorem fo157 : fieldsOk Tryz.prog 157 = true := by kernel_rfl
@[go_sem] theorem sz158 : szT Tryz.prog 158 = some 0 := by kernel_rfl
@[go_sem] theorem ag158 : aggT Tryz.prog 158 = some true := by kernel_rfl
@[go_sem] theorem kd158 : kdT Tryz.prog 158 = some (.other) := by kernel_rfl
@[go_sem] theorem ar158 : arT Tryz.prog 158 = some (0, 1, false) := by kernel_rfl
@[go_sem] theorem fo158 : fieldsOk Tryz.prog 158 = true := by kernel_rfl
@[go_sem] theorem sz159 : szT Tryz.prog 159 = some 0 := by kernel_rfl
@[go_sem] theorem ag159 : aggT Tryz.prog 159 = some true := by kernel_rfl
@[go_sem] theorem kd159 : kdT Tryz.prog 159 = some (.other) := by kernel_rfl
@[go_sem] theorem pr159_0 : prtT Tryz.prog 159 0 = some (0, 0, 158) := by kernel_rfl
@[go_sem] theorem fo159 : fieldsOk Tryz.prog 159 = true := by kernel_rfl
@[go_sem] theorem sz160 : szT Tryz.prog 160 = some 0 := by kernel_rfl
@[go_sem] theorem ag160 : aggT Tryz.prog 160 = some true := by kernel_rfl
@[go_sem] theorem kd160 : kdT Tryz.prog 160 = some (.other) := by kernel_rfl
@[go_sem] theorem pr160_0 : prtT Tryz.prog 160 0 = some (0, 0, 158) := by kernel_rfl
@[go_sem] theorem fo160 : fieldsOk Tryz.prog 160 = true := by kernel_rfl
@[go_sem] theorem sz161 : szT Tryz.prog 161 = some 1 := by kernel_rfl
@[go_sem] theorem ag161 : aggT Tryz.prog 161 = some false := by kernel_rfl
@[go_sem] theorem kd161 : kdT Tryz.prog 161 = some (.int .u8) := by kernel_rfl
@[go_sem] theorem ze161 : zeroT Tryz.prog 161 = some [.int .u8 0] := by kernel_rfl
@[go_sem] theorem sz162 : szT Tryz.prog 162 = some 1 := by kernel_rfl
@[go_sem] theorem ag162 : aggT Tryz.prog 162 = some false := by kernel_rfl
@[go_sem] theorem kd162 : kdT Tryz.prog 162 = some (.int .u8) := by kernel_rfl
@[go_sem] theorem ze162 : zeroT Tryz.prog 162 = some [.int .u8 0] := by kernel_rfl
@[go_sem] theorem sz164 : szT Tryz.prog 164 = some 1 := by kernel_rfl
@[go_sem] theorem ag164 : aggT Tryz.prog 164 = some false := by kernel_rfl
@[go_sem] theorem kd164 : kdT Tryz.prog 164 = some (.int .i32) := by kernel_rfl
@[go_sem] theorem ze164 : zeroT Tryz.prog 164 = some [.int .i32 0] := by kernel_rfl
@[go_sem] theorem sz165 : szT Tryz.prog 165 = some 1 := by kernel_rfl
@[go_sem] theorem ag165 : aggT Tryz.prog 165 = some false := by kernel_rfl
@[go_sem] theorem kd165 : kdT Tryz.prog 165 = some (.int .i32) := by kernel_rfl
@[go_sem] theorem ze165 : zeroT Tryz.prog 165 = some [.int .i32 0] := by kernel_rfl
@[go_sem] theorem sz166 : szT Tryz.prog 166 = some 11 := by kernel_rfl
@[go_sem] theorem ag166 : aggT Tryz.prog 166 = some true := by kernel_rfl
@[go_sem] theorem kd166 : kdT Tryz.prog 166 = some (.other) := by kernel_rfl
@[go_sem] theorem fl166_0 : fldT Tryz.prog 166 0 = some (0, 1, false) := by kernel_rfl
@[go_sem] theorem pr166_0 : prtT Tryz.prog 166 0 = some (0, 1, 12) := by kernel_rfl
@[go_sem] theorem fl166_1 : fldT Tryz.prog 166 1 = some (1, 1, false) := by kernel_rfl
@[go_sem] theorem pr166_1 : prtT Tryz.prog 166 1 = some (1, 1, 12) := by kernel_rfl
@[go_sem] theorem fl166_2 : fldT Tryz.prog 166 2 = some (2, 1, false) := by kernel_rfl
@[go_sem] theorem pr166_2 : prtT Tryz.prog 166 2 = some (2, 1, 131) := by kernel_rfl
@[go_sem] theorem fl166_3 : fldT Tryz.prog 166 3 = some (3, 1, false) := by kernel_rfl
@[go_sem] theorem pr166_3 : prtT Tryz.prog 166 3 = some (3, 1, 161) := by kernel_rfl
@[go_sem] theorem fl166_4 : fldT Tryz.prog 166 4 = some (4, 1, false) := by kernel_rfl
@[go_sem] theorem pr166_4 : prtT Tryz.prog 166 4 = some (4, 1, 5) := by kernel_rfl
@[go_sem] theorem fl166_5 : fldT Tryz.prog 166 5 = some (5, 1, false) := by kernel_rfl
@[go_sem] theorem pr166_5 : prtT Tryz.prog 166 5 = some (5, 1, 5) := by kernel_rfl
@[go_sem] theorem fl166_6 : fldT Tryz.prog 166 6 = some (6, 1, false) := by kernel_rfl
@[go_sem] theorem pr166_6 : prtT Tryz.prog 166 6 = some (6, 1, 162) := by kernel_rfl
@[go_sem] theorem fl166_7 : fldT Tryz.prog 166 7 = some (7, 1, false) := by kernel_rfl
@[go_sem] theorem pr166_7 : prtT Tryz.prog 166 7 = some (7, 1, 163) := by kernel_rfl
@[go_sem] theorem fl166_8 : fldT Tryz.prog 166 8 = some (8, 1, false) := by kernel_rfl
@[go_sem] theorem pr166_8 : prtT Tryz.prog 166 8 = some (8, 1, 102) := by kernel_rfl
@[go_sem] theorem fl166_9 : fldT Tryz.prog 166 9 = some (9, 1, false) := by kernel_rfl
@[go_sem] theorem pr166_9 : prtT Tryz.prog 166 9 = some (9, 1, 164) := by kernel_rfl
@[go_sem] theorem fl166_10 : fldT Tryz.prog 166 10 = some (10, 1, false) := by kernel_rfl
@[go_sem] theorem pr166_10 : prtT Tryz.prog 166 10 = some (10, 1, 165) := by kernel_rfl
@[go_sem] theorem fo166 : fieldsOk Tryz.prog 166 = true := by kernel_rfl
@[go_sem] theorem sz167 : szT Tryz.prog 167 = some 11 := by kernel_rfl
@[go_sem] theorem ag167 : aggT Tryz.prog 167 = some true := by kernel_rfl
@[go_sem] theorem kd167 : kdT Tryz.prog 167 = some (.other) := by kernel_rfl
@[go_sem] theorem fl167_0 : fldT Tryz.prog 167 0 = some (0, 1, false) := by kernel_rfl
@[go_sem] theorem pr167_0 : prtT Tryz.prog 167 0 = some (0, 1, 12) := by kernel_rfl
@[go_sem] theorem fl167_1 : fldT Tryz.prog 167 1 = some (1, 1, false) := by kernel_rfl
@[go_sem] theorem pr167_1 : prtT Tryz.prog 167 1 = some (1, 1, 12) := by kernel_rfl
@[go_sem] theorem fl167_2 : fldT Tryz.prog 167 2 = some (2, 1, false) := by kernel_rfl
@[go_sem] theorem pr167_2 : prtT Tryz.prog 167 2 = some (2, 1, 131) := by kernel_rfl
@[go_sem] theorem fl167_3 : fldT Tryz.prog 167 3 = some (3, 1, false) := by kernel_rfl
@[go_sem] theorem pr167_3 : prtT Tryz.prog 167 3 = some (3, 1, 161) := by kernel_rfl
@[go_sem] theorem fl167_4 : fldT Tryz.prog 167 4 = some (4, 1, false) := by kernel_rfl
@[go_sem] theorem pr167_4 : prtT Tryz.prog 167 4 = some (4, 1, 5) := by kernel_rfl
@[go_sem] theorem fl167_5 : fldT Tryz.prog 167 5 = some (5, 1, false) := by kernel_rfl
@[go_sem] theorem pr167_5 : prtT Tryz.prog 167 5 = some (5, 1, 5) := by kernel_rfl
@[go_sem] theorem fl167_6 : fldT Tryz.prog 167 6 = some (6, 1, false) := by kernel_rfl
@[go_sem] theorem pr167_6 : prtT Tryz.prog 167 6 = some (6, 1, 162) := by kernel_rfl
@[go_sem] theorem fl167_7 : fldT Tryz.prog 167 7 = some (7, 1, false) := by kernel_rfl
@[go_sem] theorem pr167_7 : prtT Tryz.prog 167 7 = some (7, 1, 163) := by kernel_rfl
@[go_sem] theorem fl167_8 : fldT Tryz.prog 167 8 = some (8, 1, false) := by kernel_rfl
@[go_sem] theorem pr167_8 : prtT Tryz.prog 167 8 = some (8, 1, 102) := by kernel_rfl
@[go_sem] theorem fl167_9 : fldT Tryz.prog 167 9 = some (9, 1, false) := by kernel_rfl
@[go_sem] theorem pr167_9 : prtT Tryz.prog 167 9 = some (9, 1, 164) := by kernel_rfl
@[go_sem] theorem fl167_10 : fldT Tryz.prog 167 10 = some (10, 1, false) := by kernel_rfl
@[go_sem] theorem pr167_10 : prtT Tryz.prog 167 10 = some (10, 1, 165) := by kernel_rfl
@[go_sem] theorem fo167 : fieldsOk Tryz.prog 167 = true := by kernel_rfl
end Go.Proofs.YtogponhonjiidaaGreatDoor
set_option linter.unusedVariables false
set_option linter.unusedSimpArgs false
namespace Go.Sx
variable {P : Program} {n : Nat} {Q : Exit → AS → Prop}
/-- whatever meets σ meets τ -/
def Gh (n : Nat) (σ τ : AS) : Prop := ∀ κ M0 a w, St κ M0 n σ a w → St κ M0 n τ a w
theorem Gh.refl (σ : AS) : Gh n σ σ := fun _ _ _ _ h => h
theorem Gh.trans {σ τ ρ : AS} (h : Gh n σ τ) (k : Gh n τ ρ) : Gh n σ ρ := fun κ M0 a w s => k κ M0 a w (h κ M0 a w s)
theorem AWP.gh {c : Code} {σ τ : AS} (h : Gh n σ τ) (k : AWP P n c τ Q) : AWP P n c σ Q := fun κ M0 a w s => k κ M0 a w (h κ M0 a w s)
theorem Gh.keep {env : Env} {B : Bx} (ds : List Nat) : Gh n ⟨env, B⟩ ⟨keepL env ds, B⟩ := by
  intro κ M0 a w s
  obtain ⟨M, ν, h1, h2, h3, h4, h5, h6⟩ := s
  exact ⟨M, ν, h1, h2, h3, fun d t e => h4 d t (keepL_lookup env d t ds e), h5, h6⟩
def noDup : List Nat → Bool
  | [] => true
  | k :: ks => ks.all (fun j => Bool.not (j == k)) && noDup ks
theorem noDup_spec : ∀ {l : List Nat}, noDup l = true → l.Nodup
  | [], _ => List.nodup_nil
  | k :: ks, h => by
    simp only [noDup, Bool.and_eq_true, List.all_eq_true] at h
    refine List.nodup_cons.2 ⟨fun hm => ?_, noDup_spec h.2⟩
    have := h.1 k hm
    simp at this
/-- boxes are let go of -/
theorem Gh.drop {env : Env} {B B' : Bx} (hs : bxSub B B') (hn : noDup (B'.map (·.1)) = true) : Gh n ⟨env, B⟩ ⟨env, B'⟩ := by
  intro κ M0 a w s
  obtain ⟨M, ν, h1, h2, h3, h4, h5, h6⟩ := s
  exact ⟨M, ν, h1, h2, h3, h4, h5.drop (bxSub_spec hs) (noDup_spec hn), h6⟩
def rnm (j k i : Nat) : Nat := bif i == j then k else i
def renE (j k : Nat) : Env → Env
  | [] => []
  | p :: env => (p.1, p.2.ren (rnm j k)) :: renE j k env
def renB (j k : Nat) : Bx → Bx
  | [] => []
  | p :: B => (rnm j k p.1, p.2.ren (rnm j k)) :: renB j k B
theorem renE_lookup {j k d : Nat} {t : T} : ∀ {env : Env}, (renE j k env).lookup d = some t → ∃ u, env.lookup d = some u ∧ t = u.ren (rnm j k)
  | [], h => by simp [renE] at h
  | p :: env, h => by
    obtain ⟨e, u⟩ := p
    simp only [renE, List.lookup_cons] at h ⊢
    cases hb : (d == e) with
    | true => rw [hb] at h; simp only [Option.some.injEq] at h; exact ⟨u, rfl, h.symm⟩
    | false => rw [hb] at h; exact renE_lookup h
theorem renB_mem {j k i : Nat} {r : Res} : ∀ {B : Bx}, (i, r) ∈ renB j k B → ∃ i0 r0, (i0, r0) ∈ B ∧ i = rnm j k i0 ∧ r = r0.ren (rnm j k)
  | p :: B, h => by
    simp only [renB] at h
    rcases List.mem_cons.1 h with h | h
    · cases h; exact ⟨p.1, p.2, by simp, rfl, rfl⟩
    · obtain ⟨i0, r0, hm, e1, e2⟩ := renB_mem h
      exact ⟨i0, r0, List.mem_cons_of_mem _ hm, e1, e2⟩
theorem renB_keys {j k : Nat} : ∀ {B : Bx}, (renB j k B).map (·.1) = (B.map (·.1)).map (rnm j k)
  | [] => rfl
  | p :: B => by simp only [renB, List.map_cons, renB_keys]
theorem nodup_map_inj {f : Nat → Nat} : ∀ {l : List Nat}, l.Nodup → (∀ x ∈ l, ∀ y ∈ l, f x = f y → x = y) → (l.map f).Nodup
  | [], _, _ => by simp
  | a :: l, hn, hf => by
    simp only [List.nodup_cons] at hn
    simp only [List.map_cons, List.nodup_cons]
    refine ⟨fun hm => ?_, nodup_map_inj hn.2 fun x hx y hy => hf x (List.mem_cons_of_mem _ hx) y (List.mem_cons_of_mem _ hy)⟩
    obtain ⟨x, hx, e⟩ := List.mem_map.1 hm
    have := hf x (List.mem_cons_of_mem _ hx) a (by simp) e
    subst this
    exact hn.1 hx
theorem Res.ok_ren_gen {M : Mem} {ν : Nu} {w : World} {ρ : Nat → Nat} {k : Nat} : ∀ {r : Res}, (r.ren ρ).ok M ν w (ρ k) ↔ r.ok M (fun i => ν (ρ i)) w k
  | .cells cs => by
    simp only [Res.ren, Res.ok]
    constructor
    · rintro ⟨b, c, et, h1, h2, h3⟩; exact ⟨b, c, et, h1, h2, (Cell.reps_ren cs _).1 h3⟩
    · rintro ⟨b, c, et, h1, h2, h3⟩; exact ⟨b, c, et, h1, h2, (Cell.reps_ren cs _).2 h3⟩
  | .row sz rows => by simp only [Res.ren, Res.ok]
  | .mp ag es => by simp only [Res.ren, Res.ok]
theorem Gh.rename {env : Env} {B : Bx} (j k : Nat) (hj : lowN j = true) (hk : lowN k = true) (hf : Env.fresh k env = true) (hfB : Bx.fresh k B = true) : Gh n ⟨env, B⟩ ⟨renE j k env, renB j k B⟩ := by
  intro κ M0 a w s
  have hj := lowN_spec hj
  have hk := lowN_spec hk
  obtain ⟨M, ν, h1, h2, h3, h4, h5, h6⟩ := s
  have agree : ∀ i, i ≠ k → ν.set k (ν j) (rnm j k i) = ν i := by
    intro i hi
    unfold rnm
    cases hb : (i == j) with
    | true => have : i = j := by simpa using hb
              subst this; simp [Nu.set_self]
    | false => simp only [cond_false]; exact Nu.set_other i hi
  have keyne : ∀ i r, (i, r) ∈ B → i ≠ k := fun i r hm => (Bx.fresh_spec hfB hm).1
  refine ⟨M, ν.set k (ν j), h1, h2, h3, ?_, ⟨h5.os, h5.tape, h5.output, Nat.zero_le _, h5.size, h5.unch, h5.fro, ?_, ?_, ?_, ?_⟩, ?_⟩
  · intro d t e
    obtain ⟨u, hu, rfl⟩ := renE_lookup e
    exact (T.rep_ren u _).2 (T.rep_fresh agree u _ (Env.fresh_spec hf (lookup_mem hu)) (h4 d u hu))
  · intro i r hm
    obtain ⟨i0, r0, hm0, rfl, rfl⟩ := renB_mem hm
    exact Res.ok_ren_gen.2 (Res.ok_fresh agree (keyne i0 r0 hm0) (Bx.fresh_spec hfB hm0).2 (h5.res i0 r0 hm0))
  · intro i r b hm hb
    obtain ⟨i0, r0, hm0, rfl, rfl⟩ := renB_mem hm
    rw [agree i0 (keyne i0 r0 hm0)] at hb
    obtain ⟨g1, g2⟩ := h5.away i0 r0 b hm0 hb
    exact ⟨g1, g2⟩
  · intro i r i' r' b hm hm' hb hb'
    obtain ⟨i0, r0, hm0, rfl, rfl⟩ := renB_mem hm
    obtain ⟨i1, r1, hm1, rfl, rfl⟩ := renB_mem hm'
    rw [agree i0 (keyne i0 r0 hm0)] at hb
    rw [agree i1 (keyne i1 r1 hm1)] at hb'
    rw [h5.inj i0 r0 i1 r1 b hm0 hm1 hb hb']
  · rw [renB_keys]
    refine nodup_map_inj h5.nodup fun x hx y hy e => ?_
    obtain ⟨p, hp, rfl⟩ := List.mem_map.1 hx
    obtain ⟨q, hq, rfl⟩ := List.mem_map.1 hy
    have hpk := keyne p.1 p.2 hp
    have hqk := keyne q.1 q.2 hq
    unfold rnm at e
    cases hb : (p.1 == j) with
    | true =>
      cases hc : (q.1 == j) with
      | true => have h1 : p.1 = j := by simpa using hb
                have h2 : q.1 = j := by simpa using hc
                rw [h1, h2]
      | false => rw [hb, hc] at e; exact absurd e.symm hqk
    | false =>
      cases hc : (q.1 == j) with
      | true => rw [hb, hc] at e; exact absurd e hpk
      | false => rw [hb, hc] at e; exact e
  · intro i hi
    rw [Nu.set_other i (by omega)]; exact h6 i hi
def frE (k sz : Nat) (rows : List (List C)) : Env → Env
  | [] => []
  | p :: env => (p.1, p.2.fr k sz rows) :: frE k sz rows env
def Env.frOk (k len : Nat) : Env → Prop
  | [] => True
  | p :: env => p.2.frOk k len ∧ Env.frOk k len env
def frB (k sz : Nat) (rows : List (List C)) : Bx → Bx
  | [] => []
  | p :: B => (match p.2 with
    | .cells cs => (p.1, .cells (Cell.frs k sz rows cs))
    | r => (p.1, r)) :: frB k sz rows B
def Bx.frOk (k len : Nat) : Bx → Prop
  | [] => True
  | p :: B => (match p.2 with
    | .cells cs => Cell.frOks k len cs
    | _ => True) ∧ Bx.frOk k len B
theorem frE_lookup {k sz len d : Nat} {rows : List (List C)} {t : T} : ∀ {env : Env}, Env.frOk k len env → (frE k sz rows env).lookup d = some t → ∃ u, env.lookup d = some u ∧ t = u.fr k sz rows ∧ u.frOk k len
  | [], _, h => by simp [frE] at h
  | p :: env, ho, h => by
    obtain ⟨e, u⟩ := p
    simp only [Env.frOk] at ho
    simp only [frE, List.lookup_cons] at h ⊢
    cases hb : (d == e) with
    | true => rw [hb] at h; simp only [Option.some.injEq] at h; exact ⟨u, rfl, h.symm, ho.1⟩
    | false => rw [hb] at h; exact frE_lookup ho.2 h
theorem frB_mem {k sz len i : Nat} {rows : List (List C)} {r : Res} : ∀ {B : Bx}, Bx.frOk k len B → (i, r) ∈ frB k sz rows B → ∃ r0, (i, r0) ∈ B ∧ ((r = r0 ∧ ∀ cs, r0 ≠ .cells cs) ∨ ∃ cs, r0 = .cells cs ∧ r = .cells (Cell.frs k sz rows cs) ∧ Cell.frOks k len cs)
  | p :: B, ho, h => by
    obtain ⟨i', r'⟩ := p
    simp only [Bx.frOk] at ho
    simp only [frB] at h
    rcases List.mem_cons.1 h with h | h
    · cases r' with
      | cells cs => cases h; exact ⟨.cells cs, by simp, .inr ⟨cs, rfl, rfl, ho.1⟩⟩
      | row s rs => cases h; exact ⟨.row s rs, by simp, .inl ⟨rfl, by intro cs; simp⟩⟩
      | mp ag es => cases h; exact ⟨.mp ag es, by simp, .inl ⟨rfl, by intro cs; simp⟩⟩
    · obtain ⟨r0, hm, h⟩ := frB_mem ho.2 h
      exact ⟨r0, List.mem_cons_of_mem _ hm, h⟩
theorem frB_keys {k sz : Nat} {rows : List (List C)} : ∀ {B : Bx}, (frB k sz rows B).map (·.1) = B.map (·.1)
  | [] => rfl
  | (i, .cells cs) :: B => by simp only [frB, List.map_cons, frB_keys]
  | (i, .row s rs) :: B => by simp only [frB, List.map_cons, frB_keys]
  | (i, .mp s rs) :: B => by simp only [frB, List.map_cons, frB_keys]
theorem Bx.frOk_drop {k j len : Nat} : ∀ {B : Bx}, Bx.frOk k len B → Bx.frOk k len (Bx.drop j B)
  | [], _ => trivial
  | p :: B, h => by
    simp only [Bx.frOk] at h
    unfold Bx.drop
    cases hp : (p.1 == j) with
    | true => exact h.2
    | false => exact ⟨h.1, Bx.frOk_drop h.2⟩
theorem Gh.freeze {env : Env} {B : Bx} (k : Nat) {sz : Nat} {rows : List (List C)} (hb : B.lookup k = some (.row sz rows)) (hlow : lowN k = true) (hE : Env.frOk k rows.length env) (hB : Bx.frOk k rows.length B) :
    Gh n ⟨env, B⟩ ⟨frE k sz rows env, frB k sz rows (Bx.drop k B)⟩ := by
  intro κ M0 a w s
  obtain ⟨M, ν, h1, h2, h3, h4, h5, h6⟩ := s
  obtain ⟨M', g1, g2, g3⟩ := h5.freeze (lookup_box hb) (lowN_spec hlow)
  have hB' := Bx.frOk_drop (j := k) hB
  refine ⟨M', ν, h1.trans g1, h2, h3, ?_, ⟨g2.os, g2.tape, g2.output, Nat.zero_le _, g2.size, g2.unch, g2.fro, ?_, ?_, ?_, by rw [frB_keys]; exact g2.nodup⟩, h6⟩
  · intro d t e
    obtain ⟨u, hu, rfl, hok⟩ := frE_lookup hE e
    exact T.rep_fr g3 u _ hok (h4 d u hu)
  · intro i r hm
    obtain ⟨r0, hm0, ⟨rfl, _⟩ | ⟨cs, rfl, rfl, hok⟩⟩ := frB_mem hB' hm
    · exact g2.res i r hm0
    · have h0 := h5.res i _ (Bx.mem_drop h5.nodup hm0).1
      simp only [Res.ok] at h0 ⊢
      obtain ⟨b, c, et, e1, e2, e3⟩ := h0
      exact ⟨b, c, et, e1, e2, Cell.reps_fr g3 cs _ hok e3⟩
  · intro i r b hm hb
    obtain ⟨r0, hm0, _⟩ := frB_mem hB' hm
    exact g2.away i r0 b hm0 hb
  · intro i r i' r' b hm hm' hb hb'
    obtain ⟨r0, hm0, _⟩ := frB_mem hB' hm
    obtain ⟨r1, hm1, _⟩ := frB_mem hB' hm'
    exact g2.inj i r0 i' r1 b hm0 hm1 hb hb'
theorem Sat.nilrow {κ : Kap} {M : Mem} {ν : Nu} {B : Bx} {w : World} (h : Sat κ M ν B w) (k sz : Nat) (hfB : Bx.fresh k B = true) : Sat κ M (ν.set k ⟨none, 0⟩) ((k, .row sz []) :: B) w := by
  refine ⟨h.os, h.tape, h.output, Nat.zero_le _, h.size, h.unch, h.fro, ?_, ?_, ?_, ?_⟩
  · intro j r hm
    rcases List.mem_cons.1 hm with e | hm
    · cases e; simp only [Res.ok, Nu.set_self]; exact ⟨Nat.le_refl _, Nat.zero_le _, .inl (by simp)⟩
    · obtain ⟨hj, hc⟩ := Bx.fresh_spec hfB hm
      exact Res.ok_fresh Nu.set_other hj hc (h.res j r hm)
  · intro j r b hm hb
    rcases List.mem_cons.1 hm with e | hm
    · cases e; rw [Nu.set_self] at hb; cases hb
    · obtain ⟨hj, hc⟩ := Bx.fresh_spec hfB hm
      rw [Nu.set_other j hj] at hb
      exact h.away j r b hm hb
  · intro j r j' r' b hm hm' hb hb'
    rcases List.mem_cons.1 hm with e | hm <;> rcases List.mem_cons.1 hm' with e' | hm'
    · cases e; cases e'; rfl
    · cases e; rw [Nu.set_self] at hb; cases hb
    · cases e'; rw [Nu.set_self] at hb'; cases hb'
    · obtain ⟨hj, _⟩ := Bx.fresh_spec hfB hm
      obtain ⟨hj', _⟩ := Bx.fresh_spec hfB hm'
      rw [Nu.set_other j hj] at hb
      rw [Nu.set_other j' hj'] at hb'
      exact h.inj j r j' r' b hm hm' hb hb'
  · simp only [List.map_cons, List.nodup_cons]
    refine ⟨fun hm => ?_, h.nodup⟩
    obtain ⟨x, hx, e⟩ := List.mem_map.1 hm
    exact (Bx.fresh_spec (j := x.1) (r := x.2) hfB hx).1 e
/-- the temporary d holds a nil slice: from now on it is the row k -/
theorem Gh.nilrow {env : Env} {B : Bx} (d k : Nat) {sz : Nat} (hd : env.lookup d = some (.one (.dat (.nil sz)))) (hlow : lowN k = true) (hf : Env.fresh k env = true) (hfB : Bx.fresh k B = true) :
    Gh n ⟨env, B⟩ ⟨(d, .one (.own k 0)) :: env, (k, .row sz []) :: B⟩ := by
  intro κ M0 a w s
  obtain ⟨M, ν, h1, h2, h3, h4, h5, h6⟩ := s
  refine ⟨M, ν.set k ⟨none, 0⟩, h1, h2, h3, ?_, h5.nilrow k sz hfB, fun i hi => by rw [Nu.set_other i (by have := lowN_spec hlow; omega)]; exact h6 i hi⟩
  intro e t he
  simp only [List.lookup_cons] at he
  cases hb : (e == d) with
  | true =>
    rw [hb] at he
    have : e = d := by simpa using hb
    subst this
    simp only [Option.some.injEq] at he
    subst he
    have := h4 e _ hd
    simp only [T.rep, Cell.rep, C.rep, Nu.set_self] at this ⊢
    rw [this]; rfl
  | false =>
    rw [hb] at he
    exact (h4.fresh hf Nu.set_other) e t he
/-- the i-th cell of the box j holds a nil slice: from now on it is the row k -/
theorem Gh.nilcell {env : Env} {B : Bx} (j i k : Nat) {sz : Nat} {pre post : List Cell} {cs : List Cell} (hb : B.lookup j = some (.cells cs)) (hc : cutC i cs = some (pre, .dat (.nil sz) :: post)) (hlow : lowN k = true) (hf : Env.fresh k env = true) (hfB : Bx.fresh k B = true) :
    Gh n ⟨env, B⟩ ⟨env, (k, .row sz []) :: Bx.put j (.cells (pre ++ .own k 0 :: post)) B⟩ := by
  intro κ M0 a w s
  obtain ⟨M, ν, h1, h2, h3, h4, h5, h6⟩ := s
  have hs := h5.nilrow k sz hfB
  have hmem := lookup_box hb
  obtain ⟨e1, _⟩ := cutC_spec hc
  refine ⟨M, ν.set k ⟨none, 0⟩, h1, h2, h3, h4.fresh hf Nu.set_other, ?_, fun i hi => by rw [Nu.set_other i (by have := lowN_spec hlow; omega)]; exact h6 i hi⟩
  have hkeys : ∀ i r, (i, r) ∈ (k, Res.row sz []) :: Bx.put j (.cells (pre ++ .own k 0 :: post)) B → ∃ r0, (i, r0) ∈ (k, Res.row sz []) :: B := by
    intro i r hm
    rcases List.mem_cons.1 hm with e | hm
    · cases e; exact ⟨_, List.mem_cons_self ..⟩
    · rcases Bx.mem_put h5.nodup hm with e | ⟨hm, _⟩
      · cases e; exact ⟨_, List.mem_cons_of_mem _ hmem⟩
      · exact ⟨r, List.mem_cons_of_mem _ hm⟩
  refine ⟨hs.os, hs.tape, hs.output, Nat.zero_le _, hs.size, hs.unch, hs.fro, ?_, ?_, ?_, ?_⟩
  · intro i r hm
    rcases List.mem_cons.1 hm with e | hm
    · cases e; exact hs.res k _ (List.mem_cons_self ..)
    · rcases Bx.mem_put h5.nodup hm with e | ⟨hm, _⟩
      · cases e
        have h0 := hs.res j _ (List.mem_cons_of_mem _ hmem)
        simp only [Res.ok] at h0 ⊢
        obtain ⟨b, c, et, g1, g2, g3⟩ := h0
        refine ⟨b, c, et, g1, g2, ?_⟩
        rw [e1] at g3
        obtain ⟨u1, u2, eu, hu1, hu2⟩ := Cell.reps_split g3
        rw [eu]
        simp only [Cell.reps] at hu2
        obtain ⟨v, vs, ev, hv, hvs⟩ := hu2
        subst ev
        refine Cell.reps_append hu1 ?_
        simp only [Cell.reps]
        refine ⟨v, vs, rfl, ?_, hvs⟩
        simp only [Cell.rep, C.rep, Nu.set_self] at hv ⊢
        rw [hv]; rfl
      · exact hs.res i r (List.mem_cons_of_mem _ hm)
  · intro i r b hm hb
    obtain ⟨r0, hm0⟩ := hkeys i r hm
    exact hs.away i r0 b hm0 hb
  · intro i r i' r' b hm hm' hb hb'
    obtain ⟨r0, hm0⟩ := hkeys i r hm
    obtain ⟨r1, hm1⟩ := hkeys i' r' hm'
    exact hs.inj i r0 i' r1 b hm0 hm1 hb hb'
  · have := hs.nodup
    simp only [List.map_cons, Bx.put_keys] at this ⊢
    exact this
attribute [go_sem] rnm renE renB frE frB Env.frOk Bx.frOk bxSub noDup T.ren T.rens Cell.ren Cell.rens Res.ren
mutual
/-- the row k, that has len elements, is spoken of at its full length -/
def Cell.frAOk (k len : Nat) : Cell → Prop
  | .arr j m => (j == k) = true → m = len
  | .clo _ caps => Cell.frAOks k len caps
  | _ => True
def Cell.frAOks (k len : Nat) : List Cell → Prop
  | [] => True
  | c :: cs => Cell.frAOk k len c ∧ Cell.frAOks k len cs
end
mutual
def Cell.frA (k sz : Nat) (rows : List (List C)) : Cell → Cell
  | .own j m => .own j m
  | .clo f caps => .clo f (Cell.frsA k sz rows caps)
  | .dat c => .dat c
  | .ptr j o => .ptr j o
  | .rp j s i f => .rp j s i f
  | .arr j m => bif j == k then .dat (.sl sz rows) else .arr j m
  | .ref r => .ref r
  | .mp j => .mp j
def Cell.frsA (k sz : Nat) (rows : List (List C)) : List Cell → List Cell
  | [] => []
  | c :: cs => Cell.frA k sz rows c :: Cell.frsA k sz rows cs
end
mutual
def T.frAOk (k len : Nat) : T → Prop
  | .one c => c.frAOk k len
  | .agg cs => Cell.frAOks k len cs
  | .tup ts => T.frAOks k len ts
  | _ => True
def T.frAOks (k len : Nat) : List T → Prop
  | [] => True
  | t :: ts => T.frAOk k len t ∧ T.frAOks k len ts
end
mutual
def T.frA (k sz : Nat) (rows : List (List C)) : T → T
  | .one c => .one (c.frA k sz rows)
  | .agg cs => mkAgg (Cell.frsA k sz rows cs)
  | .tup ts => .tup (T.frsA k sz rows ts)
  | .st r => .st r
  | .un => .un
def T.frsA (k sz : Nat) (rows : List (List C)) : List T → List T
  | [] => []
  | t :: ts => T.frA k sz rows t :: T.frsA k sz rows ts
end
def frAE (k sz : Nat) (rows : List (List C)) : Env → Env
  | [] => []
  | p :: env => (p.1, p.2.frA k sz rows) :: frAE k sz rows env
def Env.frAOk (k len : Nat) : Env → Prop
  | [] => True
  | p :: env => p.2.frAOk k len ∧ Env.frAOk k len env
def frAB (k sz : Nat) (rows : List (List C)) : Bx → Bx
  | [] => []
  | p :: B => (match p.2 with
    | .cells cs => (p.1, .cells (Cell.frsA k sz rows cs))
    | r => (p.1, r)) :: frAB k sz rows B
def Bx.frAOk (k len : Nat) : Bx → Prop
  | [] => True
  | p :: B => (match p.2 with
    | .cells cs => Cell.frAOks k len cs
    | _ => True) ∧ Bx.frAOk k len B
attribute [go_sem] Cell.frAOk Cell.frAOks T.frAOk T.frAOks Cell.frA Cell.frsA T.frA T.frsA frAE frAB Env.frAOk Bx.frAOk
end Go.Sx
set_option linter.unusedVariables false
namespace Go.Sx
variable {P : Program} {n : Nat} {Q : Exit → AS → Prop}
/-- the names that change: (theirs, ours) -/
def rn : List (Nat × Nat) → Nat → Nat
  | [], i => i
  | p :: l, i => bif i == p.1 then p.2 else rn l i
def rnLow : List (Nat × Nat) → Bool
  | [] => true
  | p :: l => Nat.blt p.1 pin && (Nat.blt p.2 pin && rnLow l)
theorem rn_pin : ∀ {l : List (Nat × Nat)}, rnLow l = true → ∀ k, pin ≤ k → rn l k = k
  | [], _, k, _ => rfl
  | p :: l, h, k, hk => by
    simp only [rnLow, Bool.and_eq_true] at h
    have h1 : p.1 < pin := by simpa using h.1
    unfold rn
    have : (k == p.1) = false := by simp; omega
    rw [this]; exact rn_pin h.2.2 k hk
theorem rn_low : ∀ {l : List (Nat × Nat)}, rnLow l = true → ∀ k, k < pin → rn l k < pin
  | [], _, k, hk => hk
  | p :: l, h, k, hk => by
    simp only [rnLow, Bool.and_eq_true] at h
    have h2 : p.2 < pin := by simpa using h.2.1
    unfold rn
    cases (k == p.1)
    · exact rn_low h.2.2 k hk
    · exact h2
def wkE (l : List (Nat × Nat)) (env : Env) : Env → Prop
  | [] => True
  | p :: τ => env.lookup p.1 = some (p.2.ren (rn l)) ∧ wkE l env τ
def wkB (l : List (Nat × Nat)) (B : Bx) : Bx → Prop
  | [] => True
  | p :: τ => B.lookup (rn l p.1) = some (p.2.ren (rn l)) ∧ wkB l B τ
theorem wkE_spec {l : List (Nat × Nat)} {env : Env} : ∀ {τ : Env}, wkE l env τ → ∀ p ∈ τ, env.lookup p.1 = some (p.2.ren (rn l))
  | q :: τ, h, p, hm => by
    rcases List.mem_cons.1 hm with rfl | hm
    · exact h.1
    · exact wkE_spec h.2 p hm
theorem wkB_spec {l : List (Nat × Nat)} {B : Bx} : ∀ {τ : Bx}, wkB l B τ → ∀ p ∈ τ, (rn l p.1, p.2.ren (rn l)) ∈ B
  | q :: τ, h, p, hm => by
    rcases List.mem_cons.1 hm with rfl | hm
    · exact lookup_box h.1
    · exact wkB_spec h.2 p hm
theorem Gh.to {env : Env} {B : Bx} (l : List (Nat × Nat)) {τ : AS} (h1 : wkE l env τ.env) (h2 : wkB l B τ.B) (h3 : noDup (τ.B.map fun p => rn l p.1) = true) (h4 : noDup (τ.B.map (·.1)) = true) (h5 : rnLow l = true) : Gh n ⟨env, B⟩ τ := by
  intro κ M0 a w s
  exact s.weak (ρ := rn l) ⟨wkE_spec h1, wkB_spec h2, noDup_spec h3, noDup_spec h4, rn_pin h5, rn_low h5⟩
/-- a loop whose states are told by data -/
theorem AWP.loopS {c : Code} {σ : AS} {X : Type} (env : X → Env) (box : X → Bx) (ok : X → Prop) (meas : X → Nat) (x₀ : X) (hs : Gh n σ ⟨env x₀, box x₀⟩) (h₀ : ok x₀)
    (round : ∀ x, ok x → AWP P n c ⟨env x, box x⟩ (Then (fun σ' => ∃ x', meas x' < meas x ∧ ok x' ∧ Gh n σ' ⟨env x', box x'⟩) Q)) : AWP P n (.loop c) σ Q := by
  refine AWP.gh hs ?_
  refine AWP.loop (fun k σ => ∃ x, σ = ⟨env x, box x⟩ ∧ ok x ∧ meas x = k) (meas x₀) ⟨x₀, rfl, h₀, rfl⟩ ?_
  rintro k _ ⟨x, rfl, hx, rfl⟩ κ M0 a w s
  refine wp_mono (round x hx κ M0 a w s) ?_
  rintro e a' w' ⟨σ', s', q⟩
  cases e with
  | normal => obtain ⟨x', h1, h2, h3⟩ := q; exact ⟨_, h3 κ M0 a' w' s', meas x', h1, x', rfl, h2, rfl⟩
  | exit id => exact ⟨σ', s', q⟩
  | goto l => exact ⟨σ', s', q⟩
  | ret => exact ⟨σ', s', q⟩
  | panic ch => exact ⟨σ', s', q⟩
  | outgrown => exact ⟨σ', s', q⟩
theorem PCBk.mk {f : FuncId} {args0 : List T} {res0 res0' : Res} {r0 : T} (k : Nat) (h : PCB P f args0 [(pin, res0)] r0 [(pin, res0')]) :
    PCBk P f (T.rens (fun _ => k) args0) k (res0.ren fun _ => k) (r0.ren fun _ => k) (res0'.ren fun _ => k) := ⟨_, _, _, _, h, rfl, rfl, rfl, rfl⟩
/-- at the end a step of the proof's own may be taken (freezing) -/
def GhQ (n : Nat) (Q : Exit → AS → Prop) (e : Exit) (σ : AS) : Prop := ∃ τ, Gh n σ τ ∧ Q e τ
theorem AWP.ghQ {c : Code} {σ : AS} (h : AWP P n c σ (GhQ n Q)) : AWP P n c σ Q := by
  intro κ M0 a w s
  refine wp_mono (h κ M0 a w s) ?_
  rintro e a' w' ⟨σ', s', τ, g, q⟩
  exact ⟨τ, g κ M0 a' w' s', q⟩
theorem GhQ.step {Q : Exit → AS → Prop} {e : Exit} {σ τ : AS} (h : Gh n σ τ) (k : GhQ n Q e τ) : GhQ n Q e σ := by
  obtain ⟨ρ, h2, q⟩ := k
  exact ⟨ρ, h.trans h2, q⟩
theorem fin0 {A : Prop} {B : Bx} (h : A) : A ∧ ∀ x ∈ ([] : Bx), x ∈ B := ⟨h, fun _ h => by cases h⟩
theorem wrap_succ {k m : Nat} (h : k < m) (hm : m ≤ 9223372036854775807) : IntKind.i64.wrap ((k : Int) + 1) = ((k + 1 : Nat) : Int) := by rw [w64 (by omega)]; rfl
/-- the loop's test, the element at it -/
theorem at_lt {α : Type} {enc : α → List C} {l : List α} {k : Nat} (h : k < l.length) : ∃ d, l[k]? = some d ∧ (l.map enc)[k]? = some (enc d) ∧ decide ((k : Int) < (l.length : Int)) = true ∧ l.drop k = d :: l.drop (k + 1) :=
  ⟨l[k], by simp [h], by simp [h], by simpa using h, List.drop_eq_getElem_cons h⟩
@[go_sem] theorem frOks_map (k n : Nat) : ∀ r : List C, Cell.frOks k n (r.map .dat) = True
  | [] => by simp [Cell.frOks]
  | c :: r => by simp only [List.map_cons, Cell.frOks, Cell.frOk, frOks_map k n r, and_true]
@[go_sem] theorem frs_map (k sz : Nat) (rows : List (List C)) : ∀ r : List C, Cell.frs k sz rows (r.map .dat) = r.map .dat
  | [] => rfl
  | c :: r => by simp only [List.map_cons, Cell.frs, Cell.fr, frs_map k sz rows r]
@[go_sem] theorem rens_map (ρ : Nat → Nat) : ∀ r : List C, Cell.rens ρ (r.map .dat) = r.map .dat
  | [] => rfl
  | c :: r => by simp only [List.map_cons, Cell.rens, Cell.ren, rens_map ρ r]
@[go_sem] theorem frAOks_map (k n : Nat) : ∀ r : List C, Cell.frAOks k n (r.map .dat) = True
  | [] => by simp [Cell.frAOks]
  | c :: r => by simp only [List.map_cons, Cell.frAOks, Cell.frAOk, frAOks_map k n r, and_true]
@[go_sem] theorem frsA_map (k sz : Nat) (rows : List (List C)) : ∀ r : List C, Cell.frsA k sz rows (r.map .dat) = r.map .dat
  | [] => rfl
  | c :: r => by simp only [List.map_cons, Cell.frsA, Cell.frA, frsA_map k sz rows r]
attribute [go_sem] rn rnLow wkE wkB
end Go.Sx
set_option linter.unusedVariables false
namespace Go.Sx
variable {P : Program} {n : Nat}
theorem Gh.soft {env : Env} {B : Bx} (j : Nat) {cs : List Cell} (hb : B.lookup j = some (.cells cs)) : Gh n ⟨env, B⟩ ⟨env, Bx.put j (.cells (cs.map Cell.soft)) B⟩ := by
  intro κ M0 a w s
  obtain ⟨M, ν, h1, h2, h3, h4, h5, h6⟩ := s
  have hmem := lookup_box hb
  have hkeys : ∀ i r, (i, r) ∈ Bx.put j (.cells (cs.map Cell.soft)) B → ∃ r0, (i, r0) ∈ B := by
    intro i r hm
    rcases Bx.mem_put h5.nodup hm with e | ⟨hm, _⟩
    · cases e; exact ⟨_, hmem⟩
    · exact ⟨r, hm⟩
  refine ⟨M, ν, h1, h2, h3, h4, ⟨h5.os, h5.tape, h5.output, Nat.zero_le _, h5.size, h5.unch, h5.fro, ?_, ?_, ?_, ?_⟩, h6⟩
  · intro i r hm
    rcases Bx.mem_put h5.nodup hm with e | ⟨hm, _⟩
    · cases e
      have h0 := h5.res j _ hmem
      simp only [Res.ok] at h0 ⊢
      obtain ⟨b, c, et, g1, g2, g3⟩ := h0
      exact ⟨b, c, et, g1, g2, Cell.reps_soft g3⟩
    · exact h5.res i r hm
  · intro i r b hm hbk
    obtain ⟨r0, h0⟩ := hkeys i r hm
    exact h5.away i r0 b h0 hbk
  · intro i r i' r' b hm hm' hbk hbk'
    obtain ⟨r0, h0⟩ := hkeys i r hm
    obtain ⟨r1, h1⟩ := hkeys i' r' hm'
    exact h5.inj i r0 i' r1 b h0 h1 hbk hbk'
  · rw [Bx.put_keys]; exact h5.nodup
end Go.Sx
set_option linter.unusedVariables false
namespace Go.Sx
variable {P : Program} {n : Nat} {Q : Exit → AS → Prop}
/-- the boxes of these names -/
def keepB (B : Bx) : List Nat → Bx
  | [] => []
  | d :: ds => match B.lookup d with
    | some t => (d, t) :: keepB B ds
    | none => keepB B ds
attribute [go_sem] keepB
/-- a loop of which only some slots and boxes change -/
theorem AWP.loopF {c : Code} {env : Env} {B : Bx} {X : Type} (chg : X → Env) (chB : X → Bx) (ks kb : List Nat) (ok : X → Prop) (meas : X → Nat) (x₀ : X)
    (hs : Gh n ⟨env, B⟩ ⟨chg x₀ ++ keepL env ks, chB x₀ ++ keepB B kb⟩) (h₀ : ok x₀)
    (round : ∀ x, ok x → AWP P n c ⟨chg x ++ keepL env ks, chB x ++ keepB B kb⟩ (Then (fun σ' => ∃ x', meas x' < meas x ∧ ok x' ∧ Gh n σ' ⟨chg x' ++ keepL env ks, chB x' ++ keepB B kb⟩) Q)) : AWP P n (.loop c) ⟨env, B⟩ Q :=
  AWP.loopS (fun x => chg x ++ keepL env ks) (fun x => chB x ++ keepB B kb) ok meas x₀ hs h₀ round
/-- a range over a list -/
theorem AWP.range {c : Code} {env : Env} {B : Bx} {α S : Type} (l : List α) (enc : α → List C) (chg : Nat → S → Env) (chB : Nat → S → Bx) (ks kb : List Nat) (ok : Nat → S → Prop) (s₀ : S)
    (hs : Gh n ⟨env, B⟩ ⟨chg 0 s₀ ++ keepL env ks, chB 0 s₀ ++ keepB B kb⟩) (h₀ : ok 0 s₀)
    (step : ∀ (k : Nat) (s : S) (x : α), k < l.length → l[k]? = some x → (l.map enc)[k]? = some (enc x) → decide ((k : Int) < (l.length : Int)) = true → ok k s →
      AWP P n c ⟨chg k s ++ keepL env ks, chB k s ++ keepB B kb⟩ (Then (fun σ' => ∃ s', ok (k + 1) s' ∧ Gh n σ' ⟨chg (k + 1) s' ++ keepL env ks, chB (k + 1) s' ++ keepB B kb⟩) Q))
    (done : ∀ s : S, decide ((l.length : Int) < (l.length : Int)) = false → ok l.length s → AWP P n c ⟨chg l.length s ++ keepL env ks, chB l.length s ++ keepB B kb⟩ (Then (fun _ => False) Q)) : AWP P n (.loop c) ⟨env, B⟩ Q := by
  refine AWP.loopF (X := Nat × S) (fun x => chg x.1 x.2) (fun x => chB x.1 x.2) ks kb (fun x => x.1 ≤ l.length ∧ ok x.1 x.2) (fun x => l.length - x.1) (0, s₀) hs ⟨Nat.zero_le _, h₀⟩ ?_
  rintro ⟨k, s⟩ ⟨hk, hok⟩
  simp only at hk hok ⊢
  by_cases hlt : k < l.length
  · obtain ⟨x, hx, hx', hb, _⟩ := at_lt (enc := enc) hlt
    refine (step k s x hlt hx hx' hb hok).mono ?_
    intro e σ' hq
    cases e with
    | normal => obtain ⟨s', h1, h2⟩ := hq; exact ⟨(k + 1, s'), by simp only; omega, ⟨by simp only; omega, h1⟩, h2⟩
    | exit id => exact hq
    | goto l => exact hq
    | ret => exact hq
    | panic ch => exact hq
    | outgrown => exact hq
  · have : k = l.length := by omega
    subst this
    refine (done s (by simp) hok).mono ?_
    intro e σ' hq
    cases e with
    | normal => exact hq.elim
    | exit id => exact hq
    | goto l => exact hq
    | ret => exact hq
    | panic ch => exact hq
    | outgrown => exact hq
end Go.Sx
