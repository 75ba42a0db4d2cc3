/-
  The law TokenTexts holds in its second form: for every list of tokens that holds at most 1048576 values and letters the Go function returns true and leaves its argument as it was, the package variables being as the card lists them. No conditions beyond the card.
-/
import Derived.Test.YtogponhonjiidaaDoorCards
import Derived.Test.YtogponhonjiidaaDoorTie
import Derived.WalkKit
import Derived.ProofKit
import Derived.OpenShut
import Derived.Deep.DeepHandedRow
import Derived.Deep.DeepWitnessRowRef
import Derived.Lib.LaidTab
import Derived.Test.YtogponhonjiidaaDoorTt5
import Derived.Test.YtogponhonjiidaaDoorTt7
import Derived.Test.YtogponhonjiidaaDoorTt8
namespace Go.Proofs.YtogponhonjiidaaDoor.tokenTexts
open Go.ChangeShapes Go.WideShapes Go.ChangeAt Go.RowKit
set_option linter.unusedVariables false
theorem own : ownKnob Tryd.prog.godebug = none := by kernel_rfl
theorem all_sum {H : Type} : ∀ l : List (DataW H), (l.map Rows.uptoBulk).sum = Rows.uptoBulkAll l
  | [] => by simp [Rows.uptoBulkAll]
  | d :: l => by simp only [List.map_cons, List.sum_cons, Rows.uptoBulkAll, all_sum l]
theorem blk {H : Type} : Sx.Blk (H := H) Rows.uptoBulk where
  lit l := by cases l <;> simp [Rows.uptoBulk]
  str l := by simp [Rows.uptoBulk]
  nil := by simp [Rows.uptoBulk]
  sl a b := by rw [all_sum]; simp only [Rows.uptoBulk]; omega
  agg a := by rw [all_sum]; simp only [Rows.uptoBulk]; omega
set_option maxRecDepth 100000 in
theorem cells_tok {n : Nat} {row : List Sx.C} (h : Sx.hasT Tryd.prog n 34 row) : ∃ t : Tok, row = encTok t ∧ -9223372036854775808 ≤ t.num ∧ t.num ≤ 9223372036854775807 := by
  obtain ⟨m, parts, rfl, rfl, hl, hf⟩ := Sx.cells_st Tryd.underlying34 h
  match parts, hl with
  | [p0, p1, p2, p3], _ =>
    obtain ⟨a, rfl⟩ := Sx.cells_i64 Tryd.underlying3 (hf 0 _ p0 rfl rfl)
    obtain ⟨b, rfl⟩ := Sx.cells_text Tryd.underlying9 (hf 1 _ p1 rfl rfl)
    obtain ⟨c, rfl, h0, h1⟩ := Sx.cells_int Tryd.underlying2 (hf 2 _ p2 rfl rfl)
    obtain ⟨d, rfl⟩ := Sx.cells_i64 Tryd.underlying3 (hf 3 _ p3 rfl rfl)
    exact ⟨⟨a, b, c, d⟩, rfl, h0, h1⟩
theorem cbRs_mem : ∀ {l : List Tok} {t : Tok}, t ∈ l → t.text.length ≤ Sx.cbRs (l.map encTok)
  | x :: l, t, h => by
    simp only [List.map_cons, Sx.cbRs]
    rcases List.mem_cons.1 h with rfl | h
    · simp only [encTok, Sx.cbL, Sx.cbC]; omega
    · have := cbRs_mem h; omega
theorem cbRs_len : ∀ l : List Tok, l.length ≤ Sx.cbRs (l.map encTok)
  | [] => by simp
  | x :: l => by
    have := cbRs_len l
    simp only [List.map_cons, Sx.cbRs, List.length_cons, encTok, Sx.cbL, Sx.cbC]; omega
theorem walk : ∀ us, Sx.argsOkB Tryd.prog 1048576 Tryd.f8.params.toList us → Sx.PC Tryd.prog 8 us (Sx.Bo true) := by
  rintro us ⟨n1, r1, u1, rfl, h1, b1, rfl⟩
  obtain ⟨l, e1, _, hl⟩ := Sx.cells_sl (enc := encTok) (p := fun t => -9223372036854775808 ≤ t.num ∧ t.num ≤ 9223372036854775807) (sz := 4) Tryd.underlying29 (by kernel_rfl) (fun row h => cells_tok h) h1
  have e2 : Sx.argT Tryd.prog 29 r1 = .one (.dat (.sl 4 (l.map encTok))) := by rw [e1]; simp only [Sx.argT, ag29]; rfl
  rw [e2]
  rw [e1] at b1
  simp only [Sx.cbL, Sx.cbC] at b1
  refine tokenTexts_c l (fun t ht => ⟨(hl t ht).1, (hl t ht).2, ?_⟩) ?_
  · have := cbRs_mem ht; omega
  · have := cbRs_len l; omega
set_option maxRecDepth 100000 in
theorem contract (H : Type) (enc : TypeId × Value → H) (W : World) (base : Nat) (args : Array Value) (ds gs : List (DataW H)) (before : List MemPlace)
    (hval : ∀ (j : Nat) t v, Tryd.f8.params[j]? = some t → args[j]? = some v → Value.okWide Tryd.prog W .any base t v)
    (hW : DataW.Whole enc Tryd.prog Tryd.f8.params.toList Rows.tokenTextsSpec.vars false W args.toList ds gs before) (hL : laidMetH Tryd.prog Rows.tokenTextsUptoRow.laid W) (hS : W.ShapedOpen Tryd.prog) (hB : (ds.map Rows.uptoBulk).sum ≤ 1048576) :
    Calls Tryd.prog 8 args W fun e W' => ∃ v, e = .returned v ∧ Rows.tokenTextsSpec.post enc Tryd.prog Tryd.f8 false true false false W args v W' :=
  Sx.law_postB blk (B := 1048576) (C := Tryd.checked) (F := 8) (fn := Tryd.f8) (s := Rows.tokenTextsSpec) (L := [29, 34, 3, 9, 2]) (tb := 4) (by kernel_rfl) (by kernel_rfl) (by kernel_rfl) rfl rfl Tryd.underlying4
    (by
      intro ds h
      match ds, h with
      | [d1], _ => rfl) walk W (globOk hL hS) base args ds gs before hval hW hB
end Go.Proofs.YtogponhonjiidaaDoor.tokenTexts
namespace Go.Proofs.YtogponhonjiidaaDoor.tokenTexts
open Go.ChangeShapes Go.WideShapes Go.ChangeAt Go.RowKit
/-- A world for the witness: the settled one with four blocks more (the signs, the three errors' texts), the variables laid. -/
noncomputable def laidWorld (os : Os) : World :=
  let n := (World.settled Tryd.prog os).heap.size
  let str (s : List UInt8) : Obj := .cells #[.string ⟨s.toArray⟩] 157
  let w0 := World.holding Tryd.prog os ⟨#[.cells (signL.map fun s => Value.string ⟨s.toArray⟩).toArray 9, str [98, 121, 116, 101, 115, 46, 66, 117, 102, 102, 101, 114, 58, 32, 116, 111, 111, 32, 108, 97, 114, 103, 101], str [105, 110, 118, 97, 108, 105, 100, 32, 115, 121, 110, 116, 97, 120], str [118, 97, 108, 117, 101, 32, 111, 117, 116, 32, 111, 102, 32, 114, 97, 110, 103, 101]], #[], []⟩
  let put (h : Array Obj) (k : Nat) (cs : Array Value) : Array Obj := h.modify k fun
    | .cells _ t frozen => .cells cs t frozen
    | o => o
  let err (k : Nat) : Array Value := #[.iface 155 (.pointer (some ⟨k, 0, none⟩))]
  let b (l : List Int) : Array Value := (l.map fun z => Value.int .u8 z).toArray
  let h1 := put (put (put w0.heap 0 #[.slice (some ⟨n, 0, none⟩) 23 23]) 1 (Sx.pow10V.map fun z => Value.int .u64 z).toArray) 2 (err (n + 1))
  let h2 := put (put h1 4 (err (n + 2))) 5 (err (n + 3))
  let h3 := put (put h2 6 (b [0, 1, 28, 2, 29, 14, 24, 3, 30, 22, 20, 15, 25, 17, 4, 8, 31, 27, 13, 23, 21, 19, 16, 7, 26, 12, 18, 6, 11, 5, 10, 9])) 7 (b [0, 1, 56, 2, 57, 49, 28, 3, 61, 58, 42, 50, 38, 29, 17, 4, 62, 47, 59, 36, 45, 43, 51, 22, 53, 39, 33, 30, 24, 18, 12, 5, 63, 55, 48, 27, 60, 41, 37, 16, 46, 35, 44, 21, 52, 32, 23, 11, 54, 26, 40, 15, 34, 20, 31, 10, 25, 14, 19, 9, 13, 8, 7, 6])
  { w0 with heap := h3 }
theorem laid_met (os : Os) (args : Array Value) : laidMet Tryd.prog Rows.tokenTextsUptoRow.laid ((laidWorld os).forCall (fun _ _ => 0) ⟨#[], args, []⟩).memory :=
  laidMet_of_run' 8 (by kernel_rfl) (by kernel_rfl)
abbrev wit : Array Value := #[.slice none 0 0]
theorem reads (os : Os) {H : Type} (enc : TypeId × Value → H) : ∃ places, DataW.whole enc Tryd.prog ((laidWorld os).forCall (fun _ _ => 0) ⟨#[], wit, []⟩).memory Tryd.f8.params.toList Rows.tokenTextsSpec.vars false wit.toList 8 = some ([.nil], [], places) :=
  ⟨[], by kernel_rfl⟩
set_option maxRecDepth 100000 in
theorem lifted (os : Os) (started : os.Started) (H : Type) (enc : TypeId × Value → H) (F : Stop.Interp) :
    ReturnsInHanded {} Tryd.checked os 8 .any ((Rows.OpenSpec.upto Rows.tokenTextsSpec).preRow enc Tryd.prog Tryd.f8 Rows.tokenTextsUptoRow.domain false Rows.tokenTextsUptoRow.laid) (((Rows.OpenSpec.upto Rows.tokenTextsSpec).at F).post enc Tryd.prog Tryd.f8 false true false false) := by
  obtain ⟨places, hx⟩ := reads os enc
  refine returnsInHanded_of_row (C := Tryd.checked) (s := Rows.OpenSpec.upto Rows.tokenTextsSpec) own started (by kernel_rfl) Tryd.func8
    (witness_row_atRef (enc := enc) (C := Tryd.checked) false (laidWorld os) wit rfl (by kernel_rfl) (by kernel_rfl) (by kernel_rfl)
      (OpenSpec.preRow_of_cond 8 hx (by kernel_rfl) (fun k hk => by cases hk; kernel_rfl) (by kernel_rfl) (laid_met os wit))) ?_
  intro W base args ds gs before hval hW _ hcond _ hL hS _
  have hk : Rows.uptoBulkAll (ds ++ gs) ≤ 1048576 := of_decide_eq_true (hcond _ rfl)
  have hB' : (ds.map Rows.uptoBulk).sum ≤ 1048576 := by
    rw [← all_sum, List.map_append, List.sum_append] at hk
    omega
  exact contract H enc W base args ds gs before hval hW hL hS hB'
theorem said : Rows.TokenTextsUptoSaid :=
  OpenClaim.holds_of_cond 8 Tryd.f8 rfl rfl rfl rfl rfl rfl rfl ⟨rfl, rfl, rfl, rfl, rfl⟩ rfl rfl rfl rfl rfl (by kernel_rfl) Tryd.func8 (by kernel_rfl)
    (of_decide_eq_true (by kernel_rfl)) (by unfold Func.isWrapper; first | (rw [if_pos (by decide +kernel)]; kernel_rfl) | (rw [if_neg (by decide +kernel)]; exact ⟨rfl, rfl⟩))
    (fun os started H enc _ F => by rw [OpenClaim.pre_eq_preRow]; exact lifted os started H enc F)
theorem plain (f : FuncId) (fn : Func) (hf : Tryd.pinned.checked.prog.funcNamed "semtype/semtypelaw26.TokenTexts" = some f) (hfn : Tryd.pinned.checked.prog.funcs[f]? = some fn) :
    true = Tryd.pinned.checked.prog.looks [] ∧ ∀ (j : Nat) t, fn.params[j]? = some t → Tryd.pinned.checked.prog.wantsStandIn t = false := by
  obtain rfl : f = 8 := Option.some.inj ((show Tryd.prog.funcNamed "semtype/semtypelaw26.TokenTexts" = some 8 by kernel_rfl).symm.trans hf) |>.symm
  obtain rfl : fn = Tryd.f8 := (Option.some.inj (Tryd.func8.symm.trans hfn)).symm
  refine ⟨by kernel_rfl, fun j t ht => ?_⟩
  rw [Tryd.params8] at ht
  match j, ht with
  | 0, ht => obtain rfl : t = 29 := by simpa using ht.symm
             exact (show Tryd.prog.wantsStandIn 29 = false by kernel_rfl)
  | j + 1, ht => simp at ht
/-- THE CARD. -/
theorem card : Rows.TokenTextsUptoCardSaid :=
  Claim7.holds_tied_plain_at .later [] _ _ _ _ said (fun _ h => by cases h) (by kernel_rfl) (fun _ h => by cases h) tokenTextsUpto_row_tie rfl ⟨rfl, rfl⟩ (by kernel_rfl) rfl plain (by kernel_rfl)
#print axioms card
end Go.Proofs.YtogponhonjiidaaDoor.tokenTexts
