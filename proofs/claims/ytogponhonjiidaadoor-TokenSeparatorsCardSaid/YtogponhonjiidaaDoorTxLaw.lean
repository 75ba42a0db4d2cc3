/-
 The law TokenSeparators holds: for every two lists of numbers the Go function returns true and leaves its arguments as they were, the package variables being as the card lists them. No conditions beyond the card.
-/
import Derived.Test.YtogponhonjiidaaDoorCards
import Derived.Test.YtogponhonjiidaaDoorTie
import Derived.WalkKit
import Derived.ProofKit
import Derived.OpenShut
import Derived.Deep.DeepHandedRow
import Derived.Deep.DeepWitnessRowRef
import Derived.Lib.LaidTab
import Derived.Test.YtogponhonjiidaaDoorTx6
import Derived.Test.YtogponhonjiidaaDoorTx8
import Derived.Test.YtogponhonjiidaaDoorTx15
namespace Go.Proofs.YtogponhonjiidaaDoor.tokenSeparators
open Go.ChangeShapes Go.WideShapes Go.ChangeAt Go.RowKit
set_option linter.unusedVariables false
theorem own : ownKnob Tryd.prog.godebug = none := by kernel_rfl
theorem walk : ∀ us, Sx.argsOk Tryd.prog Tryd.f5.params.toList us → Sx.PC Tryd.prog 5 us (Sx.Bo true) := by
 rintro us ⟨n1, r1, u1, rfl, h1, n2, r2, u2, rfl, h2, rfl⟩
 obtain ⟨l, e1, hl1, hl2⟩ := Sx.arg_sl (enc := encZ) (p := fun m => -9223372036854775808 ≤ m ∧ m ≤ 9223372036854775807) (sz := 1) Tryd.underlying22 ag22 (by kernel_rfl) (fun n row h => by obtain ⟨m, e, hm⟩ := Sx.cells_int (n := n) Tryd.underlying3 h; exact ⟨m, e, hm⟩) h1
 obtain ⟨n, e2, hn, _⟩ := Sx.arg_sl (enc := encI) (p := fun _ => True) (sz := 1) Tryd.underlying22 ag22 (by kernel_rfl) (fun n row h => by obtain ⟨m, e, _⟩ := Sx.cells_int (n := n) Tryd.underlying3 h; exact ⟨m, e, trivial⟩) h2
 rw [e1, e2]
 exact tokenSeparators_c l (by unfold maxLen at hl1; omega) hl2 n (by unfold maxLen at hn; omega)
set_option maxRecDepth 100000 in
theorem contract (H : Type) (enc : TypeId × Value → H) (W : World) (base : Nat) (args : Array Value) (ds gs : List (DataW H)) (before : List MemPlace)
    (hval : ∀ (j : Nat) t v, Tryd.f5.params[j]? = some t → args[j]? = some v → Value.okWide Tryd.prog W .any base t v)
    (hW : DataW.Whole enc Tryd.prog Tryd.f5.params.toList Rows.tokenSeparatorsSpec.vars false W args.toList ds gs before) (hL : laidMetH Tryd.prog Rows.tokenSeparatorsRow.laid W) (hS : W.ShapedOpen Tryd.prog) :
    Calls Tryd.prog 5 args W fun e W' => ∃ v, e = .returned v ∧ Rows.tokenSeparatorsSpec.post enc Tryd.prog Tryd.f5 false true false false W args v W' :=
  Sx.law_post (C := Tryd.checked) (F := 5) (fn := Tryd.f5) (s := Rows.tokenSeparatorsSpec) (L := [22, 3]) (tb := 4) (by kernel_rfl) (by kernel_rfl) (by kernel_rfl) rfl rfl Tryd.underlying4
    (by
      intro ds h
      match ds, h with
      | [d1, d2], _ => rfl) walk W (globOk hL hS) base args ds gs before hval hW
end Go.Proofs.YtogponhonjiidaaDoor.tokenSeparators
namespace Go.Proofs.YtogponhonjiidaaDoor.tokenSeparators
open Go.ChangeShapes Go.WideShapes Go.ChangeAt Go.RowKit
/-- A world for the witness: the settled one with four blocks more (the signs, the three errors' texts), the variables laid. -/
noncomputable def laidWorld (os : Os) : World :=
 let n := (World.settled Tryd.prog os).heap.size
 let str (s : List UInt8) : Obj := .cells #[.string ⟨s.toArray⟩] 157
 let w0 := World.holding Tryd.prog os ⟨#[.cells (signL.map fun s => Value.string ⟨s.toArray⟩).toArray 9, str [98, 121, 116, 101, 115, 46, 66, 117, 102, 102, 101, 114, 58, 32, 116, 111, 111, 32, 108, 97, 114, 103, 101], str [105, 110, 118, 97, 108, 105, 100, 32, 115, 121, 110, 116, 97, 120], str [118, 97, 108, 117, 101, 32, 111, 117, 116, 32, 111, 102, 32, 114, 97, 110, 103, 101]], #[], []⟩
 let put (h : Array Obj) (k : Nat) (cs : Array Value) : Array Obj := h.modify k fun
  | .cells _ t frozen => .cells cs t frozen
  | o => o
 let err (k : Nat) : Array Value := #[.iface 155 (.pointer (some ⟨k, 0, none⟩))]
 let b (l : List Int) : Array Value := (l.map fun z => Value.int .u8 z).toArray
 let h1 := put (put (put w0.heap 0 #[.slice (some ⟨n, 0, none⟩) 23 23]) 1 (Sx.pow10V.map fun z => Value.int .u64 z).toArray) 2 (err (n + 1))
 let h2 := put (put h1 4 (err (n + 2))) 5 (err (n + 3))
 let h3 := put (put h2 6 (b [0, 1, 28, 2, 29, 14, 24, 3, 30, 22, 20, 15, 25, 17, 4, 8, 31, 27, 13, 23, 21, 19, 16, 7, 26, 12, 18, 6, 11, 5, 10, 9])) 7 (b [0, 1, 56, 2, 57, 49, 28, 3, 61, 58, 42, 50, 38, 29, 17, 4, 62, 47, 59, 36, 45, 43, 51, 22, 53, 39, 33, 30, 24, 18, 12, 5, 63, 55, 48, 27, 60, 41, 37, 16, 46, 35, 44, 21, 52, 32, 23, 11, 54, 26, 40, 15, 34, 20, 31, 10, 25, 14, 19, 9, 13, 8, 7, 6])
 { w0 with heap := h3 }
theorem laid_met (os : Os) (args : Array Value) : laidMet Tryd.prog Rows.tokenSeparatorsRow.laid ((laidWorld os).forCall (fun _ _ => 0) ⟨#[], args, []⟩).memory :=
 laidMet_of_run' 8 (by kernel_rfl) (by kernel_rfl)
abbrev wit : Array Value := #[.slice none 0 0, .slice none 0 0]
theorem reads (os : Os) {H : Type} (enc : TypeId × Value → H) : ∃ places, DataW.whole enc Tryd.prog ((laidWorld os).forCall (fun _ _ => 0) ⟨#[], wit, []⟩).memory Tryd.f5.params.toList Rows.tokenSeparatorsSpec.vars false wit.toList 8 = some ([.nil, .nil], [], places) :=
 ⟨[], by kernel_rfl⟩
set_option maxRecDepth 100000 in
theorem lifted (os : Os) (started : os.Started) (H : Type) (enc : TypeId × Value → H) (F : Stop.Interp) :
    ReturnsInHanded {} Tryd.checked os 5 .any ((OpenSpec.ofChange Rows.tokenSeparatorsSpec).preRow enc Tryd.prog Tryd.f5 Rows.tokenSeparatorsRow.domain false Rows.tokenSeparatorsRow.laid) (((OpenSpec.ofChange Rows.tokenSeparatorsSpec).at F).post enc Tryd.prog Tryd.f5 false true false false) := by
  obtain ⟨places, hx⟩ := reads os enc
  refine returnsInHanded_of_row (C := Tryd.checked) (s := OpenSpec.ofChange Rows.tokenSeparatorsSpec) own started (by kernel_rfl) Tryd.func5
    (witness_row_atRef (enc := enc) (C := Tryd.checked) false (laidWorld os) wit rfl (by kernel_rfl) (by kernel_rfl) (by kernel_rfl)
      (OpenSpec.preRow_of_cond 8 hx (by kernel_rfl) (fun k hk => by cases hk) (by kernel_rfl) (laid_met os wit))) ?_
  intro W base args ds gs before hval hW _ _ _ hL hS _
  exact contract H enc W base args ds gs before hval hW hL hS
theorem said : Rows.TokenSeparatorsSaid :=
 OpenClaim.holds_of_cond 5 Tryd.f5 rfl rfl rfl rfl rfl rfl rfl ⟨rfl, rfl, rfl, rfl, rfl⟩ rfl rfl rfl rfl rfl (by kernel_rfl) Tryd.func5 (by kernel_rfl)
  (of_decide_eq_true (by kernel_rfl)) (by unfold Func.isWrapper; first | (rw [if_pos (by decide +kernel)]; kernel_rfl) | (rw [if_neg (by decide +kernel)]; exact ⟨rfl, rfl⟩))
  (fun os started H enc _ F => by rw [OpenClaim.pre_eq_preRow]; exact lifted os started H enc F)
theorem plain (f : FuncId) (fn : Func) (hf : Tryd.pinned.checked.prog.funcNamed "semtype/semtypelaw26.TokenSeparators" = some f) (hfn : Tryd.pinned.checked.prog.funcs[f]? = some fn) :
    true = Tryd.pinned.checked.prog.looks [] ∧ ∀ (j : Nat) t, fn.params[j]? = some t → Tryd.pinned.checked.prog.wantsStandIn t = false := by
  obtain rfl : f = 5 := Option.some.inj ((show Tryd.prog.funcNamed "semtype/semtypelaw26.TokenSeparators" = some 5 by kernel_rfl).symm.trans hf) |>.symm
  obtain rfl : fn = Tryd.f5 := (Option.some.inj (Tryd.func5.symm.trans hfn)).symm
  refine ⟨by kernel_rfl, fun j t ht => ?_⟩
  rw [Tryd.params5] at ht
  match j, ht with
  | 0, ht => obtain rfl : t = 22 := by simpa using ht.symm
             exact (show Tryd.prog.wantsStandIn 22 = false by kernel_rfl)
  | 1, ht => obtain rfl : t = 22 := by simpa using ht.symm
             exact (show Tryd.prog.wantsStandIn 22 = false by kernel_rfl)
  | j + 2, ht => simp at ht
/-- THE CARD. -/
theorem card : Rows.TokenSeparatorsCardSaid :=
 Claim7.holds_tied_plain_at .later [] _ _ _ _ said (fun _ h => by cases h) (by kernel_rfl) (fun _ h => by cases h) tokenSeparators_row_tie rfl ⟨rfl, rfl⟩ (by kernel_rfl) rfl plain (by kernel_rfl)
#print axioms card
end Go.Proofs.YtogponhonjiidaaDoor.tokenSeparators
