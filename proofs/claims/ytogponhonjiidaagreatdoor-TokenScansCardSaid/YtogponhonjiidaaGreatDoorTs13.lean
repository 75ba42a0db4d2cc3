/- A part of the proof: lemmas about the walk of the program and about plain integers and lists. No conditions beyond those that each lemma states. -/
import Derived.Shelf.Bytes.BufferK
import Derived.Shelf.Bytes.String
import Derived.Test.YtogponhonjiidaaGreatDoorProg
import Derived.Test.YtogponhonjiidaaGreatDoorTs1
import Derived.Test.YtogponhonjiidaaGreatDoorTs8
import Derived.Lib.BufferKept
import Derived.BigCall
import Derived.Deep.RegionWith
import Derived.Lib.BufferOld
set_option maxRecDepth 100000
namespace Go.Proofs
open Go.Shelf
def Tryz.writeByteL_ren : Go.Shelf.Ren := ⟨fun | 179 => 62 | 251 => 85 | 252 => 86 | 181 => 102 | 184 => 103 | 290 => 104 | 324 => 114 | n => n, fun | 130 => 120 | 5 => 5 | 75 => 78 | 0 => 0 | 93 => 100 | 91 => 98 | 3 => 3 | 131 => 121 | 4 => 4 | 37 => 64 | 20 => 20 | 80 => 81 | 9 => 9 | n => n, fun | 14 => 2 | n => n⟩
theorem Tryz.writeByteL : Go.Proofs.LaysM.n179 Tryz.prog Tryz.writeByteL_ren := {
 mixed := by kernel_rfl,
 f179 := Tryz.func62.trans (congrArg some (by kernel_rfl)),
 f181 := Tryz.func102.trans (congrArg some (by kernel_rfl)),
 f184 := Tryz.func103.trans (congrArg some (by kernel_rfl)),
 f251 := Tryz.func85.trans (congrArg some (by kernel_rfl)),
 f252 := Tryz.func86.trans (congrArg some (by kernel_rfl)),
 f290 := Tryz.func104.trans (congrArg some (by kernel_rfl)),
 f324 := Tryz.func114.trans (congrArg some (by kernel_rfl)),
 t0 := Tryz.underlying0,
 a0 := Tryz.isAgg0,
 z0 := Tryz.sizeOf0,
 v0 := Tryz.zeroValue0,
 t3 := Tryz.underlying3,
 a3 := Tryz.isAgg3,
 z3 := Tryz.sizeOf3,
 v3 := Tryz.zeroValue3,
 t4 := Tryz.underlying4,
 a4 := Tryz.isAgg4,
 z4 := Tryz.sizeOf4,
 v4 := Tryz.zeroValue4,
 t5 := Tryz.underlying5,
 a5 := Tryz.isAgg5,
 z5 := Tryz.sizeOf5,
 v5 := Tryz.zeroValue5,
 t20 := Tryz.underlying20,
 a20 := Tryz.isAgg20,
 z20 := Tryz.sizeOf20,
 v20 := Tryz.zeroValue20,
 t37 := Tryz.underlying64,
 a37 := Tryz.isAgg64,
 z37 := Tryz.sizeOf64,
 v37 := Tryz.zeroValue64,
 t75 := Tryz.underlying78,
 a75 := Tryz.isAgg78,
 z75 := Tryz.sizeOf78,
 v75 := Tryz.zeroValue78,
 t91 := Tryz.underlying98,
 a91 := Tryz.isAgg98,
 z91 := Tryz.sizeOf98,
 v91 := Tryz.zeroValue98,
 t93 := Tryz.underlying100,
 a93 := Tryz.isAgg100,
 z93 := Tryz.sizeOf100,
 v93 := Tryz.zeroValue100,
 t130 := Tryz.underlying120,
 a130 := Tryz.isAgg120,
 z130 := Tryz.sizeOf120,
 v130 := Tryz.zeroValue120,
 t131 := Tryz.underlying121,
 a131 := Tryz.isAgg121,
 z131 := Tryz.sizeOf121,
 v131 := Tryz.zeroValue121,
 g14 := by kernel_rfl,
 t9 := Tryz.underlying9,
 a9 := Tryz.isAgg9,
 z9 := Tryz.sizeOf9,
 v9 := Tryz.zeroValue9,
 t80 := Tryz.underlying81,
 a80 := Tryz.isAgg81,
 z80 := Tryz.sizeOf81,
 v80 := Tryz.zeroValue81,
 i0 := by kernel_rfl,
 i3 := by kernel_rfl,
 i4 := by kernel_rfl,
 i5 := by kernel_rfl,
 i9 := by kernel_rfl,
 i20 := by kernel_rfl,
 i37 := by kernel_rfl,
 i75 := by kernel_rfl,
 i80 := by kernel_rfl,
 i91 := by kernel_rfl,
 i93 := by kernel_rfl,
 i130 := by kernel_rfl,
 i131 := by kernel_rfl,
 m14 := by kernel_rfl }
def Tryz.writeStringL_ren : Go.Shelf.Ren := ⟨fun | 178 => 63 | 251 => 85 | 252 => 86 | 181 => 102 | 184 => 103 | 290 => 104 | 324 => 114 | n => n, fun | 130 => 120 | 9 => 9 | 3 => 3 | 75 => 78 | 0 => 0 | 93 => 100 | 91 => 98 | 131 => 121 | 4 => 4 | 37 => 64 | 20 => 20 | 80 => 81 | 5 => 5 | n => n, fun | 14 => 2 | n => n⟩
theorem Tryz.writeStringL : Go.Proofs.LaysM.n178 Tryz.prog Tryz.writeStringL_ren := {
 mixed := by kernel_rfl,
 f178 := Tryz.func63.trans (congrArg some (by kernel_rfl)),
 f181 := Tryz.func102.trans (congrArg some (by kernel_rfl)),
 f184 := Tryz.func103.trans (congrArg some (by kernel_rfl)),
 f251 := Tryz.func85.trans (congrArg some (by kernel_rfl)),
 f252 := Tryz.func86.trans (congrArg some (by kernel_rfl)),
 f290 := Tryz.func104.trans (congrArg some (by kernel_rfl)),
 f324 := Tryz.func114.trans (congrArg some (by kernel_rfl)),
 t0 := Tryz.underlying0,
 a0 := Tryz.isAgg0,
 z0 := Tryz.sizeOf0,
 v0 := Tryz.zeroValue0,
 t3 := Tryz.underlying3,
 a3 := Tryz.isAgg3,
 z3 := Tryz.sizeOf3,
 v3 := Tryz.zeroValue3,
 t4 := Tryz.underlying4,
 a4 := Tryz.isAgg4,
 z4 := Tryz.sizeOf4,
 v4 := Tryz.zeroValue4,
 t9 := Tryz.underlying9,
 a9 := Tryz.isAgg9,
 z9 := Tryz.sizeOf9,
 v9 := Tryz.zeroValue9,
 t20 := Tryz.underlying20,
 a20 := Tryz.isAgg20,
 z20 := Tryz.sizeOf20,
 v20 := Tryz.zeroValue20,
 t37 := Tryz.underlying64,
 a37 := Tryz.isAgg64,
 z37 := Tryz.sizeOf64,
 v37 := Tryz.zeroValue64,
 t75 := Tryz.underlying78,
 a75 := Tryz.isAgg78,
 z75 := Tryz.sizeOf78,
 v75 := Tryz.zeroValue78,
 t91 := Tryz.underlying98,
 a91 := Tryz.isAgg98,
 z91 := Tryz.sizeOf98,
 v91 := Tryz.zeroValue98,
 t93 := Tryz.underlying100,
 a93 := Tryz.isAgg100,
 z93 := Tryz.sizeOf100,
 v93 := Tryz.zeroValue100,
 t130 := Tryz.underlying120,
 a130 := Tryz.isAgg120,
 z130 := Tryz.sizeOf120,
 v130 := Tryz.zeroValue120,
 t131 := Tryz.underlying121,
 a131 := Tryz.isAgg121,
 z131 := Tryz.sizeOf121,
 v131 := Tryz.zeroValue121,
 g14 := by kernel_rfl,
 t5 := Tryz.underlying5,
 a5 := Tryz.isAgg5,
 z5 := Tryz.sizeOf5,
 v5 := Tryz.zeroValue5,
 t80 := Tryz.underlying81,
 a80 := Tryz.isAgg81,
 z80 := Tryz.sizeOf81,
 v80 := Tryz.zeroValue81,
 i0 := by kernel_rfl,
 i3 := by kernel_rfl,
 i4 := by kernel_rfl,
 i5 := by kernel_rfl,
 i9 := by kernel_rfl,
 i20 := by kernel_rfl,
 i37 := by kernel_rfl,
 i75 := by kernel_rfl,
 i80 := by kernel_rfl,
 i91 := by kernel_rfl,
 i93 := by kernel_rfl,
 i130 := by kernel_rfl,
 i131 := by kernel_rfl,
 m14 := by kernel_rfl }
def Tryz.bufStringL_ren : Go.Shelf.Ren := ⟨fun | 182 => 64 | n => n, fun | 130 => 120 | 9 => 9 | 4 => 4 | 0 => 0 | 93 => 100 | 37 => 64 | 3 => 3 | 91 => 98 | 5 => 5 | n => n, fun | n => n⟩
theorem Tryz.bufStringL : Go.Proofs.LaysM.n182 Tryz.prog Tryz.bufStringL_ren := {
 mixed := by kernel_rfl,
 f182 := Tryz.func64.trans (congrArg some (by kernel_rfl)),
 t0 := Tryz.underlying0,
 a0 := Tryz.isAgg0,
 z0 := Tryz.sizeOf0,
 v0 := Tryz.zeroValue0,
 t3 := Tryz.underlying3,
 a3 := Tryz.isAgg3,
 z3 := Tryz.sizeOf3,
 v3 := Tryz.zeroValue3,
 t4 := Tryz.underlying4,
 a4 := Tryz.isAgg4,
 z4 := Tryz.sizeOf4,
 v4 := Tryz.zeroValue4,
 t9 := Tryz.underlying9,
 a9 := Tryz.isAgg9,
 z9 := Tryz.sizeOf9,
 v9 := Tryz.zeroValue9,
 t37 := Tryz.underlying64,
 a37 := Tryz.isAgg64,
 z37 := Tryz.sizeOf64,
 v37 := Tryz.zeroValue64,
 t93 := Tryz.underlying100,
 a93 := Tryz.isAgg100,
 z93 := Tryz.sizeOf100,
 v93 := Tryz.zeroValue100,
 t130 := Tryz.underlying120,
 a130 := Tryz.isAgg120,
 z130 := Tryz.sizeOf120,
 v130 := Tryz.zeroValue120,
 t5 := Tryz.underlying5,
 a5 := Tryz.isAgg5,
 z5 := Tryz.sizeOf5,
 v5 := Tryz.zeroValue5,
 t91 := Tryz.underlying98,
 a91 := Tryz.isAgg98,
 z91 := Tryz.sizeOf98,
 v91 := Tryz.zeroValue98,
 i0 := by kernel_rfl,
 i3 := by kernel_rfl,
 i4 := by kernel_rfl,
 i5 := by kernel_rfl,
 i9 := by kernel_rfl,
 i37 := by kernel_rfl,
 i91 := by kernel_rfl,
 i93 := by kernel_rfl,
 i130 := by kernel_rfl }
end Go.Proofs
set_option linter.unusedVariables false
namespace Go.Sx
def hexL : List UInt8 := [48, 49, 50, 51, 52, 53, 54, 55, 56, 57, 97, 98, 99, 100, 101, 102]
def hexd (n : Nat) : UInt8 := hexL.getD n 0
/-- the bytes that stand for a byte within quotes -/
def quote1 (c : UInt8) : List UInt8 :=
 bif decide (c.toNat = 34) || decide (c.toNat = 92) then [92, c]
 else bif decide (32 ≤ c.toNat) && decide (c.toNat ≤ 126) then [c]
 else [92, 120, hexd (c.toNat / 16), hexd (c.toNat % 16)]
def quoteB (s : List UInt8) : List UInt8 := s.flatMap quote1
def quoteL (s : List UInt8) : List UInt8 := 34 :: (quoteB s ++ [34])
/-- the value of a hexadecimal digit -/
def nibI (n : Nat) : Option Nat := if 48 ≤ n ∧ n ≤ 57 then some (n - 48) else if 97 ≤ n ∧ n ≤ 102 then some (n - 87) else none
/-- the byte of two hexadecimal digits -/
def hexB (h k : UInt8) : Option UInt8 := match nibI h.toNat, nibI k.toNat with
 | some a, some b => some (UInt8.ofNat (16 * a + b))
 | _, _ => none
/-- an escape behind a backslash and x, in the program's reading -/
def escP : List UInt8 → Option UInt8
 | h :: k :: _ => hexB h k
 | _ => none
/-- the program's reading of what stands between the quotes -/
def decP : List UInt8 → Option (List UInt8)
 | [] => some []
 | [c] => bif decide (c.toNat = 92) then none else some [c]
 | c :: d :: m => bif decide (c.toNat = 92) then
   bif decide (d.toNat = 120) then
    match escP m with
    | some x => (decP (m.drop 2)).map (x :: ·)
    | none => none
   else (decP m).map (d :: ·)
  else (decP (d :: m)).map (c :: ·)
termination_by l => l.length
decreasing_by all_goals (simp; try omega)
/-- an escape behind a backslash, in the reference's reading -/
def escR (d : UInt8) (m : List UInt8) : Option UInt8 := bif decide (d.toNat = 120) then
  match m with
  | h :: k :: _ :: _ => hexB h k
  | _ => none
 else none
/-- the reference's, up to a last byte -/
def decR : List UInt8 → List UInt8
 | [] => []
 | [_] => []
 | c :: d :: m => bif decide (c.toNat = 92) then
   match escR d m with
   | some x => x :: decR (m.drop 2)
   | none => d :: decR m
  else c :: decR (d :: m)
termination_by l => l.length
decreasing_by all_goals (simp; try omega)
theorem hexd_nib : ∀ n < 16, nibI (hexd n).toNat = some n := by decide
theorem dec_byte (c : UInt8) : UInt8.ofNat (16 * (c.toNat / 16) + c.toNat % 16) = c := by
 rw [Nat.div_add_mod]; simp
theorem u92 : (92 : UInt8).toNat = 92 := rfl
theorem u120 : (120 : UInt8).toNat = 120 := rfl
theorem hexB_q (c : UInt8) : hexB (hexd (c.toNat / 16)) (hexd (c.toNat % 16)) = some c := by
 have hc : c.toNat < 256 := UInt8.toNat_lt c
 unfold hexB
 rw [hexd_nib _ (by omega), hexd_nib _ (by omega)]
 simp only [dec_byte]
theorem decP_q (c : UInt8) (r : List UInt8) : decP (quote1 c ++ r) = (decP r).map (c :: ·) := by
 have hc : c.toNat < 256 := UInt8.toNat_lt c
 unfold quote1
 by_cases h1 : c.toNat = 34 ∨ c.toNat = 92
 ·have e : (decide (c.toNat = 34) || decide (c.toNat = 92)) = true := by simpa using h1
  rw [e, cond_true]
  have h2 : decide (c.toNat = 120) = false := by simp; omega
  simp only [List.cons_append, List.nil_append]
  rw [decP]
  simp only [u92, decide_true, cond_true, h2, cond_false]
 ·have e : (decide (c.toNat = 34) || decide (c.toNat = 92)) = false := by simpa using h1
  have h3 : decide (c.toNat = 92) = false := by simp; omega
  rw [e, cond_false]
  cases h4 : decide (32 ≤ c.toNat) && decide (c.toNat ≤ 126) with
  | true =>
   simp only [cond_true, List.cons_append, List.nil_append]
   cases r with
   | nil => rw [decP, decP]; simp only [h3, cond_false]; rfl
   | cons z r => rw [decP]; simp only [h3, cond_false]
  | false =>
   simp only [cond_false, List.cons_append, List.nil_append]
   rw [decP]
   simp only [u92, u120, decide_true, cond_true, escP, hexB_q, List.drop_succ_cons, List.drop_zero]
theorem decP_quote : ∀ t : List UInt8, decP (quoteB t) = some t
 | [] => by simp [quoteB, decP]
 | c :: t => by
  have := decP_quote t
  unfold quoteB at this ⊢
  rw [List.flatMap_cons, decP_q, this]; rfl
theorem decR_q (c : UInt8) (r : List UInt8) (hr : r ≠ []) : decR (quote1 c ++ r) = c :: decR r := by
 have hc : c.toNat < 256 := UInt8.toNat_lt c
 obtain ⟨z, r, rfl⟩ : ∃ z r', r = z :: r' := by cases r with | nil => exact absurd rfl hr | cons z r => exact ⟨z, r, rfl⟩
 unfold quote1
 by_cases h1 : c.toNat = 34 ∨ c.toNat = 92
 ·have e : (decide (c.toNat = 34) || decide (c.toNat = 92)) = true := by simpa using h1
  rw [e, cond_true]
  have h2 : decide (c.toNat = 120) = false := by simp; omega
  simp only [List.cons_append, List.nil_append]
  rw [decR]
  have e3 : escR c (z :: r) = none := by unfold escR; rw [h2]; rfl
  simp only [u92, decide_true, cond_true, e3]
 ·have e : (decide (c.toNat = 34) || decide (c.toNat = 92)) = false := by simpa using h1
  have h3 : decide (c.toNat = 92) = false := by simp; omega
  rw [e, cond_false]
  cases h4 : decide (32 ≤ c.toNat) && decide (c.toNat ≤ 126) with
  | true =>
   simp only [cond_true, List.cons_append, List.nil_append]
   rw [decR]
   simp only [h3, cond_false]
  | false =>
   simp only [cond_false, List.cons_append, List.nil_append]
   rw [decR]
   have e3 : escR 120 (hexd (c.toNat / 16) :: hexd (c.toNat % 16) :: z :: r) = some c := by
    unfold escR
    simp only [u120, decide_true, cond_true, hexB_q]
   simp only [u92, decide_true, cond_true, e3, List.drop_succ_cons, List.drop_zero]
theorem decR_quote : ∀ t : List UInt8, decR (quoteB t ++ [34]) = t
 | [] => by rw [show quoteB [] ++ [34] = [34] from rfl, decR]
 | c :: t => by
  have := decR_quote t
  unfold quoteB at this ⊢
  rw [List.flatMap_cons, List.append_assoc, decR_q _ _ (by simp), this]
/-- the string whose quotation s is -/
def unqV (s : List UInt8) : Option (List UInt8) := bif decide (quoteL (decR (s.drop 1)) = s) then some (decR (s.drop 1)) else none
theorem unqV_some {s t : List UInt8} : unqV s = some t ↔ quoteL t = s := by
 constructor
 ·intro h
  unfold unqV at h
  cases hd : decide (quoteL (decR (s.drop 1)) = s) with
  | true =>
   rw [hd, cond_true] at h
   cases h
   simpa using hd
  | false => rw [hd] at h; cases h
 ·rintro rfl
  have : decR ((quoteL t).drop 1) = t := by
   unfold quoteL
   rw [List.drop_succ_cons, List.drop_zero, decR_quote]
  unfold unqV
  rw [this]; simp
/-- the program's own reading -/
def unqP (s : List UInt8) : Option (List UInt8) :=
 bif decide (s.length < 2) || (!decide (s.head? = some 34) || !decide (s.getLast? = some 34)) then none
 else match decP ((s.take (s.length - 1)).drop 1) with
  | none => none
  | some t => bif decide (quoteL t = s) then some t else none
theorem unqP_eq (s : List UInt8) : unqP s = unqV s := by
 have hP : ∀ t, unqP s = some t ↔ quoteL t = s := by
  intro t
  constructor
  ·intro h
   unfold unqP at h
   cases h1 : decide (s.length < 2) || (!decide (s.head? = some 34) || !decide (s.getLast? = some 34)) with
   | true => rw [h1] at h; cases h
   | false =>
    rw [h1, cond_false] at h
    split at h
    ·cases h
    ·rename_i u _
     cases hd : decide (quoteL u = s) with
     | true => rw [hd, cond_true] at h; cases h; simpa using hd
     | false => rw [hd] at h; cases h
  ·rintro rfl
   unfold unqP
   have e1 : (decide ((quoteL t).length < 2) || (!decide ((quoteL t).head? = some 34) || !decide ((quoteL t).getLast? = some 34))) = false := by
    have h2 : (quoteL t).length = (quoteB t).length + 2 := by simp [quoteL]
    have h3 : (quoteL t).head? = some 34 := rfl
    have h4 : (quoteL t).getLast? = some 34 := by unfold quoteL; rw [← List.cons_append, List.getLast?_append]; rfl
    rw [h2, h3, h4]
    have : ¬ ((quoteB t).length + 2 < 2) := by omega
    simp
   have e2 : ((quoteL t).take ((quoteL t).length - 1)).drop 1 = quoteB t := by
    have h2 : (quoteL t).length - 1 = (quoteB t).length + 1 := by simp [quoteL]
    rw [h2]
    unfold quoteL
    rw [List.take_succ_cons, List.drop_succ_cons, List.drop_zero, List.take_append_of_le_length (by omega), List.take_length]
   rw [e1, cond_false, e2, decP_quote]
   simp
 cases h : unqP s with
 | none =>
  cases h2 : unqV s with
  | none => rfl
  | some t => rw [unqV_some, ← hP, h] at h2; cases h2
 | some t => rw [hP, ← unqV_some] at h; exact h.symm
end Go.Sx
set_option linter.unusedSimpArgs false
set_option linter.unusedVariables false
set_option maxRecDepth 100000
set_option maxHeartbeats 6400000
namespace Go.Proofs.YtogponhonjiidaaGreatDoor
open Go Go.RowKit
theorem writeByte_k (B b : Nat) (l : List UInt8) (c : UInt8) (w : World) (h : Lib.IsBuffer 100 5 B b (Lib.byteCells l) w) (hBw : B ≤ w.heap.size) (hlim : l.length + 1 ≤ 140737488355328) :
  Calls Tryz.prog 62 #[.pointer (some ⟨b, 0, none⟩), .int .u8 c.toNat] w fun e w' => e = .returned .nilIface ∧ Lib.IsBuffer 100 5 B b (Lib.byteCells (l ++ [c])) w' ∧ Below B w w' := by
 refine (Any.Buffer_WriteByte_k Tryz.writeByteL B b (Lib.byteCells l) c.toNat w h hBw (Lib.byteCells_one _) (by rw [Lib.byteCells_length]; exact hlim)).mono ?_
 rintro e w' ⟨h1, h2, h3, _⟩
 exact ⟨h1, by rw [Lib.byteCells_append]; exact h2, h3⟩
theorem writeByte_z (B b : Nat) (l : List UInt8) (c : UInt8) (z : Int) (hz : (c.toNat : Int) = z) (w : World) (h : Lib.IsBuffer 100 5 B b (Lib.byteCells l) w) (hBw : B ≤ w.heap.size) (hlim : l.length + 1 ≤ 140737488355328) :
  Calls Tryz.prog 62 #[.pointer (some ⟨b, 0, none⟩), .int .u8 z] w fun e w' => e = .returned .nilIface ∧ Lib.IsBuffer 100 5 B b (Lib.byteCells (l ++ [c])) w' ∧ Below B w w' := by
 subst hz; exact writeByte_k B b l c w h hBw hlim
theorem writeString_k (B b : Nat) (l s : List UInt8) (w : World) (h : Lib.IsBuffer 100 5 B b (Lib.byteCells l) w) (hBw : B ≤ w.heap.size) (hlim : l.length + s.length ≤ 140737488355328) :
  Calls Tryz.prog 63 #[.pointer (some ⟨b, 0, none⟩), .string ⟨s.toArray⟩] w fun e w' => e = .returned (.tuple #[.int .i64 s.length, .nilIface]) ∧ Lib.IsBuffer 100 5 B b (Lib.byteCells (l ++ s)) w' ∧ Below B w w' := by
 refine (Any.Buffer_WriteString_k Tryz.writeStringL B b (Lib.byteCells l) ⟨s.toArray⟩ w h hBw (Lib.byteCells_one _) (by rw [Lib.byteCells_length]; simpa [ByteArray.size] using hlim)).mono ?_
 rintro e w' ⟨h1, h2, h3, _⟩
 exact ⟨by rw [h1]; simp [ByteArray.size], by rw [Lib.byteCells_append]; exact h2, h3⟩
theorem bufString_k (B b : Nat) (l : List UInt8) (w : World) (h : Lib.IsBuffer 100 5 B b (Lib.byteCells l) w) :
  Calls Tryz.prog 64 #[.pointer (some ⟨b, 0, none⟩)] w fun e w' => e = .returned (.string ⟨l.toArray⟩) ∧ ∃ n, w' = w.drewN n :=
 Any.Buffer_String Tryz.bufStringL B b l w h
theorem hexI (n : Nat) (h : n < 16) : ((ByteArray.mk #[48, 49, 50, 51, 52, 53, 54, 55, 56, 57, 97, 98, 99, 100, 101, 102])[n]'h).toNat = (Sx.hexd n).toNat := by
 revert n; decide
theorem quoteB_succ (s : List UInt8) (k : Nat) (hk : k < s.length) : Sx.quoteB (s.take (k + 1)) = Sx.quoteB (s.take k) ++ Sx.quote1 s[k] := by
 unfold Sx.quoteB
 rw [List.take_add_one, List.getElem?_eq_getElem hk, List.flatMap_append]
 simp
theorem quote1_le (c : UInt8) : (Sx.quote1 c).length ≤ 4 := by
 unfold Sx.quote1
 cases decide (c.toNat = 34) || decide (c.toNat = 92) <;> cases decide (32 ≤ c.toNat) && decide (c.toNat ≤ 126) <;> simp
theorem quoteB_le : ∀ s : List UInt8, (Sx.quoteB s).length ≤ 4 * s.length
 | [] => by simp [Sx.quoteB]
 | c :: s => by
  have h1 := quoteB_le s
  have h2 := quote1_le c
  unfold Sx.quoteB at h1 ⊢
  simp only [List.flatMap_cons, List.length_append, List.length_cons]
  omega
theorem quote_n (s : List UInt8) (hs : s.length ≤ 1000000000) (w : World) :
  Calls Tryz.prog 32 #[.string ⟨s.toArray⟩] w fun e w' => e = .returned (.string ⟨(Sx.quoteL s).toArray⟩) ∧ Below w.heap.size w w' := by
 have hI0 : Lib.IsBuffer 100 5 w.heap.size w.heap.size (Lib.byteCells []) (w.alloc (.cells #[.slice none 0 0, .int .i64 0, .int .i8 0] 100)) := Lib.fresh_isBuffer 100 5 w
 have hb0 : Below w.heap.size w (w.alloc (.cells #[.slice none 0 0, .int .i64 0, .int .i8 0] 100)) := (Below.refl _ w).alloc (Nat.le_refl _) _
 go_enter Tryz.func32, Tryz.ntmps32
 go_wp2_with (go_at_call 62; refine (writeByte_z w.heap.size w.heap.size [] 34 _ (by decide) _ hI0 (by simp) (by simp)).mono ?_; rintro e W1 ⟨rfl, hI1, hb1⟩)
 go_wp2
 go_loopw [4] (fun i wr => ∃ k : Nat, k ≤ s.length ∧ i = .int .i64 k ∧ Lib.IsBuffer 100 5 w.heap.size w.heap.size (Lib.byteCells ([34] ++ Sx.quoteB (s.take k))) wr ∧ Below w.heap.size w wr) (fun i _ => s.length - (intOf i).toNat)
 case atStart => exact ⟨0, Nat.zero_le _, rfl, hI1, hb0.trans hb1⟩
 case round =>
  obtain ⟨k, hk, rfl, hI, hb⟩ := hrel
  clear hI0 hb0 hI1 hb1
  by_cases hlt : k < s.length
  ·have hl : ([34] ++ Sx.quoteB (s.take k)).length ≤ 4 * s.length + 1 := by
    have h1 := quoteB_le (s.take k)
    rw [List.length_take] at h1
    simp only [List.length_append, List.length_cons, List.length_nil]; omega
   have hn : [34] ++ Sx.quoteB (s.take (k + 1)) = ([34] ++ Sx.quoteB (s.take k)) ++ Sx.quote1 s[k] := by rw [quoteB_succ s k hlt, List.append_assoc]
   have hw := hb.size
   generalize [34] ++ Sx.quoteB (s.take k) = pre at hI hl hn
   have hcc : (ByteArray.mk s.toArray)[k]'hlt = s[k] := by simp [ByteArray.getElem_eq_getElem_data]
   generalize hc : s[k] = c at hn hcc
   have hc256 := UInt8.toNat_lt c
   by_cases h1 : c.toNat = 34
   ·have i1 : (c.toNat : Int) = 34 := by omega
    have q1 : Sx.quote1 c = [92, c] := by simp [Sx.quote1, h1]
    go_wp2_with (go_at_call 62; refine (writeByte_z w.heap.size w.heap.size (pre) 92 _ (by decide) _ hI (by omega) (by simp; omega)).mono ?_; rintro e W2 ⟨rfl, hI2, hb2⟩)
    go_wp2_with (go_at_call 62; refine (writeByte_z w.heap.size w.heap.size (pre ++ [92]) c _ (by omega) _ hI2 (by have := hb2.size; omega) (by simp; omega)).mono ?_; rintro e W3 ⟨rfl, hI3, hb3⟩)
    go_wp2
    go_roundw
    case rel => exact ⟨k + 1, by omega, by go_num, by rw [hn]; rw [q1]; simpa using hI3, (hb.trans hb2).trans hb3⟩
    case measure => simp [intOf]; omega
   by_cases h2 : c.toNat = 92
   ·have i1 : (c.toNat : Int) = 92 := by omega
    have q1 : Sx.quote1 c = [92, c] := by simp [Sx.quote1, h2]
    go_wp2_with (go_at_call 62; refine (writeByte_z w.heap.size w.heap.size (pre) 92 _ (by decide) _ hI (by omega) (by simp; omega)).mono ?_; rintro e W2 ⟨rfl, hI2, hb2⟩)
    go_wp2_with (go_at_call 62; refine (writeByte_z w.heap.size w.heap.size (pre ++ [92]) c _ (by omega) _ hI2 (by have := hb2.size; omega) (by simp; omega)).mono ?_; rintro e W3 ⟨rfl, hI3, hb3⟩)
    go_wp2
    go_roundw
    case rel => exact ⟨k + 1, by omega, by go_num, by rw [hn]; rw [q1]; simpa using hI3, (hb.trans hb2).trans hb3⟩
    case measure => simp [intOf]; omega
   have n1 : ¬ (c.toNat : Int) = 34 := by omega
   have n2 : ¬ (c.toNat : Int) = 92 := by omega
   have b1 : ((c.toNat : Int) == 34) = false := by simpa using n1
   have b2 : ((c.toNat : Int) == 92) = false := by simpa using n2
   by_cases h3 : 32 ≤ c.toNat ∧ c.toNat ≤ 126
   ·have i1 : (32 : Int) ≤ (c.toNat : Int) := by omega
    have i2 : (c.toNat : Int) ≤ 126 := by omega
    have q1 : Sx.quote1 c = [c] := by simp [Sx.quote1, h1, h2, h3]
    go_wp2_with (go_at_call 62; refine (writeByte_z w.heap.size w.heap.size (pre) c _ (by first | rw [hcc] | omega) _ hI (by omega) (by simp; omega)).mono ?_; rintro e W2 ⟨rfl, hI2, hb2⟩)
    go_wp2
    go_roundw
    case rel => exact ⟨k + 1, by omega, by go_num, by rw [hn]; rw [q1]; exact hI2, hb.trans hb2⟩
    case measure => simp [intOf]; omega
   ·have q1 : Sx.quote1 c = [92, 120] ++ [Sx.hexd (c.toNat / 16)] ++ [Sx.hexd (c.toNat % 16)] := by
     have : (decide (32 ≤ c.toNat) && decide (c.toNat ≤ 126)) = false := by rw [← Bool.not_eq_true]; simpa using h3
     simp [Sx.quote1, h1, h2, this]
    by_cases h4 : 32 ≤ c.toNat
    ·have i1 : (32 : Int) ≤ (c.toNat : Int) := by omega
     have i2 : ¬ (c.toNat : Int) ≤ 126 := by omega
     go_wp2_with (go_at_call 63; refine (writeString_k w.heap.size w.heap.size pre [92, 120] _ hI hw (by simp; omega)).mono ?_; rintro e W2 ⟨rfl, hI2, hb2⟩)
     go_wp2_with (go_at_call 62; refine (writeByte_z w.heap.size w.heap.size (pre ++ [92, 120]) (Sx.hexd (c.toNat / 16)) _ (by rw [hexI _ (by omega)]) _ hI2 (by have := hb2.size; omega) (by simp; omega)).mono ?_; rintro e W3 ⟨rfl, hI3, hb3⟩)
     go_wp2_with (go_at_call 62; refine (writeByte_z w.heap.size w.heap.size (pre ++ [92, 120] ++ [Sx.hexd (c.toNat / 16)]) (Sx.hexd (c.toNat % 16)) _ (by rw [hexI _ (by omega)]) _ hI3 (by have := hb2.size; have := hb3.size; omega) (by simp; omega)).mono ?_; rintro e W4 ⟨rfl, hI4, hb4⟩)
     go_wp2
     go_roundw
     case rel => exact ⟨k + 1, by omega, by go_num, by rw [hn, q1]; simpa using hI4, ((hb.trans hb2).trans hb3).trans hb4⟩
     case measure => simp [intOf]; omega
    ·have i1 : ¬ (32 : Int) ≤ (c.toNat : Int) := by omega
     go_wp2_with (go_at_call 63; refine (writeString_k w.heap.size w.heap.size pre [92, 120] _ hI hw (by simp; omega)).mono ?_; rintro e W2 ⟨rfl, hI2, hb2⟩)
     go_wp2_with (go_at_call 62; refine (writeByte_z w.heap.size w.heap.size (pre ++ [92, 120]) (Sx.hexd (c.toNat / 16)) _ (by rw [hexI _ (by omega)]) _ hI2 (by have := hb2.size; omega) (by simp; omega)).mono ?_; rintro e W3 ⟨rfl, hI3, hb3⟩)
     go_wp2_with (go_at_call 62; refine (writeByte_z w.heap.size w.heap.size (pre ++ [92, 120] ++ [Sx.hexd (c.toNat / 16)]) (Sx.hexd (c.toNat % 16)) _ (by rw [hexI _ (by omega)]) _ hI3 (by have := hb2.size; have := hb3.size; omega) (by simp; omega)).mono ?_; rintro e W4 ⟨rfl, hI4, hb4⟩)
     go_wp2
     go_roundw
     case rel => exact ⟨k + 1, by omega, by go_num, by rw [hn, q1]; simpa using hI4, ((hb.trans hb2).trans hb3).trans hb4⟩
     case measure => simp [intOf]; omega
  ·have hall : s.take k = s := List.take_of_length_le (by omega)
   rw [hall] at hI
   have hl := quoteB_le s
   go_wp2_with (go_at_call 62; refine (writeByte_z w.heap.size w.heap.size _ 34 _ (by decide) _ hI hb.size (by simp; omega)).mono ?_; rintro e W2 ⟨rfl, hI2, hb2⟩)
   go_wp2_with (go_at_call 64; refine (bufString_k w.heap.size w.heap.size _ _ hI2).mono ?_; rintro e W3 ⟨rfl, n, rfl⟩)
   go_wp2
   go_ret
   exact ⟨by simp [Sx.quoteL], (hb.trans hb2).trans ⟨rfl, rfl, rfl, Nat.le_refl _, fun _ _ => rfl⟩⟩
theorem indexByte_n (s : List UInt8) (b : UInt8) (w : World) : Calls Tryz.prog 94 #[.string ⟨s.toArray⟩, .int .u8 b.toNat] w fun e w' => e = .returned (.int .i64 (Lib.indexByte s b)) ∧ w' = w := by
 have := Any.strings_IndexByte Tryz.indexByteL ⟨s.toArray⟩ b.toNat w
 refine this.mono ?_
 rintro e w' ⟨rfl, rfl⟩
 refine ⟨?_, rfl⟩
 rw [show ((b.toNat : Int).toNat).toUInt8 = b by simp]
/-- what Unquote returns -/
def uqR (o : Option (List UInt8)) : Value := match o with
 | none => .tuple #[.string ⟨#[]⟩, .int .i64 5]
 | some t => .tuple #[.string ⟨t.toArray⟩, .int .i64 0]
theorem indexHex (b : UInt8) : Lib.indexByte [48, 49, 50, 51, 52, 53, 54, 55, 56, 57, 97, 98, 99, 100, 101, 102] b = match Sx.nibI b.toNat with | none => (-1 : Int) | some n => (n : Int) := by
 have h : ∀ n < 256, Lib.indexByte [48, 49, 50, 51, 52, 53, 54, 55, 56, 57, 97, 98, 99, 100, 101, 102] (UInt8.ofNat n) = match Sx.nibI n with | none => (-1 : Int) | some n => (n : Int) := by decide +kernel
 have := h b.toNat (UInt8.toNat_lt b)
 rwa [UInt8.ofNat_toNat] at this
theorem bodyCut (s : List UInt8) (h2 : ¬ s.length < 2) : (ByteArray.mk s.toArray).extract 1 (s.length - 1) = ⟨((s.take (s.length - 1)).drop 1).toArray⟩ := by
 rw [Sx.extract_mk]
theorem decP_plain {c : UInt8} {r : List UInt8} (h : ¬ c.toNat = 92) : Sx.decP (c :: r) = (Sx.decP r).map (c :: ·) := by
 cases r with
 | nil => rw [Sx.decP, Sx.decP]; simp [h]
 | cons z r => rw [Sx.decP]; simp [h]
theorem decP_esc {c : UInt8} {r : List UInt8} (h : c.toNat = 92) : Sx.decP (c :: r) = match r with
  | [] => none
  | d :: m => bif decide (d.toNat = 120) then
    match Sx.escP m with
    | some x => (Sx.decP (m.drop 2)).map (x :: ·)
    | none => none
   else (Sx.decP m).map (d :: ·) := by
 cases r with
 | nil => rw [Sx.decP]; simp [h]
 | cons z r => rw [Sx.decP]; simp only [h, decide_true, cond_true] <;> rfl
theorem byteAt_eq (l : List UInt8) (k : Nat) (h : k < l.length) : (ByteArray.mk l.toArray)[k]'h = l[k] := by simp [ByteArray.getElem_eq_getElem_data]
def finV (s : List UInt8) (o : Option (List UInt8)) : Option (List UInt8) := match o with
 | none => none
 | some t => bif decide (Sx.quoteL t = s) then some t else none
theorem wrapId (z : Int) (h0 : 0 ≤ z) (h1 : z < 9223372036854775808) : IntKind.i64.wrap z = z := by
 simp only [IntKind.wrap, IntKind.signed, IntKind.bits]
 simp
 split <;> omega
def hexVal (b : UInt8) : Int := match Sx.nibI b.toNat with | none => (-1 : Int) | some n => (n : Int)
theorem indexHex_n (b : UInt8) (w : World) : Calls Tryz.prog 94 #[.string ⟨#[48, 49, 50, 51, 52, 53, 54, 55, 56, 57, 97, 98, 99, 100, 101, 102]⟩, .int .u8 b.toNat] w fun e w' => e = .returned (.int .i64 (hexVal b)) ∧ w' = w := by
 have := indexByte_n [48, 49, 50, 51, 52, 53, 54, 55, 56, 57, 97, 98, 99, 100, 101, 102] b w
 rw [indexHex] at this
 exact this
theorem nibI_lt {n a : Nat} (h : Sx.nibI n = some a) : a < 16 := by
 unfold Sx.nibI at h
 split at h
 ·cases h; omega
 ·split at h
  ·cases h; omega
  ·cases h
theorem hexOr (n m : Nat) (hn : n < 16) (hm : m < 16) : ((UInt8.ofNat (16 * n + m)).toNat : Int) = bits BinOp.or IntKind.i64 ((n : Int) * 16) (m : Int) % 256 := by
 have : ∀ n < 16, ∀ m < 16, ((UInt8.ofNat (16 * n + m)).toNat : Int) = bits BinOp.or IntKind.i64 ((n : Int) * 16) (m : Int) % 256 := by decide +kernel
 exact this n hn m hm
theorem cutS (s : List UInt8) (h2 : ¬ s.length < 2) : ∃ a z body, body.length + 2 = s.length ∧ (∀ h, (ByteArray.mk s.toArray)[0]'h = a) ∧ (∀ h, (ByteArray.mk s.toArray)[s.length - 1]'h = z) ∧
  (ByteArray.mk s.toArray).extract 1 (s.length - 1) = ⟨body.toArray⟩ ∧
  Sx.unqP s = bif (!decide (a.toNat = 34) || !decide (z.toNat = 34)) then none else finV s (Sx.decP body) := by
 obtain ⟨a, r, rfl⟩ : ∃ a r, s = a :: r := by cases s with | nil => simp at h2 | cons a r => exact ⟨a, r, rfl⟩
 obtain ⟨body, z, rfl⟩ : ∃ b z, r = b ++ [z] := ⟨r.dropLast, r.getLast (by rintro rfl; simp at h2), (List.dropLast_concat_getLast _).symm⟩
 refine ⟨a, z, body, by simp, fun h => by simp [ByteArray.getElem_eq_getElem_data], fun h => by simp [ByteArray.getElem_eq_getElem_data], by rw [bodyCut _ h2]; simp, ?_⟩
 unfold Sx.unqP
 have e1 : ∀ c : UInt8, decide (some c = some 34) = decide (c.toNat = 34) := fun c => by rw [Bool.eq_iff_iff]; simp [← UInt8.toNat_inj]
 have e2 : (a :: (body ++ [z])).getLast? = some z := by rw [← List.cons_append, List.getLast?_append]; rfl
 have e3 : ((a :: (body ++ [z])).take ((a :: (body ++ [z])).length - 1)).drop 1 = body := by simp
 rw [decide_eq_false h2, Bool.false_or, List.head?_cons, e2, e1, e1, e3]
 rfl
theorem unquote_n (s : List UInt8) (hs : s.length ≤ 1000000000) (w : World) :
  Calls Tryz.prog 78 #[.string ⟨s.toArray⟩] w fun e w' => e = .returned (uqR (Sx.unqP s)) ∧ Below w.heap.size w w' := by
 by_cases h2 : s.length < 2
 ·have hr : Sx.unqP s = none := by unfold Sx.unqP; simp [h2]
  rw [hr]
  have i2 : (s.length : Int) < 2 := by omega
  go_enter Tryz.func78, Tryz.ntmps78
  go_wp2
  go_ret2
  exact ⟨rfl, Below.refl _ _⟩
 have i2 : ¬ (s.length : Int) < 2 := by omega
 obtain ⟨a, z, body, hbl, ea, ez, hcut, hU⟩ := cutS s h2
 by_cases ha : a.toNat = 34
 case neg =>
  rw [hU, show decide (a.toNat = 34) = false by simpa using ha]
  have n1 : ¬ (a.toNat : Int) = 34 := by omega
  have b1 : ((a.toNat : Int) != 34) = true := by simpa using n1
  go_enter Tryz.func78, Tryz.ntmps78
  go_wp2
  go_ret2
  exact ⟨rfl, Below.refl _ _⟩
 by_cases hz : z.toNat = 34
 case neg =>
  rw [hU, show decide (z.toNat = 34) = false by simpa using hz, Bool.not_false, Bool.or_true]
  have n1 : (a.toNat : Int) = 34 := by omega
  have n2 : ¬ (z.toNat : Int) = 34 := by omega
  have b2 : ((z.toNat : Int) != 34) = true := by simpa using n2
  go_enter Tryz.func78, Tryz.ntmps78
  go_wp2
  go_ret2
  exact ⟨rfl, Below.refl _ _⟩
 rw [hU, decide_eq_true ha, decide_eq_true hz]
 simp only [Bool.not_true, Bool.or_false, cond_false]
 have n1 : (a.toNat : Int) = 34 := by omega
 have n2 : (z.toNat : Int) = 34 := by omega
 have hsl : ∀ W, (Instr.slice 9 (.string ⟨s.toArray⟩) (some (.int .i64 1)) (some (.int .i64 ((s.length : Int) - 1))) none).run Tryz.prog W = .ok (.string ⟨body.toArray⟩) W := fun W => by
  have h0 := run_slice_string (P := Tryz.prog) W 9 ⟨s.toArray⟩ .i64 .i64 1 ((s.length : Int) - 1) Tryz.underlying9 (by omega) (by omega) (by show _ ≤ ((s.toArray.size : Nat) : Int); simp; omega)
  rw [h0, show ((s.length : Int) - 1).toNat = s.length - 1 by omega]
  rw [show (1 : Int).toNat = 1 from rfl, hcut]
 have hI0 : Lib.IsBuffer 100 5 w.heap.size w.heap.size (Lib.byteCells []) (w.alloc (.cells #[.slice none 0 0, .int .i64 0, .int .i8 0] 100)) := Lib.fresh_isBuffer 100 5 w
 have hb0 : Below w.heap.size w (w.alloc (.cells #[.slice none 0 0, .int .i64 0, .int .i8 0] 100)) := (Below.refl _ w).alloc (Nat.le_refl _) _
 clear hU
 go_enter Tryz.func78, Tryz.ntmps78
 go_wp2
 go_loopw [6] (fun i wr => ∃ (k : Nat) (pre : List UInt8), k ≤ body.length ∧ i = .int .i64 k ∧ pre.length ≤ k ∧ Sx.decP body = (Sx.decP (body.drop k)).map (pre ++ ·) ∧ Lib.IsBuffer 100 5 w.heap.size w.heap.size (Lib.byteCells pre) wr ∧ Below w.heap.size w wr) (fun i _ => body.length - (intOf i).toNat)
 case atStart => exact ⟨0, [], Nat.zero_le _, rfl, Nat.le_refl _, by rw [List.drop_zero]; simp, hI0, hb0⟩
 case round =>
  obtain ⟨k, pre, hk, rfl, hpk, hdec, hI, hb⟩ := hrel
  clear hI0 hb0 hsl hcut ea ez n1 n2 ha hz
  have hw := hb.size
  by_cases hlt : k < body.length
  ·have hcc : (ByteArray.mk body.toArray)[k]'hlt = body[k] := by simp [ByteArray.getElem_eq_getElem_data]
   have hdr := List.drop_eq_getElem_cons hlt
   generalize body[k] = c at hcc hdr
   by_cases h92 : c.toNat = 92
   ·have n1 : (c.toNat : Int) = 92 := by omega
    have b1 : ((c.toNat : Int) != 92) = false := by simpa using n1
    by_cases hl1 : k + 1 < body.length
    case neg =>
     have hN : Sx.decP body = none := by rw [hdec, hdr, List.drop_eq_nil_of_le (by omega), decP_esc h92]; rfl
     have n3 : ¬ (k : Int) + 1 < body.length := by omega
     clear hdec
     go_wp2
     go_ret2
     exact ⟨by first | rfl | (rw [hN]; rfl), hb⟩
    have n3 : (k : Int) + 1 < body.length := by omega
    have hd1 := byteAt_eq body (k + 1) hl1
    have hdr1 := List.drop_eq_getElem_cons hl1
    generalize body[k + 1] = d at hd1 hdr1
    by_cases h120 : d.toNat = 120
    ·have n4 : (d.toNat : Int) = 120 := by omega
     by_cases hl3 : k + 3 < body.length
     case neg =>
      have hN : Sx.decP body = none := by
       rw [hdec, hdr, hdr1, decP_esc h92]
       have : Sx.escP (body.drop (k + 1 + 1)) = none := by
        have : (body.drop (k + 1 + 1)).length < 2 := by rw [List.length_drop]; omega
        revert this
        generalize body.drop (k + 1 + 1) = m
        intro this
        match m, this with
        | [], _ => rfl
        | [_], _ => rfl
       simp only [h120, decide_true, cond_true, this]; rfl
      have n5 : (body.length : Int) ≤ (k : Int) + 1 + 2 := by omega
      clear hdec
      go_wp2
      go_ret2
      exact ⟨by first | rfl | (rw [hN]; rfl), hb⟩
     have n5 : ¬ (body.length : Int) ≤ (k : Int) + 1 + 2 := by omega
     have hd2 := byteAt_eq body (k + 2) (by omega)
     have hdr2 := List.drop_eq_getElem_cons (show k + 2 < body.length by omega)
     have hd3 := byteAt_eq body (k + 3) hl3
     have hdr3 := List.drop_eq_getElem_cons hl3
     generalize body[k + 2] = x at hd2 hdr2
     generalize body[k + 3] = y at hd3 hdr3
     have w1 : IntKind.i64.wrap ((k : Int) + 1 + 1) = (k : Int) + 1 + 1 := wrapId _ (by omega) (by omega)
     have w2 : IntKind.i64.wrap ((k : Int) + 1 + 2) = (k : Int) + 1 + 2 := wrapId _ (by omega) (by omega)
     have m7 : (0 : Int) ≤ (k : Int) + 1 + 1 ∧ (k : Int) + 1 + 1 < body.length := ⟨by omega, by omega⟩
     have m8 : (0 : Int) ≤ (k : Int) + 1 + 2 ∧ (k : Int) + 1 + 2 < body.length := ⟨by omega, by omega⟩
     have t1 : ((k : Int) + 1 + 1).toNat = k + 2 := by omega
     have t2 : ((k : Int) + 1 + 2).toNat = k + 3 := by omega
     have hesc : Sx.escP (body.drop (k + 1 + 1)) = Sx.hexB x y := by rw [hdr2, hdr3]; rfl
     have hd4 : (body.drop (k + 1 + 1)).drop 2 = body.drop (k + 4) := by rw [List.drop_drop]
     have hdec4 : Sx.decP body = match Sx.hexB x y with
       | some v => (Sx.decP (body.drop (k + 4))).map fun l => pre ++ v :: l
       | none => none := by
      rw [hdec, hdr, hdr1, decP_esc h92]
      simp only [h120, decide_true, cond_true, hesc, hd4]
      cases Sx.hexB x y with
      | none => rfl
      | some v => simp [Option.map_map, Function.comp_def]
     clear hesc hd4 hdr hdr1 hdr2 hdr3 hdec
     cases hx : Sx.nibI x.toNat with
     | none =>
      have hN : Sx.decP body = none := by rw [hdec4]; simp only [Sx.hexB, hx]
      have v1 : hexVal x = -1 := by unfold hexVal; rw [hx]
      clear hdec4
      go_wp2
      go_region_with (first | (go_at_call_of 94 x; refine (indexHex_n x _).mono ?_; rintro e w' ⟨rfl, rfl⟩) | (go_at_call_of 94 y; refine (indexHex_n y _).mono ?_; rintro e w' ⟨rfl, rfl⟩))
      all_goals go_wp2
      all_goals go_ret2
      all_goals exact ⟨by first | rfl | (rw [hN]; rfl), hb.drew⟩
     | some n =>
      have v1 : hexVal x = (n : Int) := by unfold hexVal; rw [hx]
      have hn := nibI_lt hx
      cases hy : Sx.nibI y.toNat with
      | none =>
       have hN : Sx.decP body = none := by rw [hdec4]; simp only [Sx.hexB, hx, hy]
       have v2 : hexVal y = -1 := by unfold hexVal; rw [hy]
       clear hdec4
       go_wp2
       go_region_with (first | (go_at_call_of 94 x; refine (indexHex_n x _).mono ?_; rintro e w' ⟨rfl, rfl⟩) | (go_at_call_of 94 y; refine (indexHex_n y _).mono ?_; rintro e w' ⟨rfl, rfl⟩))
       all_goals go_wp2
       all_goals go_ret2
       all_goals exact ⟨by first | rfl | (rw [hN]; rfl), hb.drew⟩
      | some m =>
       have v2 : hexVal y = (m : Int) := by unfold hexVal; rw [hy]
       have hm := nibI_lt hy
       have hN : Sx.decP body = (Sx.decP (body.drop (k + 4))).map fun l => pre ++ UInt8.ofNat (16 * n + m) :: l := by rw [hdec4]; simp only [Sx.hexB, hx, hy]
       clear hdec4
       go_wp2
       go_region_with (first | (go_at_call_of 94 x; refine (indexHex_n x _).mono ?_; rintro e w' ⟨rfl, rfl⟩) | (go_at_call_of 94 y; refine (indexHex_n y _).mono ?_; rintro e w' ⟨rfl, rfl⟩))
       all_goals (go_wp2_with (go_at_call 62; refine (writeByte_z w.heap.size w.heap.size pre (UInt8.ofNat (16 * n + m)) _ (hexOr n m hn hm) _ hI.drew hw (by omega)).mono ?_; rintro e W2 ⟨rfl, hI2, hb2⟩))
       all_goals go_wp2
       all_goals go_roundw
       all_goals first | exact ⟨k + 4, pre ++ [UInt8.ofNat (16 * n + m)], by omega, by go_num, by simp; omega, by rw [hN]; simp, hI2, hb.drew.trans hb2⟩ | (simp [intOf]; omega)
    ·have n4 : ¬ (d.toNat : Int) = 120 := by omega
     go_wp2_with (go_at_call 62; refine (writeByte_z w.heap.size w.heap.size pre d _ (by first | rw [hd1] | omega) _ hI hw (by omega)).mono ?_; rintro e W2 ⟨rfl, hI2, hb2⟩)
     go_wp2
     go_roundw
     case rel => exact ⟨k + 2, pre ++ [d], by omega, by go_num, by simp; omega, by rw [hdec, hdr, hdr1, decP_esc h92]; simp only [decide_eq_false h120, cond_false, Option.map_map]; congr 1; funext x; simp, hI2, hb.trans hb2⟩
     case measure => simp [intOf]; omega
   ·have n1 : ¬ (c.toNat : Int) = 92 := by omega
    have b1 : ((c.toNat : Int) != 92) = true := by simpa using n1
    go_wp2_with (go_at_call 62; refine (writeByte_z w.heap.size w.heap.size pre c _ (by first | rw [hcc] | omega) _ hI hw (by omega)).mono ?_; rintro e W2 ⟨rfl, hI2, hb2⟩)
    go_wp2
    go_roundw
    case rel => exact ⟨k + 1, pre ++ [c], by omega, by go_num, by simp; omega, by rw [hdec, hdr, decP_plain h92, Option.map_map]; congr 1; funext x; simp, hI2, hb.trans hb2⟩
    case measure => simp [intOf]; omega
  ·have hall : Sx.decP body = some pre := by
    rw [hdec, List.drop_eq_nil_of_le (by omega)]
    simp [Sx.decP]
   clear hdec
   have hB3 : ∀ (n : Nat) (W3 : World), Below (wr.drewN n).heap.size (wr.drewN n) W3 → Below w.heap.size w W3 := fun n W3 hb3 =>
    ⟨hb3.os.trans hb.os, hb3.tape.trans hb.tape, hb3.output.trans hb.output, Nat.le_trans hb.size hb3.size, fun k hk => (hb3.block k (Nat.lt_of_lt_of_le hk hb.size)).trans (hb.block k hk)⟩
   by_cases hq : Sx.quoteL pre = s
   ·have hN : finV s (Sx.decP body) = some pre := by rw [hall]; unfold finV; simp only [hq, decide_true, cond_true]
    have bq : (Sx.quoteL pre == s) = true := by simpa using hq
    clear hall
    go_wp2_with (go_at_call 64; refine (bufString_k w.heap.size w.heap.size _ _ hI).mono ?_; rintro e W2 ⟨rfl, n, rfl⟩)
    go_wp2_with (go_at_call 32; refine (quote_n pre (by omega) _).mono ?_; rintro e W3 ⟨rfl, hb3⟩)
    go_wp2_with (go_at_call 64; refine (bufString_k w.heap.size w.heap.size _ _ ((hI.drewN n).old hb3)).mono ?_; rintro e W4 ⟨rfl, n2, rfl⟩)
    go_wp2
    go_ret2
    exact ⟨by rw [hN]; rfl, (hB3 n W3 hb3).trans ⟨rfl, rfl, rfl, Nat.le_refl _, fun _ _ => rfl⟩⟩
   ·have hN : finV s (Sx.decP body) = none := by rw [hall]; unfold finV; simp only [decide_eq_false hq, cond_false]
    have bq : (Sx.quoteL pre == s) = false := by simpa using hq
    clear hall
    go_wp2_with (go_at_call 64; refine (bufString_k w.heap.size w.heap.size _ _ hI).mono ?_; rintro e W2 ⟨rfl, n, rfl⟩)
    go_wp2_with (go_at_call 32; refine (quote_n pre (by omega) _).mono ?_; rintro e W3 ⟨rfl, hb3⟩)
    go_wp2
    go_ret2
    exact ⟨by rw [hN]; rfl, hB3 n W3 hb3⟩
theorem unquote_c (s : List UInt8) (hs : s.length ≤ 1000000000) : Sx.PC Tryz.prog 78 [Sx.S s] (.tup [Sx.S ((Sx.unqV s).getD []), Sx.I .i64 (bif (Sx.unqV s).isSome then 0 else 5)]) := by
 refine Sx.PC.native ⟨_, Tryz.func78, by decide, rfl⟩ fun M ν w vs hf hv => ?_
 obtain ⟨x, rfl, h1⟩ := Sx.reps1 hv
 rw [Sx.rep_S] at h1
 subst h1
 refine Calls.mono (unquote_n s hs w) ?_
 rintro e w' ⟨rfl, hb⟩
 refine ⟨_, rfl, ?_, hb⟩
 rw [← Sx.unqP_eq]
 cases Sx.unqP s with
 | none =>
  simp only [uqR, Sx.T.rep, Sx.T.reps, Sx.Cell.rep, Sx.C.rep, Option.getD_none, Option.isSome_none, cond_false]
  exact ⟨_, rfl, _, _, rfl, rfl, _, _, rfl, rfl, rfl⟩
 | some t =>
  simp only [uqR, Sx.T.rep, Sx.T.reps, Sx.Cell.rep, Sx.C.rep, Option.getD_some, Option.isSome_some, cond_true]
  exact ⟨_, rfl, _, _, rfl, rfl, _, _, rfl, rfl, rfl⟩
end Go.Proofs.YtogponhonjiidaaGreatDoor
set_option linter.unusedSimpArgs false
set_option linter.unusedVariables false
set_option maxRecDepth 20000
set_option maxHeartbeats 16000000
namespace Go.Proofs.YtogponhonjiidaaGreatDoor
open Go Go.Sx
open Nat renaming reduceBEq → zA, reduceBNe → zB, reduceAdd → zC, reduceSub → zD, reduceMul → zE, reduceLeDiff → zF, reduceLT → zG, reduceEqDiff → zH
open Int renaming reduceToNat → zI, reduceLE → zJ, reduceLT → zK, reduceEq → zL
open Bool renaming not_eq_true' → zM, not_eq_false' → zN
/-- the place of the closing quote -/
def qEnd : List UInt8 → Option Nat
 | [] => none
 | c :: l => bif decide ((c.toNat : Int) = 92) then (qEnd (l.drop 1)).map (· + 2) else bif decide ((c.toNat : Int) = 34) then some 0 else (qEnd l).map (· + 1)
termination_by l => l.length
decreasing_by all_goals (simp; try omega)
def qAt (s : List UInt8) (k : Nat) : Option Nat := (qEnd (s.drop k)).map (· + k)
theorem qAt_end {s : List UInt8} {k : Nat} (h : s.length ≤ k) : qAt s k = none := by unfold qAt; rw [List.drop_eq_nil_of_le h, qEnd]; rfl
theorem qAt_esc {s : List UInt8} {k : Nat} {c : UInt8} (h : s[k]? = some c) (hc : decide ((c.toNat : Int) = 92) = true) : qAt s k = qAt s (k + 2) := by
 obtain ⟨hk, rfl⟩ := List.getElem?_eq_some_iff.1 h
 unfold qAt
 rw [List.drop_eq_getElem_cons hk, qEnd, hc, cond_true, List.drop_drop, Option.map_map]
 congr 1
 funext x; simp only [Function.comp]; omega
theorem qAt_quote {s : List UInt8} {k : Nat} {c : UInt8} (h : s[k]? = some c) (h9 : decide ((c.toNat : Int) = 92) = false) (hc : decide ((c.toNat : Int) = 34) = true) : qAt s k = some k := by
 obtain ⟨hk, rfl⟩ := List.getElem?_eq_some_iff.1 h
 unfold qAt
 rw [List.drop_eq_getElem_cons hk, qEnd, h9, hc, cond_true, cond_false]
 simp
theorem qAt_no {s : List UInt8} {k : Nat} {c : UInt8} (h : s[k]? = some c) (h9 : decide ((c.toNat : Int) = 92) = false) (hc : decide ((c.toNat : Int) = 34) = false) : qAt s k = qAt s (k + 1) := by
 obtain ⟨hk, rfl⟩ := List.getElem?_eq_some_iff.1 h
 unfold qAt
 rw [List.drop_eq_getElem_cons hk, qEnd, h9, hc, cond_false, cond_false, Option.map_map]
 congr 1
 funext x; simp only [Function.comp]; omega
theorem qEnd_lt : ∀ (l : List UInt8) (j : Nat), qEnd l = some j → j < l.length
 | [], j, h => by rw [qEnd] at h; cases h
 | c :: l, j, h => by
  rw [qEnd] at h
  have h1 := qEnd_lt (l.drop 1)
  have h2 := qEnd_lt l
  rw [List.length_drop] at h1
  rw [List.length_cons]
  revert h
  cases decide ((c.toNat : Int) = 92) with
  | true =>
   simp only [cond_true]
   intro h
   obtain ⟨x, hx, rfl⟩ := Option.map_eq_some_iff.1 h
   have := h1 x hx; omega
  | false =>
   cases decide ((c.toNat : Int) = 34) with
   | true => simp only [cond_true, cond_false]; intro h; cases h; omega
   | false =>
    simp only [cond_false]
    intro h
    obtain ⟨x, hx, rfl⟩ := Option.map_eq_some_iff.1 h
    have := h2 x hx; omega
termination_by l => l.length
decreasing_by all_goals (simp; try omega)
theorem qAt_bd {s : List UInt8} {k j : Nat} (h : qAt s k = some j) : k ≤ j ∧ j < s.length := by
 unfold qAt at h
 obtain ⟨x, hx, rfl⟩ := Option.map_eq_some_iff.1 h
 have := qEnd_lt _ _ hx
 rw [List.length_drop] at this
 omega
/-- what follows a closing quote at j: token, code -/
def qTok (t : List UInt8) : Tok × Int := match unqV t with
 | none => (zeroTok, 5)
 | some u => bif decide ((64 : Int) < (u.length : Int)) then (zeroTok, 2) else (⟨4, u, 0, 0⟩, 0)
def quoV (s : List UInt8) (i : Nat) : (Tok × Int) × Nat := match qAt s (i + 1) with
 | none => ((zeroTok, 5), i)
 | some j => (qTok ((s.take (j + 1)).drop i), j + 1)
theorem quoted_c (s : List UInt8) (hs : s.length ≤ 1000000000) (i : Nat) (hi : i < s.length) :
  PCB Tryz.prog 58 [Scp pin] [(pin, scB s i)] (TkR (quoV s i).1) [(pin, scB s (quoV s i).2)] := by
 have hw0 := wk64 hi (show s.length ≤ 1000000000000 by omega)
 refine PCB.of_body Tryz.func58 rfl (by decide) Tryz.ntmps58 Tryz.results58 rfl rfl rfl ?_ rfl rfl
 repeat' (first | (simp only [go_sem, zA, zB, zC, zD, zE, zF, zG, reduceCtorEq, zH, zI, zJ, zK, zL, pin, hw0]; all_goals fail_if_success guard_target =ₛ False) | (with_reducible first | ((first | refine seqVC_stepN rfl ?_ | refine AWP.seq ?_ | refine AWP.seqR (by kernel_rfl) ?_ | refine parVC_stepN rfl ?_ | refine parEVC_stepN rfl ?_ | refine genVC_stepN rfl ?_); intro K hK) | ((first | refine hK _ _ _ ?_ | refine hK _ _ ?_ | refine hK _ ?_); clear hK K) | refine seqVC_nil ?_ | refine parVC_nil ?_ | refine parEVC_nil ?_ | refine genVC_nil ?_ | refine AWP.block ?_ | (refine AWP.cond (by with_unfolding_all rfl) ?_ ?_ <;> intro h <;> (try simp only [zM, zN] at h) <;> try exact absurd h (by decide)) | refine AWP.skip ?_ | refine AWP.ret ?_ | refine AWP.exit ?_ | refine AWP.parR mixed (by kernel_rfl) fun K hK => ?_ | refine ⟨(by kernel_rfl : depB _ _ _ = true), ?_⟩ | refine Or.inl ?_) | (clear hK K))
 refine AWP.loopF (X := Nat) (fun k => [(0, Scp 1000000), (4, I .i64 (k : Nat))]) (fun k => [(1000000, scB s i), (2, .cells [.dat (.int .i64 0), .dat (.str []), .dat (.int .i64 0), .dat (.int .i64 0)])]) [2] [] (fun k => i + 1 ≤ k ∧ k ≤ s.length + 1 ∧ qAt s (i + 1) = qAt s k) (fun k => s.length + 1 - k) (i + 1) (by simp only [go_sem, zA, zB, zC, zD, zE, zF, zG, reduceCtorEq, zH, zI, zJ, zK, zL]; exact Gh.to [] (by repeat (first | exact trivial | refine ⟨rfl, ?_⟩ | refine ⟨by (simp only [go_sem, zA, zB, zC, zD, zE, zF, zG, reduceCtorEq, zH, zI, zJ, zK, zL, List.length_append, List.length_map, List.length_cons, List.length_nil, Nat.zero_add]) <;> rfl, ?_⟩)) (by repeat (first | exact trivial | refine ⟨rfl, ?_⟩ | refine ⟨by (simp only [go_sem, zA, zB, zC, zD, zE, zF, zG, reduceCtorEq, zH, zI, zJ, zK, zL, List.length_append, List.length_map, List.length_cons, List.length_nil, Nat.zero_add]) <;> rfl, ?_⟩)) rfl rfl rfl) ?_ ?_
 ·exact ⟨Nat.le_refl _, by omega, rfl⟩
 rintro k ⟨hik, hks, hok⟩
 simp only [go_sem, zA, zB, zC, zD, zE, zF, zG, reduceCtorEq, zH, zI, zJ, zK, zL]
 by_cases hlt : k < s.length
 ·obtain ⟨c, hc⟩ := byte_at hlt
  have hd : decide ((k : Int) < (s.length : Int)) = true := by rw [decide_eq_true_eq]; omega
  have hw := wk64 hlt (show s.length ≤ 1000000000000 by omega)
  cases h9 : decide ((c.toNat : Int) = 92) with
  | true =>
   rw [qAt_esc hc h9] at hok
   have hw2 : IntKind.i64.wrap (((k + 1 : Nat) : Int) + 1) = ((k + 2 : Nat) : Int) := by rw [w64 (by omega)]; rfl
   repeat' (first | (simp only [go_sem, zA, zB, zC, zD, zE, zF, zG, reduceCtorEq, zH, zI, zJ, zK, zL, pin, hd, h9, hw, hw2]; all_goals fail_if_success guard_target =ₛ False) | (with_reducible first | ((first | refine seqVC_stepN rfl ?_ | refine AWP.seq ?_ | refine AWP.seqR (by kernel_rfl) ?_ | refine parVC_stepN rfl ?_ | refine parEVC_stepN rfl ?_ | refine genVC_stepN rfl ?_); intro K hK) | ((first | refine hK _ _ _ ?_ | refine hK _ _ ?_ | refine hK _ ?_); clear hK K) | refine seqVC_nil ?_ | refine parVC_nil ?_ | refine parEVC_nil ?_ | refine genVC_nil ?_ | refine AWP.block ?_ | (refine AWP.cond (by with_unfolding_all rfl) ?_ ?_ <;> intro h <;> (try simp only [zM, zN] at h) <;> try exact absurd h (by decide)) | refine AWP.skip ?_ | refine AWP.ret ?_ | refine AWP.exit ?_ | refine ⟨by omega, c, hc, ?_⟩ | refine AWP.parR mixed (by kernel_rfl) fun K hK => ?_ | refine ⟨(by kernel_rfl : depB _ _ _ = true), ?_⟩ | refine Or.inl ?_) | (clear hK K))
   all_goals (refine ⟨k + 2, by omega, ⟨by omega, by omega, hok⟩, Gh.to [] (by repeat (first | exact trivial | refine ⟨rfl, ?_⟩ | refine ⟨by (simp only [go_sem, zA, zB, zC, zD, zE, zF, zG, reduceCtorEq, zH, zI, zJ, zK, zL, List.length_append, List.length_map, List.length_cons, List.length_nil, Nat.zero_add]) <;> rfl, ?_⟩)) (by repeat (first | exact trivial | refine ⟨rfl, ?_⟩ | refine ⟨by (simp only [go_sem, zA, zB, zC, zD, zE, zF, zG, reduceCtorEq, zH, zI, zJ, zK, zL, List.length_append, List.length_map, List.length_cons, List.length_nil, Nat.zero_add]) <;> rfl, ?_⟩)) rfl rfl rfl⟩)
  | false =>
   cases h3 : decide ((c.toNat : Int) = 34) with
   | false =>
    rw [qAt_no hc h9 h3] at hok
    repeat' (first | (simp only [go_sem, zA, zB, zC, zD, zE, zF, zG, reduceCtorEq, zH, zI, zJ, zK, zL, pin, hd, h9, h3, hw]; all_goals fail_if_success guard_target =ₛ False) | (with_reducible first | ((first | refine seqVC_stepN rfl ?_ | refine AWP.seq ?_ | refine AWP.seqR (by kernel_rfl) ?_ | refine parVC_stepN rfl ?_ | refine parEVC_stepN rfl ?_ | refine genVC_stepN rfl ?_); intro K hK) | ((first | refine hK _ _ _ ?_ | refine hK _ _ ?_ | refine hK _ ?_); clear hK K) | refine seqVC_nil ?_ | refine parVC_nil ?_ | refine parEVC_nil ?_ | refine genVC_nil ?_ | refine AWP.block ?_ | (refine AWP.cond (by with_unfolding_all rfl) ?_ ?_ <;> intro h <;> (try simp only [zM, zN] at h) <;> try exact absurd h (by decide)) | refine AWP.skip ?_ | refine AWP.ret ?_ | refine AWP.exit ?_ | refine ⟨by omega, c, hc, ?_⟩ | refine AWP.parR mixed (by kernel_rfl) fun K hK => ?_ | refine ⟨(by kernel_rfl : depB _ _ _ = true), ?_⟩ | refine Or.inl ?_) | (clear hK K))
    all_goals (refine ⟨k + 1, by omega, ⟨by omega, by omega, hok⟩, Gh.to [] (by repeat (first | exact trivial | refine ⟨rfl, ?_⟩ | refine ⟨by (simp only [go_sem, zA, zB, zC, zD, zE, zF, zG, reduceCtorEq, zH, zI, zJ, zK, zL, List.length_append, List.length_map, List.length_cons, List.length_nil, Nat.zero_add]) <;> rfl, ?_⟩)) (by repeat (first | exact trivial | refine ⟨rfl, ?_⟩ | refine ⟨by (simp only [go_sem, zA, zB, zC, zD, zE, zF, zG, reduceCtorEq, zH, zI, zJ, zK, zL, List.length_append, List.length_map, List.length_cons, List.length_nil, Nat.zero_add]) <;> rfl, ?_⟩)) rfl rfl rfl⟩)
   | true =>
    rw [qAt_quote hc h9 h3] at hok
    have hu := unquote_c ((s.take (k + 1)).drop i) (by simp only [List.length_drop, List.length_take]; omega)
    have hq : quoV s i = (qTok ((s.take (k + 1)).drop i), k + 1) := by unfold quoV; rw [hok]
    rw [hq]
    unfold qTok
    cases hv : unqV ((s.take (k + 1)).drop i) with
    | none =>
     rw [hv] at hu
     simp only [Option.getD_none, Option.isSome_none, cond_false] at hu
     repeat' (first | (simp only [go_sem, zA, zB, zC, zD, zE, zF, zG, reduceCtorEq, zH, zI, zJ, zK, zL, pin, hd, h9, h3, hw]; all_goals fail_if_success guard_target =ₛ False) | (with_reducible first | ((first | refine seqVC_stepN rfl ?_ | refine AWP.seq ?_ | refine AWP.seqR (by kernel_rfl) ?_ | refine parVC_stepN rfl ?_ | refine parEVC_stepN rfl ?_ | refine genVC_stepN rfl ?_); intro K hK) | ((first | refine hK _ _ _ ?_ | refine hK _ _ ?_ | refine hK _ ?_); clear hK K) | refine seqVC_nil ?_ | refine parVC_nil ?_ | refine parEVC_nil ?_ | refine genVC_nil ?_ | refine AWP.block ?_ | (refine AWP.cond (by with_unfolding_all rfl) ?_ ?_ <;> intro h <;> (try simp only [zM, zN] at h) <;> try exact absurd h (by decide)) | refine AWP.skip ?_ | refine AWP.ret ?_ | refine AWP.exit ?_ | refine ⟨_, hu, ?_⟩ | refine ⟨by omega, c, hc, ?_⟩ | refine ⟨by omega, by omega, by omega, ?_⟩ | refine AWP.parR mixed (by kernel_rfl) fun K hK => ?_ | refine ⟨(by kernel_rfl : depB _ _ _ = true), ?_⟩ | refine Or.inl ?_) | (clear hK K))
     all_goals (refine ⟨by first | trivial | rfl, fun x hx => ?_⟩; simp only [List.mem_singleton] at hx; subst hx; simp)
    | some u =>
     rw [hv] at hu
     simp only [Option.getD_some, Option.isSome_some, cond_true] at hu
     cases h6 : decide ((64 : Int) < (u.length : Int)) with
     | true =>
      repeat' (first | (simp only [go_sem, zA, zB, zC, zD, zE, zF, zG, reduceCtorEq, zH, zI, zJ, zK, zL, pin, hd, h9, h3, h6, hw]; all_goals fail_if_success guard_target =ₛ False) | (with_reducible first | ((first | refine seqVC_stepN rfl ?_ | refine AWP.seq ?_ | refine AWP.seqR (by kernel_rfl) ?_ | refine parVC_stepN rfl ?_ | refine parEVC_stepN rfl ?_ | refine genVC_stepN rfl ?_); intro K hK) | ((first | refine hK _ _ _ ?_ | refine hK _ _ ?_ | refine hK _ ?_); clear hK K) | refine seqVC_nil ?_ | refine parVC_nil ?_ | refine parEVC_nil ?_ | refine genVC_nil ?_ | refine AWP.block ?_ | (refine AWP.cond (by with_unfolding_all rfl) ?_ ?_ <;> intro h <;> (try simp only [zM, zN] at h) <;> try exact absurd h (by decide)) | refine AWP.skip ?_ | refine AWP.ret ?_ | refine AWP.exit ?_ | refine ⟨_, hu, ?_⟩ | refine ⟨by omega, c, hc, ?_⟩ | refine ⟨by omega, by omega, by omega, ?_⟩ | refine AWP.parR mixed (by kernel_rfl) fun K hK => ?_ | refine ⟨(by kernel_rfl : depB _ _ _ = true), ?_⟩ | refine Or.inl ?_) | (clear hK K))
      all_goals (refine ⟨by first | trivial | rfl, fun x hx => ?_⟩; simp only [List.mem_singleton] at hx; subst hx; simp)
     | false =>
      repeat' (first | (simp only [go_sem, zA, zB, zC, zD, zE, zF, zG, reduceCtorEq, zH, zI, zJ, zK, zL, pin, hd, h9, h3, h6, hw]; all_goals fail_if_success guard_target =ₛ False) | (with_reducible first | ((first | refine seqVC_stepN rfl ?_ | refine AWP.seq ?_ | refine AWP.seqR (by kernel_rfl) ?_ | refine parVC_stepN rfl ?_ | refine parEVC_stepN rfl ?_ | refine genVC_stepN rfl ?_); intro K hK) | ((first | refine hK _ _ _ ?_ | refine hK _ _ ?_ | refine hK _ ?_); clear hK K) | refine seqVC_nil ?_ | refine parVC_nil ?_ | refine parEVC_nil ?_ | refine genVC_nil ?_ | refine AWP.block ?_ | (refine AWP.cond (by with_unfolding_all rfl) ?_ ?_ <;> intro h <;> (try simp only [zM, zN] at h) <;> try exact absurd h (by decide)) | refine AWP.skip ?_ | refine AWP.ret ?_ | refine AWP.exit ?_ | refine ⟨_, hu, ?_⟩ | refine ⟨by omega, c, hc, ?_⟩ | refine ⟨by omega, by omega, by omega, ?_⟩ | refine AWP.parR mixed (by kernel_rfl) fun K hK => ?_ | refine ⟨(by kernel_rfl : depB _ _ _ = true), ?_⟩ | refine Or.inl ?_) | (clear hK K))
      all_goals (refine ⟨by first | trivial | rfl, fun x hx => ?_⟩; simp only [List.mem_singleton] at hx; subst hx; simp)
 ·have hd : decide ((k : Int) < (s.length : Int)) = false := by rw [decide_eq_false_iff_not]; omega
  rw [qAt_end (s := s) (k := k) (by omega)] at hok
  have hq : quoV s i = ((zeroTok, 5), i) := by unfold quoV; rw [hok]
  repeat' (first | (simp only [go_sem, zA, zB, zC, zD, zE, zF, zG, reduceCtorEq, zH, zI, zJ, zK, zL, pin, hd]; all_goals fail_if_success guard_target =ₛ False) | (with_reducible first | ((first | refine seqVC_stepN rfl ?_ | refine AWP.seq ?_ | refine AWP.seqR (by kernel_rfl) ?_ | refine parVC_stepN rfl ?_ | refine parEVC_stepN rfl ?_ | refine genVC_stepN rfl ?_); intro K hK) | ((first | refine hK _ _ _ ?_ | refine hK _ _ ?_ | refine hK _ ?_); clear hK K) | refine seqVC_nil ?_ | refine parVC_nil ?_ | refine parEVC_nil ?_ | refine genVC_nil ?_ | refine AWP.block ?_ | (refine AWP.cond (by with_unfolding_all rfl) ?_ ?_ <;> intro h <;> (try simp only [zM, zN] at h) <;> try exact absurd h (by decide)) | refine AWP.skip ?_ | refine AWP.ret ?_ | refine AWP.exit ?_ | refine AWP.parR mixed (by kernel_rfl) fun K hK => ?_ | refine ⟨(by kernel_rfl : depB _ _ _ = true), ?_⟩ | refine Or.inl ?_) | (clear hK K))
  all_goals (simp only [hq])
  all_goals (refine ⟨by first | trivial | rfl, fun x hx => ?_⟩; simp only [List.mem_singleton] at hx; subst hx; simp)
theorem cut_le (s p : List UInt8) : (Lib.cut s p).1.length ≤ s.length := by
 unfold Lib.cut
 split
 ·simp only [List.length_take]; omega
 ·exact Nat.le_refl _
/-- what follows a backquote at i -/
def encV (s : List UInt8) (i : Nat) : (Tok × Int) × Nat :=
 bif (Lib.cut (s.drop (i + 1)) [96]).2.2 then ((⟨5, (Lib.cut (s.drop (i + 1)) [96]).1, 0, 0⟩, 0), i + ((Lib.cut (s.drop (i + 1)) [96]).1.length + 2)) else ((zeroTok, 5), i)
theorem enclosed_c (s : List UInt8) (hs : s.length ≤ 1000000000) (i : Nat) (hi : i < s.length) :
  PCB Tryz.prog 59 [Scp pin] [(pin, scB s i)] (TkR (encV s i).1) [(pin, scB s (encV s i).2)] := by
 have hw0 := wk64 hi (show s.length ≤ 1000000000000 by omega)
 have hcut := cut_c (s.drop (i + 1)) [96] (by rw [List.length_drop]; omega)
 have hlen := cut_le (s.drop (i + 1)) [96]
 rw [List.length_drop] at hlen
 unfold encV
 generalize Lib.cut (s.drop (i + 1)) [96] = r at hcut hlen
 obtain ⟨t, u, ok⟩ := r
 have hw1 : IntKind.i64.wrap ((t.length : Int) + 2) = ((t.length + 2 : Nat) : Int) := by rw [w64 (by simp only at hlen; omega)]; rfl
 have hw2 : IntKind.i64.wrap ((i : Int) + ((t.length + 2 : Nat) : Int)) = ((i + (t.length + 2) : Nat) : Int) := by rw [w64 (by simp only at hlen; omega)]; rfl
 simp only at hcut
 refine PCB.of_body Tryz.func59 rfl (by decide) Tryz.ntmps59 Tryz.results59 rfl rfl rfl ?_ rfl rfl
 cases ok with
 | true =>
  repeat' (first | (simp only [go_sem, zA, zB, zC, zD, zE, zF, zG, reduceCtorEq, zH, zI, zJ, zK, zL, pin, hw0, hw1, hw2, List.take_length]; all_goals fail_if_success guard_target =ₛ False) | (with_reducible first | ((first | refine seqVC_stepN rfl ?_ | refine AWP.seq ?_ | refine AWP.seqR (by kernel_rfl) ?_ | refine parVC_stepN rfl ?_ | refine parEVC_stepN rfl ?_ | refine genVC_stepN rfl ?_); intro K hK) | ((first | refine hK _ _ _ ?_ | refine hK _ _ ?_ | refine hK _ ?_); clear hK K) | refine seqVC_nil ?_ | refine parVC_nil ?_ | refine parEVC_nil ?_ | refine genVC_nil ?_ | refine AWP.block ?_ | (refine AWP.cond (by with_unfolding_all rfl) ?_ ?_ <;> intro h <;> (try simp only [zM, zN] at h) <;> try exact absurd h (by decide)) | refine AWP.skip ?_ | refine AWP.ret ?_ | refine AWP.exit ?_ | refine ⟨_, hcut, ?_⟩ | refine ⟨by omega, by omega, by omega, ?_⟩ | refine AWP.parR mixed (by kernel_rfl) fun K hK => ?_ | refine ⟨(by kernel_rfl : depB _ _ _ = true), ?_⟩ | refine Or.inl ?_) | (clear hK K))
  all_goals (refine ⟨by first | trivial | rfl, fun x hx => ?_⟩; simp only [cond_true, List.mem_singleton] at hx; subst hx; simp)
 | false =>
  repeat' (first | (simp only [go_sem, zA, zB, zC, zD, zE, zF, zG, reduceCtorEq, zH, zI, zJ, zK, zL, pin, hw0, hw1, hw2, List.take_length]; all_goals fail_if_success guard_target =ₛ False) | (with_reducible first | ((first | refine seqVC_stepN rfl ?_ | refine AWP.seq ?_ | refine AWP.seqR (by kernel_rfl) ?_ | refine parVC_stepN rfl ?_ | refine parEVC_stepN rfl ?_ | refine genVC_stepN rfl ?_); intro K hK) | ((first | refine hK _ _ _ ?_ | refine hK _ _ ?_ | refine hK _ ?_); clear hK K) | refine seqVC_nil ?_ | refine parVC_nil ?_ | refine parEVC_nil ?_ | refine genVC_nil ?_ | refine AWP.block ?_ | (refine AWP.cond (by with_unfolding_all rfl) ?_ ?_ <;> intro h <;> (try simp only [zM, zN] at h) <;> try exact absurd h (by decide)) | refine AWP.skip ?_ | refine AWP.ret ?_ | refine AWP.exit ?_ | refine ⟨_, hcut, ?_⟩ | refine ⟨by omega, by omega, by omega, ?_⟩ | refine AWP.parR mixed (by kernel_rfl) fun K hK => ?_ | refine ⟨(by kernel_rfl : depB _ _ _ = true), ?_⟩ | refine Or.inl ?_) | (clear hK K))
  all_goals (refine ⟨by first | trivial | rfl, fun x hx => ?_⟩; simp only [cond_false, List.mem_singleton] at hx; subst hx; simp)
def byteV (s : List UInt8) (k : Nat) : Int := match s[k]? with | some b => (b.toNat : Int) | none => 0
theorem byteV_at {s : List UInt8} {k : Nat} {b : UInt8} (h : s[k]? = some b) : byteV s k = b.toNat := by unfold byteV; rw [h]
theorem byteV_end {s : List UInt8} {k : Nat} (h : s.length ≤ k) : byteV s k = 0 := by unfold byteV; rw [List.getElem?_eq_none h]
theorem byteAt_c (s : List UInt8) (k : Nat) : PC Tryz.prog 40 [S s, I .i64 k] (I .u8 (byteV s k)) := by
 by_cases hlt : k < s.length
 ·obtain ⟨c, hc⟩ := byte_at hlt
  rw [byteV_at hc]
  have hd : decide ((k : Int) < (s.length : Int)) = true := by rw [decide_eq_true_eq]; omega
  refine PCB.of_body Tryz.func40 rfl (by decide) Tryz.ntmps40 Tryz.results40 rfl rfl rfl ?_ rfl rfl
  repeat' (first | (simp only [go_sem, zA, zB, zC, zD, zE, zF, zG, reduceCtorEq, zH, zI, zJ, zK, zL, hd]; all_goals fail_if_success guard_target =ₛ False) | (with_reducible first | ((first | refine seqVC_stepN rfl ?_ | refine AWP.seq ?_ | refine AWP.seqR (by kernel_rfl) ?_); intro K hK) | ((first | refine hK _ _ _ ?_ | refine hK _ _ ?_ | refine hK _ ?_); clear hK K) | refine seqVC_nil ?_ | refine AWP.block ?_ | (refine AWP.cond (by with_unfolding_all rfl) ?_ ?_ <;> intro h <;> (try simp only [zM, zN] at h) <;> try exact absurd h (by decide)) | refine AWP.skip ?_ | refine AWP.ret ?_ | refine AWP.exit ?_ | refine ⟨by omega, c, hc, ?_⟩ | refine Or.inl ?_) | (clear hK K))
  all_goals (first | exact fun _ h => absurd h List.not_mem_nil | refine fin0 ?_)
  all_goals rfl
 ·rw [byteV_end (by omega)]
  have hd : decide ((k : Int) < (s.length : Int)) = false := by rw [decide_eq_false_iff_not]; omega
  refine PCB.of_body Tryz.func40 rfl (by decide) Tryz.ntmps40 Tryz.results40 rfl rfl rfl ?_ rfl rfl
  repeat' (first | (simp only [go_sem, zA, zB, zC, zD, zE, zF, zG, reduceCtorEq, zH, zI, zJ, zK, zL, hd]; all_goals fail_if_success guard_target =ₛ False) | (with_reducible first | ((first | refine seqVC_stepN rfl ?_ | refine AWP.seq ?_ | refine AWP.seqR (by kernel_rfl) ?_); intro K hK) | ((first | refine hK _ _ _ ?_ | refine hK _ _ ?_ | refine hK _ ?_); clear hK K) | refine seqVC_nil ?_ | refine AWP.block ?_ | (refine AWP.cond (by with_unfolding_all rfl) ?_ ?_ <;> intro h <;> (try simp only [zM, zN] at h) <;> try exact absurd h (by decide)) | refine AWP.skip ?_ | refine AWP.ret ?_ | refine AWP.exit ?_ | refine Or.inl ?_) | (clear hK K))
  all_goals (first | exact fun _ h => absurd h List.not_mem_nil | refine fin0 ?_)
  all_goals rfl
/-- which bytes go on with a word that begins with b -/
def wordI (b : UInt8) : Int → Bool := bif uppI b.toNat then varI else nameI
theorem rword_c (s : List UInt8) (hs : s.length ≤ 1000000000) (i : Nat) (b : UInt8) (hb : s[i]? = some b) :
  PC Tryz.prog 38 [S s, I .i64 i] (I .i64 ((toW (wordI b) s (i + 1) : Nat) : Int)) := by
 have hi : i < s.length := (List.getElem?_eq_some_iff.1 hb).1
 have hw0 := wk64 hi (show s.length ≤ 1000000000000 by omega)
 have hup := ref26upper_c b.toNat
 refine PCB.of_body Tryz.func38 rfl (by decide) Tryz.ntmps38 Tryz.results38 rfl rfl rfl ?_ rfl rfl
 repeat' (first | (simp only [go_sem, zA, zB, zC, zD, zE, zF, zG, reduceCtorEq, zH, zI, zJ, zK, zL, hw0]; all_goals fail_if_success guard_target =ₛ False) | (with_reducible first | ((first | refine seqVC_stepN rfl ?_ | refine seqVC_stepG rfl (by with_unfolding_all rfl) ?_ | refine AWP.seq ?_ | refine AWP.seqR (by kernel_rfl) ?_); intro K hK) | ((first | refine hK _ _ _ ?_ | refine hK _ _ ?_ | refine hK _ ?_); clear hK K) | refine seqVC_nil ?_ | refine AWP.block ?_ | (refine AWP.cond (by with_unfolding_all rfl) ?_ ?_ <;> intro h <;> (try simp only [zM, zN] at h) <;> try exact absurd h (by decide)) | refine AWP.skip ?_ | refine AWP.ret ?_ | refine AWP.exit ?_ | (refine ⟨fun h => ?_, fun h => ?_⟩ <;> (try simp only [zM, zN] at h) <;> try simp only [h]) | refine Or.inl ?_) | (clear hK K))
 refine AWP.loopF (X := Nat) (fun k => [(5, I .i64 (k : Nat))]) (fun k => []) [0, 1] [] (fun k => i + 1 ≤ k ∧ k ≤ s.length ∧ toW (wordI b) s (i + 1) = toW (wordI b) s k) (fun k => s.length - k) (i + 1) (by simp only [go_sem, zA, zB, zC, zD, zE, zF, zG, reduceCtorEq, zH, zI, zJ, zK, zL]; exact Gh.to [] (by repeat (first | exact trivial | refine ⟨rfl, ?_⟩ | refine ⟨by (simp only [go_sem, zA, zB, zC, zD, zE, zF, zG, reduceCtorEq, zH, zI, zJ, zK, zL, List.length_append, List.length_map, List.length_cons, List.length_nil, Nat.zero_add]) <;> rfl, ?_⟩)) (by repeat (first | exact trivial | refine ⟨rfl, ?_⟩ | refine ⟨by (simp only [go_sem, zA, zB, zC, zD, zE, zF, zG, reduceCtorEq, zH, zI, zJ, zK, zL, List.length_append, List.length_map, List.length_cons, List.length_nil, Nat.zero_add]) <;> rfl, ?_⟩)) rfl rfl rfl) ?_ ?_
 ·exact ⟨Nat.le_refl _, by omega, rfl⟩
 rintro k ⟨hik, hks, hok⟩
 simp only [go_sem, zA, zB, zC, zD, zE, zF, zG, reduceCtorEq, zH, zI, zJ, zK, zL]
 have hbk := byteAt_c s k
 by_cases hlt : k < s.length
 ·obtain ⟨c, hc⟩ := byte_at hlt
  have hw := wk64 hlt (show s.length ≤ 1000000000000 by omega)
  rw [byteV_at hc] at hbk
  have h1 := ref26lower_c c.toNat
  have h2 := ref26digit_c c.toNat
  have h3 := ref26upper_c c.toNat
  have hm : wordI b c.toNat = (lowI c.toNat || digI c.toNat || decide ((c.toNat : Int) = 95) || (uppI b.toNat && uppI c.toNat)) := by
   unfold wordI
   cases uppI b.toNat with
   | true =>
    simp only [cond_true, varI, Bool.true_and]
    cases lowI c.toNat <;> cases uppI c.toNat <;> cases digI c.toNat <;> cases decide ((c.toNat : Int) = 95) <;> rfl
   | false =>
    simp only [cond_false, nameI, Bool.false_and, Bool.or_false]
    cases lowI c.toNat <;> cases digI c.toNat <;> rfl
  cases hl : lowI c.toNat with
  | true =>
   rw [hl] at h1 hm
   cases h95 : decide ((c.toNat : Int) = 95) <;> rw [h95] at hm
   all_goals (have hm : wordI b c.toNat = true := by rw [hm]; cases digI c.toNat <;> cases uppI b.toNat <;> cases uppI c.toNat <;> rfl)
   all_goals rw [toW_yes hc hm] at hok
   all_goals
    repeat' (first | (simp only [go_sem, zA, zB, zC, zD, zE, zF, zG, reduceCtorEq, zH, zI, zJ, zK, zL, hw, h95]; all_goals fail_if_success guard_target =ₛ False) | (with_reducible first | ((first | refine seqVC_stepN rfl ?_ | refine seqVC_stepG rfl (by with_unfolding_all rfl) ?_ | refine AWP.seq ?_ | refine AWP.seqR (by kernel_rfl) ?_); intro K hK) | ((first | refine hK _ _ _ ?_ | refine hK _ _ ?_ | refine hK _ ?_); clear hK K) | refine seqVC_nil ?_ | refine AWP.block ?_ | (refine AWP.cond (by with_unfolding_all rfl) ?_ ?_ <;> intro h <;> (try simp only [zM, zN] at h) <;> try exact absurd h (by decide)) | refine AWP.skip ?_ | refine AWP.ret ?_ | refine AWP.exit ?_ | (refine ⟨fun h => ?_, fun h => ?_⟩ <;> (try simp only [zM, zN] at h) <;> try simp only [h]) | refine ⟨_, hbk, ?_⟩ | refine ⟨_, h1, ?_⟩ | refine ⟨_, h2, ?_⟩ | refine ⟨_, hup, ?_⟩ | refine ⟨_, h3, ?_⟩ | refine ⟨by omega, b, hb, ?_⟩ | refine Or.inl ?_) | (clear hK K))
   all_goals (refine ⟨k + 1, by omega, ⟨by omega, by omega, hok⟩, Gh.to [] (by repeat (first | exact trivial | refine ⟨rfl, ?_⟩ | refine ⟨by (simp only [go_sem, zA, zB, zC, zD, zE, zF, zG, reduceCtorEq, zH, zI, zJ, zK, zL, List.length_append, List.length_map, List.length_cons, List.length_nil, Nat.zero_add]) <;> rfl, ?_⟩)) (by repeat (first | exact trivial | refine ⟨rfl, ?_⟩ | refine ⟨by (simp only [go_sem, zA, zB, zC, zD, zE, zF, zG, reduceCtorEq, zH, zI, zJ, zK, zL, List.length_append, List.length_map, List.length_cons, List.length_nil, Nat.zero_add]) <;> rfl, ?_⟩)) rfl rfl rfl⟩)
  | false =>
   rw [hl] at h1 hm
   cases hdg : digI c.toNat with
   | true =>
    rw [hdg] at h2 hm
    cases h95 : decide ((c.toNat : Int) = 95) <;> rw [h95] at hm
    all_goals (have hm : wordI b c.toNat = true := by rw [hm]; cases uppI b.toNat <;> cases uppI c.toNat <;> rfl)
    all_goals rw [toW_yes hc hm] at hok
    all_goals
     repeat' (first | (simp only [go_sem, zA, zB, zC, zD, zE, zF, zG, reduceCtorEq, zH, zI, zJ, zK, zL, hw, h95]; all_goals fail_if_success guard_target =ₛ False) | (with_reducible first | ((first | refine seqVC_stepN rfl ?_ | refine seqVC_stepG rfl (by with_unfolding_all rfl) ?_ | refine AWP.seq ?_ | refine AWP.seqR (by kernel_rfl) ?_); intro K hK) | ((first | refine hK _ _ _ ?_ | refine hK _ _ ?_ | refine hK _ ?_); clear hK K) | refine seqVC_nil ?_ | refine AWP.block ?_ | (refine AWP.cond (by with_unfolding_all rfl) ?_ ?_ <;> intro h <;> (try simp only [zM, zN] at h) <;> try exact absurd h (by decide)) | refine AWP.skip ?_ | refine AWP.ret ?_ | refine AWP.exit ?_ | (refine ⟨fun h => ?_, fun h => ?_⟩ <;> (try simp only [zM, zN] at h) <;> try simp only [h]) | refine ⟨_, hbk, ?_⟩ | refine ⟨_, h1, ?_⟩ | refine ⟨_, h2, ?_⟩ | refine ⟨_, hup, ?_⟩ | refine ⟨_, h3, ?_⟩ | refine ⟨by omega, b, hb, ?_⟩ | refine Or.inl ?_) | (clear hK K))
    all_goals (refine ⟨k + 1, by omega, ⟨by omega, by omega, hok⟩, Gh.to [] (by repeat (first | exact trivial | refine ⟨rfl, ?_⟩ | refine ⟨by (simp only [go_sem, zA, zB, zC, zD, zE, zF, zG, reduceCtorEq, zH, zI, zJ, zK, zL, List.length_append, List.length_map, List.length_cons, List.length_nil, Nat.zero_add]) <;> rfl, ?_⟩)) (by repeat (first | exact trivial | refine ⟨rfl, ?_⟩ | refine ⟨by (simp only [go_sem, zA, zB, zC, zD, zE, zF, zG, reduceCtorEq, zH, zI, zJ, zK, zL, List.length_append, List.length_map, List.length_cons, List.length_nil, Nat.zero_add]) <;> rfl, ?_⟩)) rfl rfl rfl⟩)
   | false =>
    rw [hdg] at h2 hm
    cases h95 : decide ((c.toNat : Int) = 95) with
    | true =>
     rw [h95] at hm
     have hm : wordI b c.toNat = true := by rw [hm]; cases uppI b.toNat <;> cases uppI c.toNat <;> rfl
     rw [toW_yes hc hm] at hok
     repeat' (first | (simp only [go_sem, zA, zB, zC, zD, zE, zF, zG, reduceCtorEq, zH, zI, zJ, zK, zL, hw, h95]; all_goals fail_if_success guard_target =ₛ False) | (with_reducible first | ((first | refine seqVC_stepN rfl ?_ | refine seqVC_stepG rfl (by with_unfolding_all rfl) ?_ | refine AWP.seq ?_ | refine AWP.seqR (by kernel_rfl) ?_); intro K hK) | ((first | refine hK _ _ _ ?_ | refine hK _ _ ?_ | refine hK _ ?_); clear hK K) | refine seqVC_nil ?_ | refine AWP.block ?_ | (refine AWP.cond (by with_unfolding_all rfl) ?_ ?_ <;> intro h <;> (try simp only [zM, zN] at h) <;> try exact absurd h (by decide)) | refine AWP.skip ?_ | refine AWP.ret ?_ | refine AWP.exit ?_ | (refine ⟨fun h => ?_, fun h => ?_⟩ <;> (try simp only [zM, zN] at h) <;> try simp only [h]) | refine ⟨_, hbk, ?_⟩ | refine ⟨_, h1, ?_⟩ | refine ⟨_, h2, ?_⟩ | refine ⟨_, hup, ?_⟩ | refine ⟨_, h3, ?_⟩ | refine ⟨by omega, b, hb, ?_⟩ | refine Or.inl ?_) | (clear hK K))
     all_goals (refine ⟨k + 1, by omega, ⟨by omega, by omega, hok⟩, Gh.to [] (by repeat (first | exact trivial | refine ⟨rfl, ?_⟩ | refine ⟨by (simp only [go_sem, zA, zB, zC, zD, zE, zF, zG, reduceCtorEq, zH, zI, zJ, zK, zL, List.length_append, List.length_map, List.length_cons, List.length_nil, Nat.zero_add]) <;> rfl, ?_⟩)) (by repeat (first | exact trivial | refine ⟨rfl, ?_⟩ | refine ⟨by (simp only [go_sem, zA, zB, zC, zD, zE, zF, zG, reduceCtorEq, zH, zI, zJ, zK, zL, List.length_append, List.length_map, List.length_cons, List.length_nil, Nat.zero_add]) <;> rfl, ?_⟩)) rfl rfl rfl⟩)
    | false =>
     rw [h95] at hm
     cases hub : uppI b.toNat with
     | true =>
      rw [hub] at hup hm
      cases huc : uppI c.toNat with
      | true =>
       rw [huc] at h3 hm
       have hm : wordI b c.toNat = true := by rw [hm]; rfl
       rw [toW_yes hc hm] at hok
       repeat' (first | (simp only [go_sem, zA, zB, zC, zD, zE, zF, zG, reduceCtorEq, zH, zI, zJ, zK, zL, hw, h95]; all_goals fail_if_success guard_target =ₛ False) | (with_reducible first | ((first | refine seqVC_stepN rfl ?_ | refine seqVC_stepG rfl (by with_unfolding_all rfl) ?_ | refine AWP.seq ?_ | refine AWP.seqR (by kernel_rfl) ?_); intro K hK) | ((first | refine hK _ _ _ ?_ | refine hK _ _ ?_ | refine hK _ ?_); clear hK K) | refine seqVC_nil ?_ | refine AWP.block ?_ | (refine AWP.cond (by with_unfolding_all rfl) ?_ ?_ <;> intro h <;> (try simp only [zM, zN] at h) <;> try exact absurd h (by decide)) | refine AWP.skip ?_ | refine AWP.ret ?_ | refine AWP.exit ?_ | (refine ⟨fun h => ?_, fun h => ?_⟩ <;> (try simp only [zM, zN] at h) <;> try simp only [h]) | refine ⟨_, hbk, ?_⟩ | refine ⟨_, h1, ?_⟩ | refine ⟨_, h2, ?_⟩ | refine ⟨_, hup, ?_⟩ | refine ⟨_, h3, ?_⟩ | refine ⟨by omega, b, hb, ?_⟩ | refine Or.inl ?_) | (clear hK K))
       all_goals (refine ⟨k + 1, by omega, ⟨by omega, by omega, hok⟩, Gh.to [] (by repeat (first | exact trivial | refine ⟨rfl, ?_⟩ | refine ⟨by (simp only [go_sem, zA, zB, zC, zD, zE, zF, zG, reduceCtorEq, zH, zI, zJ, zK, zL, List.length_append, List.length_map, List.length_cons, List.length_nil, Nat.zero_add]) <;> rfl, ?_⟩)) (by repeat (first | exact trivial | refine ⟨rfl, ?_⟩ | refine ⟨by (simp only [go_sem, zA, zB, zC, zD, zE, zF, zG, reduceCtorEq, zH, zI, zJ, zK, zL, List.length_append, List.length_map, List.length_cons, List.length_nil, Nat.zero_add]) <;> rfl, ?_⟩)) rfl rfl rfl⟩)
      | false =>
       rw [huc] at h3 hm
       have hm : wordI b c.toNat = false := by rw [hm]; rfl
       rw [toW_no hc hm] at hok
       repeat' (first | (simp only [go_sem, zA, zB, zC, zD, zE, zF, zG, reduceCtorEq, zH, zI, zJ, zK, zL, hw, h95]; all_goals fail_if_success guard_target =ₛ False) | (with_reducible first | ((first | refine seqVC_stepN rfl ?_ | refine seqVC_stepG rfl (by with_unfolding_all rfl) ?_ | refine AWP.seq ?_ | refine AWP.seqR (by kernel_rfl) ?_); intro K hK) | ((first | refine hK _ _ _ ?_ | refine hK _ _ ?_ | refine hK _ ?_); clear hK K) | refine seqVC_nil ?_ | refine AWP.block ?_ | (refine AWP.cond (by with_unfolding_all rfl) ?_ ?_ <;> intro h <;> (try simp only [zM, zN] at h) <;> try exact absurd h (by decide)) | refine AWP.skip ?_ | refine AWP.ret ?_ | refine AWP.exit ?_ | (refine ⟨fun h => ?_, fun h => ?_⟩ <;> (try simp only [zM, zN] at h) <;> try simp only [h]) | refine ⟨_, hbk, ?_⟩ | refine ⟨_, h1, ?_⟩ | refine ⟨_, h2, ?_⟩ | refine ⟨_, hup, ?_⟩ | refine ⟨_, h3, ?_⟩ | refine ⟨by omega, b, hb, ?_⟩ | refine Or.inl ?_) | (clear hK K))
       rw [hok]
       all_goals (first | exact fun _ h => absurd h List.not_mem_nil | refine fin0 ?_)
       all_goals rfl
     | false =>
      rw [hub] at hup hm
      have hm : wordI b c.toNat = false := by rw [hm]; rfl
      rw [toW_no hc hm] at hok
      repeat' (first | (simp only [go_sem, zA, zB, zC, zD, zE, zF, zG, reduceCtorEq, zH, zI, zJ, zK, zL, hw, h95]; all_goals fail_if_success guard_target =ₛ False) | (with_reducible first | ((first | refine seqVC_stepN rfl ?_ | refine seqVC_stepG rfl (by with_unfolding_all rfl) ?_ | refine AWP.seq ?_ | refine AWP.seqR (by kernel_rfl) ?_); intro K hK) | ((first | refine hK _ _ _ ?_ | refine hK _ _ ?_ | refine hK _ ?_); clear hK K) | refine seqVC_nil ?_ | refine AWP.block ?_ | (refine AWP.cond (by with_unfolding_all rfl) ?_ ?_ <;> intro h <;> (try simp only [zM, zN] at h) <;> try exact absurd h (by decide)) | refine AWP.skip ?_ | refine AWP.ret ?_ | refine AWP.exit ?_ | (refine ⟨fun h => ?_, fun h => ?_⟩ <;> (try simp only [zM, zN] at h) <;> try simp only [h]) | refine ⟨_, hbk, ?_⟩ | refine ⟨_, h1, ?_⟩ | refine ⟨_, h2, ?_⟩ | refine ⟨_, hup, ?_⟩ | refine ⟨_, h3, ?_⟩ | refine ⟨by omega, b, hb, ?_⟩ | refine Or.inl ?_) | (clear hK K))
      rw [hok]
      all_goals (first | exact fun _ h => absurd h List.not_mem_nil | refine fin0 ?_)
      all_goals rfl
 ·rw [byteV_end (by omega)] at hbk
  rw [toW_end (s := s) (k := k) (by omega)] at hok
  have h1 := ref26lower_c 0
  have h2 := ref26digit_c 0
  have h3 := ref26upper_c 0
  rw [show lowI 0 = false by decide] at h1
  rw [show digI 0 = false by decide] at h2
  rw [show uppI 0 = false by decide] at h3
  cases hu : uppI b.toNat with
  | true =>
   rw [hu] at hup
   repeat' (first | (simp only [go_sem, zA, zB, zC, zD, zE, zF, zG, reduceCtorEq, zH, zI, zJ, zK, zL]; all_goals fail_if_success guard_target =ₛ False) | (with_reducible first | ((first | refine seqVC_stepN rfl ?_ | refine seqVC_stepG rfl (by with_unfolding_all rfl) ?_ | refine AWP.seq ?_ | refine AWP.seqR (by kernel_rfl) ?_); intro K hK) | ((first | refine hK _ _ _ ?_ | refine hK _ _ ?_ | refine hK _ ?_); clear hK K) | refine seqVC_nil ?_ | refine AWP.block ?_ | (refine AWP.cond (by with_unfolding_all rfl) ?_ ?_ <;> intro h <;> (try simp only [zM, zN] at h) <;> try exact absurd h (by decide)) | refine AWP.skip ?_ | refine AWP.ret ?_ | refine AWP.exit ?_ | (refine ⟨fun h => ?_, fun h => ?_⟩ <;> (try simp only [zM, zN] at h) <;> try simp only [h]) | refine ⟨_, hbk, ?_⟩ | refine ⟨_, h1, ?_⟩ | refine ⟨_, h2, ?_⟩ | refine ⟨_, hup, ?_⟩ | refine ⟨_, h3, ?_⟩ | refine ⟨by omega, b, hb, ?_⟩ | refine Or.inl ?_) | (clear hK K))
   rw [hok]
   all_goals (first | exact fun _ h => absurd h List.not_mem_nil | refine fin0 ?_)
   all_goals rfl
  | false =>
   rw [hu] at hup
   repeat' (first | (simp only [go_sem, zA, zB, zC, zD, zE, zF, zG, reduceCtorEq, zH, zI, zJ, zK, zL]; all_goals fail_if_success guard_target =ₛ False) | (with_reducible first | ((first | refine seqVC_stepN rfl ?_ | refine seqVC_stepG rfl (by with_unfolding_all rfl) ?_ | refine AWP.seq ?_ | refine AWP.seqR (by kernel_rfl) ?_); intro K hK) | ((first | refine hK _ _ _ ?_ | refine hK _ _ ?_ | refine hK _ ?_); clear hK K) | refine seqVC_nil ?_ | refine AWP.block ?_ | (refine AWP.cond (by with_unfolding_all rfl) ?_ ?_ <;> intro h <;> (try simp only [zM, zN] at h) <;> try exact absurd h (by decide)) | refine AWP.skip ?_ | refine AWP.ret ?_ | refine AWP.exit ?_ | (refine ⟨fun h => ?_, fun h => ?_⟩ <;> (try simp only [zM, zN] at h) <;> try simp only [h]) | refine ⟨_, hbk, ?_⟩ | refine ⟨_, h1, ?_⟩ | refine ⟨_, h2, ?_⟩ | refine ⟨_, hup, ?_⟩ | refine ⟨_, h3, ?_⟩ | refine ⟨by omega, b, hb, ?_⟩ | refine Or.inl ?_) | (clear hK K))
   rw [hok]
   all_goals (first | exact fun _ h => absurd h List.not_mem_nil | refine fin0 ?_)
   all_goals rfl
def rquoV (s : List UInt8) (i : Nat) : Int := match qAt s (i + 1) with
 | none => -1
 | some j => ((j + 1 : Nat) : Int)
theorem rquoted_c (s : List UInt8) (hs : s.length ≤ 1000000000) (i : Nat) (hi : i < s.length) :
  PC Tryz.prog 42 [S s, I .i64 i] (I .i64 (rquoV s i)) := by
 have hw0 := wk64 hi (show s.length ≤ 1000000000000 by omega)
 refine PCB.of_body Tryz.func42 rfl (by decide) Tryz.ntmps42 Tryz.results42 rfl rfl rfl ?_ rfl rfl
 repeat' (first | (simp only [go_sem, zA, zB, zC, zD, zE, zF, zG, reduceCtorEq, zH, zI, zJ, zK, zL, hw0]; all_goals fail_if_success guard_target =ₛ False) | (with_reducible first | ((first | refine seqVC_stepN rfl ?_ | refine AWP.seq ?_ | refine AWP.seqR (by kernel_rfl) ?_); intro K hK) | ((first | refine hK _ _ _ ?_ | refine hK _ _ ?_ | refine hK _ ?_); clear hK K) | refine seqVC_nil ?_ | refine AWP.block ?_ | (refine AWP.cond (by with_unfolding_all rfl) ?_ ?_ <;> intro h <;> (try simp only [zM, zN] at h) <;> try exact absurd h (by decide)) | refine AWP.skip ?_ | refine AWP.ret ?_ | refine AWP.exit ?_ | refine Or.inl ?_) | (clear hK K))
 refine AWP.loopF (X := Nat) (fun k => [(5, I .i64 (k : Nat))]) (fun k => []) [0] [] (fun k => i + 1 ≤ k ∧ k ≤ s.length + 1 ∧ qAt s (i + 1) = qAt s k) (fun k => s.length + 1 - k) (i + 1) (by simp only [go_sem, zA, zB, zC, zD, zE, zF, zG, reduceCtorEq, zH, zI, zJ, zK, zL]; exact Gh.to [] (by repeat (first | exact trivial | refine ⟨rfl, ?_⟩ | refine ⟨by (simp only [go_sem, zA, zB, zC, zD, zE, zF, zG, reduceCtorEq, zH, zI, zJ, zK, zL, List.length_append, List.length_map, List.length_cons, List.length_nil, Nat.zero_add]) <;> rfl, ?_⟩)) (by repeat (first | exact trivial | refine ⟨rfl, ?_⟩ | refine ⟨by (simp only [go_sem, zA, zB, zC, zD, zE, zF, zG, reduceCtorEq, zH, zI, zJ, zK, zL, List.length_append, List.length_map, List.length_cons, List.length_nil, Nat.zero_add]) <;> rfl, ?_⟩)) rfl rfl rfl) ?_ ?_
 ·exact ⟨Nat.le_refl _, by omega, rfl⟩
 rintro k ⟨hik, hks, hok⟩
 simp only [go_sem, zA, zB, zC, zD, zE, zF, zG, reduceCtorEq, zH, zI, zJ, zK, zL]
 by_cases hlt : k < s.length
 ·obtain ⟨c, hc⟩ := byte_at hlt
  have hd : decide ((k : Int) < (s.length : Int)) = true := by rw [decide_eq_true_eq]; omega
  have hw := wk64 hlt (show s.length ≤ 1000000000000 by omega)
  cases h9 : decide ((c.toNat : Int) = 92) with
  | true =>
   rw [qAt_esc hc h9] at hok
   have hw2 : IntKind.i64.wrap (((k + 1 : Nat) : Int) + 1) = ((k + 2 : Nat) : Int) := by rw [w64 (by omega)]; rfl
   repeat' (first | (simp only [go_sem, zA, zB, zC, zD, zE, zF, zG, reduceCtorEq, zH, zI, zJ, zK, zL, hd, h9, hw, hw2]; all_goals fail_if_success guard_target =ₛ False) | (with_reducible first | ((first | refine seqVC_stepN rfl ?_ | refine AWP.seq ?_ | refine AWP.seqR (by kernel_rfl) ?_); intro K hK) | ((first | refine hK _ _ _ ?_ | refine hK _ _ ?_ | refine hK _ ?_); clear hK K) | refine seqVC_nil ?_ | refine AWP.block ?_ | (refine AWP.cond (by with_unfolding_all rfl) ?_ ?_ <;> intro h <;> (try simp only [zM, zN] at h) <;> try exact absurd h (by decide)) | refine AWP.skip ?_ | refine AWP.ret ?_ | refine AWP.exit ?_ | refine ⟨by omega, c, hc, ?_⟩ | refine Or.inl ?_) | (clear hK K))
   all_goals (refine ⟨k + 2, by omega, ⟨by omega, by omega, hok⟩, Gh.to [] (by repeat (first | exact trivial | refine ⟨rfl, ?_⟩ | refine ⟨by (simp only [go_sem, zA, zB, zC, zD, zE, zF, zG, reduceCtorEq, zH, zI, zJ, zK, zL, List.length_append, List.length_map, List.length_cons, List.length_nil, Nat.zero_add]) <;> rfl, ?_⟩)) (by repeat (first | exact trivial | refine ⟨rfl, ?_⟩ | refine ⟨by (simp only [go_sem, zA, zB, zC, zD, zE, zF, zG, reduceCtorEq, zH, zI, zJ, zK, zL, List.length_append, List.length_map, List.length_cons, List.length_nil, Nat.zero_add]) <;> rfl, ?_⟩)) rfl rfl rfl⟩)
  | false =>
   cases h3 : decide ((c.toNat : Int) = 34) with
   | false =>
    rw [qAt_no hc h9 h3] at hok
    repeat' (first | (simp only [go_sem, zA, zB, zC, zD, zE, zF, zG, reduceCtorEq, zH, zI, zJ, zK, zL, hd, h9, h3, hw]; all_goals fail_if_success guard_target =ₛ False) | (with_reducible first | ((first | refine seqVC_stepN rfl ?_ | refine AWP.seq ?_ | refine AWP.seqR (by kernel_rfl) ?_); intro K hK) | ((first | refine hK _ _ _ ?_ | refine hK _ _ ?_ | refine hK _ ?_); clear hK K) | refine seqVC_nil ?_ | refine AWP.block ?_ | (refine AWP.cond (by with_unfolding_all rfl) ?_ ?_ <;> intro h <;> (try simp only [zM, zN] at h) <;> try exact absurd h (by decide)) | refine AWP.skip ?_ | refine AWP.ret ?_ | refine AWP.exit ?_ | refine ⟨by omega, c, hc, ?_⟩ | refine Or.inl ?_) | (clear hK K))
    all_goals (refine ⟨k + 1, by omega, ⟨by omega, by omega, hok⟩, Gh.to [] (by repeat (first | exact trivial | refine ⟨rfl, ?_⟩ | refine ⟨by (simp only [go_sem, zA, zB, zC, zD, zE, zF, zG, reduceCtorEq, zH, zI, zJ, zK, zL, List.length_append, List.length_map, List.length_cons, List.length_nil, Nat.zero_add]) <;> rfl, ?_⟩)) (by repeat (first | exact trivial | refine ⟨rfl, ?_⟩ | refine ⟨by (simp only [go_sem, zA, zB, zC, zD, zE, zF, zG, reduceCtorEq, zH, zI, zJ, zK, zL, List.length_append, List.length_map, List.length_cons, List.length_nil, Nat.zero_add]) <;> rfl, ?_⟩)) rfl rfl rfl⟩)
   | true =>
    rw [qAt_quote hc h9 h3] at hok
    repeat' (first | (simp only [go_sem, zA, zB, zC, zD, zE, zF, zG, reduceCtorEq, zH, zI, zJ, zK, zL, hd, h9, h3, hw]; all_goals fail_if_success guard_target =ₛ False) | (with_reducible first | ((first | refine seqVC_stepN rfl ?_ | refine AWP.seq ?_ | refine AWP.seqR (by kernel_rfl) ?_); intro K hK) | ((first | refine hK _ _ _ ?_ | refine hK _ _ ?_ | refine hK _ ?_); clear hK K) | refine seqVC_nil ?_ | refine AWP.block ?_ | (refine AWP.cond (by with_unfolding_all rfl) ?_ ?_ <;> intro h <;> (try simp only [zM, zN] at h) <;> try exact absurd h (by decide)) | refine AWP.skip ?_ | refine AWP.ret ?_ | refine AWP.exit ?_ | refine ⟨by omega, c, hc, ?_⟩ | refine Or.inl ?_) | (clear hK K))
    all_goals (simp only [rquoV, hok])
    all_goals (first | exact fun _ h => absurd h List.not_mem_nil | refine fin0 ?_)
    all_goals first | trivial | rfl
 ·have hd : decide ((k : Int) < (s.length : Int)) = false := by rw [decide_eq_false_iff_not]; omega
  rw [qAt_end (s := s) (k := k) (by omega)] at hok
  repeat' (first | (simp only [go_sem, zA, zB, zC, zD, zE, zF, zG, reduceCtorEq, zH, zI, zJ, zK, zL, hd]; all_goals fail_if_success guard_target =ₛ False) | (with_reducible first | ((first | refine seqVC_stepN rfl ?_ | refine AWP.seq ?_ | refine AWP.seqR (by kernel_rfl) ?_); intro K hK) | ((first | refine hK _ _ _ ?_ | refine hK _ _ ?_ | refine hK _ ?_); clear hK K) | refine seqVC_nil ?_ | refine AWP.block ?_ | (refine AWP.cond (by with_unfolding_all rfl) ?_ ?_ <;> intro h <;> (try simp only [zM, zN] at h) <;> try exact absurd h (by decide)) | refine AWP.skip ?_ | refine AWP.ret ?_ | refine AWP.exit ?_ | refine Or.inl ?_) | (clear hK K))
  all_goals (simp only [rquoV, hok])
  all_goals (first | exact fun _ h => absurd h List.not_mem_nil | refine fin0 ?_)
  all_goals first | trivial | rfl
/-- a hexadecimal digit's value, or -1 -/
theorem nibble_c (b : UInt8) : PC Tryz.prog 67 [I .u8 b.toNat] (I .i64 (hexVal b)) := by
 have h1 := ref1digit_c b.toNat
 have hb := UInt8.toNat_lt b
 cases hd : digI b.toNat with
 | true =>
  rw [hd] at h1
  have ⟨h2, h3⟩ := dig_bd hd
  have e : hexVal b = ((b.toNat - 48 : Nat) : Int) := by unfold hexVal Sx.nibI; rw [if_pos ⟨h2, h3⟩]
  have w1 : IntKind.u8.wrap ((b.toNat : Int) - 48) = ((b.toNat - 48 : Nat) : Int) := by simp [IntKind.wrap, IntKind.signed, IntKind.bits]; omega
  have w2 : IntKind.i64.wrap ((b.toNat - 48 : Nat) : Int) = ((b.toNat - 48 : Nat) : Int) := wrapId _ (by omega) (by omega)
  rw [e]
  generalize b.toNat - 48 = x at w1 w2
  refine PCB.of_body Tryz.func67 rfl (by decide) Tryz.ntmps67 Tryz.results67 rfl rfl rfl ?_ rfl rfl
  repeat' (first | (simp only [go_sem, zA, zB, zC, zD, zE, zF, zG, reduceCtorEq, zH, zI, zJ, zK, zL, w1, w2]; all_goals fail_if_success guard_target =ₛ False) | (with_reducible first | ((first | refine seqVC_stepN rfl ?_ | refine seqVC_stepG rfl (by with_unfolding_all rfl) ?_ | refine AWP.seq ?_ | refine AWP.seqR (by kernel_rfl) ?_); intro K hK) | ((first | refine hK _ _ _ ?_ | refine hK _ _ ?_ | refine hK _ ?_); clear hK K) | refine seqVC_nil ?_ | refine AWP.block ?_ | (refine AWP.cond (by with_unfolding_all rfl) ?_ ?_ <;> intro h <;> (try simp only [zM, zN] at h) <;> try exact absurd h (by decide)) | refine AWP.skip ?_ | refine AWP.ret ?_ | refine AWP.exit ?_ | (refine ⟨fun h => ?_, fun h => ?_⟩ <;> (try simp only [zM, zN] at h) <;> try simp only [h]) | refine ⟨_, h1, ?_⟩ | refine Or.inl ?_) | (clear hK K))
  all_goals (first | exact fun _ h => absurd h List.not_mem_nil | refine fin0 ?_)
  all_goals rfl
 | false =>
  rw [hd] at h1
  have hnd : ¬ (48 ≤ b.toNat ∧ b.toNat ≤ 57) := by
   intro ⟨h2, h3⟩
   have : digI b.toNat = true := by unfold digI; simp; omega
   rw [hd] at this; cases this
  cases ha : decide ((97 : Int) ≤ (b.toNat : Int)) with
  | false =>
   have e : hexVal b = -1 := by
    unfold hexVal Sx.nibI
    rw [if_neg hnd, if_neg (by simp at ha; omega)]
   rw [e]
   refine PCB.of_body Tryz.func67 rfl (by decide) Tryz.ntmps67 Tryz.results67 rfl rfl rfl ?_ rfl rfl
   repeat' (first | (simp only [go_sem, zA, zB, zC, zD, zE, zF, zG, reduceCtorEq, zH, zI, zJ, zK, zL, ha]; all_goals fail_if_success guard_target =ₛ False) | (with_reducible first | ((first | refine seqVC_stepN rfl ?_ | refine seqVC_stepG rfl (by with_unfolding_all rfl) ?_ | refine AWP.seq ?_ | refine AWP.seqR (by kernel_rfl) ?_); intro K hK) | ((first | refine hK _ _ _ ?_ | refine hK _ _ ?_ | refine hK _ ?_); clear hK K) | refine seqVC_nil ?_ | refine AWP.block ?_ | (refine AWP.cond (by with_unfolding_all rfl) ?_ ?_ <;> intro h <;> (try simp only [zM, zN] at h) <;> try exact absurd h (by decide)) | refine AWP.skip ?_ | refine AWP.ret ?_ | refine AWP.exit ?_ | (refine ⟨fun h => ?_, fun h => ?_⟩ <;> (try simp only [zM, zN] at h) <;> try simp only [h]) | refine ⟨_, h1, ?_⟩ | refine Or.inl ?_) | (clear hK K))
   all_goals (first | exact fun _ h => absurd h List.not_mem_nil | refine fin0 ?_)
   all_goals rfl
  | true =>
   cases hz : decide ((b.toNat : Int) ≤ 102) with
   | false =>
    have e : hexVal b = -1 := by
     unfold hexVal Sx.nibI
     rw [if_neg hnd, if_neg (by simp at hz; omega)]
    rw [e]
    refine PCB.of_body Tryz.func67 rfl (by decide) Tryz.ntmps67 Tryz.results67 rfl rfl rfl ?_ rfl rfl
    repeat' (first | (simp only [go_sem, zA, zB, zC, zD, zE, zF, zG, reduceCtorEq, zH, zI, zJ, zK, zL, ha, hz]; all_goals fail_if_success guard_target =ₛ False) | (with_reducible first | ((first | refine seqVC_stepN rfl ?_ | refine seqVC_stepG rfl (by with_unfolding_all rfl) ?_ | refine AWP.seq ?_ | refine AWP.seqR (by kernel_rfl) ?_); intro K hK) | ((first | refine hK _ _ _ ?_ | refine hK _ _ ?_ | refine hK _ ?_); clear hK K) | refine seqVC_nil ?_ | refine AWP.block ?_ | (refine AWP.cond (by with_unfolding_all rfl) ?_ ?_ <;> intro h <;> (try simp only [zM, zN] at h) <;> try exact absurd h (by decide)) | refine AWP.skip ?_ | refine AWP.ret ?_ | refine AWP.exit ?_ | (refine ⟨fun h => ?_, fun h => ?_⟩ <;> (try simp only [zM, zN] at h) <;> try simp only [h]) | refine ⟨_, h1, ?_⟩ | refine Or.inl ?_) | (clear hK K))
    all_goals (first | exact fun _ h => absurd h List.not_mem_nil | refine fin0 ?_)
    all_goals rfl
   | true =>
    simp only [decide_eq_true_eq] at ha hz
    have e : hexVal b = ((b.toNat - 87 : Nat) : Int) := by unfold hexVal Sx.nibI; rw [if_neg hnd, if_pos (by omega)]
    have w1 : IntKind.u8.wrap ((b.toNat : Int) - 97) = ((b.toNat - 97 : Nat) : Int) := by simp [IntKind.wrap, IntKind.signed, IntKind.bits]; omega
    have w2 : IntKind.i64.wrap ((b.toNat - 97 : Nat) : Int) = ((b.toNat - 97 : Nat) : Int) := wrapId _ (by omega) (by omega)
    have w3 : IntKind.i64.wrap (((b.toNat - 97 : Nat) : Int) + 10) = ((b.toNat - 87 : Nat) : Int) := by rw [wrapId _ (by omega) (by omega)]; omega
    have ha : decide ((97 : Int) ≤ (b.toNat : Int)) = true := by simpa using ha
    have hz : decide ((b.toNat : Int) ≤ 102) = true := by simpa using hz
    rw [e]
    refine PCB.of_body Tryz.func67 rfl (by decide) Tryz.ntmps67 Tryz.results67 rfl rfl rfl ?_ rfl rfl
    repeat' (first | (simp only [go_sem, zA, zB, zC, zD, zE, zF, zG, reduceCtorEq, zH, zI, zJ, zK, zL, ha, hz, w1, w2, w3]; all_goals fail_if_success guard_target =ₛ False) | (with_reducible first | ((first | refine seqVC_stepN rfl ?_ | refine seqVC_stepG rfl (by with_unfolding_all rfl) ?_ | refine AWP.seq ?_ | refine AWP.seqR (by kernel_rfl) ?_); intro K hK) | ((first | refine hK _ _ _ ?_ | refine hK _ _ ?_ | refine hK _ ?_); clear hK K) | refine seqVC_nil ?_ | refine AWP.block ?_ | (refine AWP.cond (by with_unfolding_all rfl) ?_ ?_ <;> intro h <;> (try simp only [zM, zN] at h) <;> try exact absurd h (by decide)) | refine AWP.skip ?_ | refine AWP.ret ?_ | refine AWP.exit ?_ | (refine ⟨fun h => ?_, fun h => ?_⟩ <;> (try simp only [zM, zN] at h) <;> try simp only [h]) | refine ⟨_, h1, ?_⟩ | refine Or.inl ?_) | (clear hK K))
    all_goals (first | exact fun _ h => absurd h List.not_mem_nil | refine fin0 ?_)
    all_goals rfl
end Go.Proofs.YtogponhonjiidaaGreatDoor

