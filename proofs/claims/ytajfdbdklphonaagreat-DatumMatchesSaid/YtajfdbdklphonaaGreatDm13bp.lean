/- Lemmas; conditions: as each states. -/
import Derived.Test.YtajfdbdklphonaaGreatDm13a
open Go.Proofs.Tryz renaming prog → zP
open List renaming length_map → lB, take_length → lK, drop_length → lL, mem_of_getElem? → lP
open Go.Sx.AWP renaming range → xC, lenB → xE
open Nat renaming reduceBEq → D, reduceBNe → E, reduceAdd → H, reduceSub → J, reduceMul → N, reduceLeDiff → O, reduceLT → U, reduceEqDiff → V
open Int renaming reduceToNat → W, reduceLE → Y, reduceLT → Z, reduceEq → zL
open Bool renaming not_eq_true' → zM, not_eq_false' → zN
set_option linter.unusedVariables false
set_option linter.unusedSimpArgs false
set_option maxRecDepth 20000
set_option maxHeartbeats 16000000
namespace Go.Proofs.YtajfdbdklphonaaGreat
open Go Go.Sx
theorem indexKey_c (l : List KeyD) (s : KeyD) : PC zP 48 [.one (.dat (.sl 2 (l.map encKey))), .st (encKey s)] (I .i64 (findI (fun x => sameK s x) 0 l)) := by
 refine PCB.ob Tryz.func48 Tryz.ntmps48 Tryz.results48 ?_
 repeat' (first | (simp only [go_sem, D, E, H, J, N, O, U, reduceCtorEq, V, W, Y, Z, zL, lB] <;> refine nf ?_) | (refine stp ?_; intro K hK) | (apply hK; clear hK K) | refine stn ?_ | fail)
 refine AWP.len 0 rfl fun hlen0 => ?_
 (try rw [lB] at hlen0)
 refine xC (S := Unit) (l) encKey (fun k s => (8, I .i64 (k : Nat)) :: []) (fun k s => []) [0, 3, 7] [3] (fun k u => findI (fun x => sameK s x) 0 l = findI (fun x => sameK s x) k (l.drop k)) (()) (by refine st ?_; exact Gh.ts []) ?_ ?_ ?_
 ·rfl
 ·intro k u x hlt hx hx' hb hok
  refine st ?_
  rw [findI_drop _ l k x hx] at hok
  cases hz : sameK s x <;> simp only [hz, cT, cF] at hok
  ·
   repeat' (first | (simp only [go_sem, D, E, H, J, N, O, U, reduceCtorEq, V, W, Y, Z, zL, lB, hb, hz] <;> refine nf ?_) | (refine stp ?_; intro K hK) | (apply hK; clear hK K) | refine stn ?_ | (with_reducible refine ⟨by omega, encKey x, hx', ?_⟩) | (refine stp' ?_; intro K hK) | (clear hK K))
   all_goals (rw [wrap_succ hlt hlen0])
   all_goals (refine ⟨(), ?_, Gh.ts []⟩)
   all_goals exact hok
  ·
   repeat' (first | (simp only [go_sem, D, E, H, J, N, O, U, reduceCtorEq, V, W, Y, Z, zL, lB, hb, hz] <;> refine nf ?_) | (refine stp ?_; intro K hK) | (apply hK; clear hK K) | refine stn ?_ | (with_reducible refine ⟨by omega, encKey x, hx', ?_⟩) | (refine stp' ?_; intro K hK) | (clear hK K))
   all_goals (first | exact lf | (refine fin0 ?_; simp only [hok, zb, cT, cF, dT, dF] <;> rfl))
 intro s0 hb0 hok0
 refine st ?_
 rw [lL] at hok0
 repeat' (first | (simp only [go_sem, D, E, H, J, N, O, U, reduceCtorEq, V, W, Y, Z, zL, lB, hb0] <;> refine nf ?_) | (refine stp ?_; intro K hK) | (apply hK; clear hK K) | refine stn ?_ | (clear hK K))
 all_goals (refine fin0 ?_; rw [hok0]; rfl)
theorem place_c (l : List KeyD) (s : KeyD) : PC zP 126 [.one (.dat (.sl 2 (l.map encKey))), .st (encKey s)] (I .i64 (findI (fun x => sameK s x) 0 l)) := by
 refine PCB.ob Tryz.func126 Tryz.ntmps126 Tryz.results126 ?_
 repeat' (first | (simp only [go_sem, D, E, H, J, N, O, U, reduceCtorEq, V, W, Y, Z, zL, lB] <;> refine nf ?_) | (refine stp ?_; intro K hK) | (apply hK; clear hK K) | refine stn ?_ | fail)
 refine AWP.len 0 rfl fun hlen0 => ?_
 (try rw [lB] at hlen0)
 refine xC (S := Unit) (l) encKey (fun k s => (5, I .i64 (k : Nat)) :: []) (fun k s => []) [0, 3] [3] (fun k u => findI (fun x => sameK s x) 0 l = findI (fun x => sameK s x) k (l.drop k)) (()) (by refine st ?_; exact Gh.ts []) ?_ ?_ ?_
 ·rfl
 ·intro k u x hlt hx hx' hb hok
  refine st ?_
  rw [findI_drop _ l k x hx] at hok
  cases hz : sameK s x <;> simp only [hz, cT, cF] at hok <;> rw [sameK_comm] at hz
  ·
   repeat' (first | (simp only [go_sem, D, E, H, J, N, O, U, reduceCtorEq, V, W, Y, Z, zL, lB, hb, hz] <;> refine nf ?_) | (refine stp ?_; intro K hK) | (apply hK; clear hK K) | refine stn ?_ | (with_reducible refine ⟨by omega, encKey x, hx', ?_⟩) | (refine stp' ?_; intro K hK) | (clear hK K))
   all_goals (rw [wrap_succ hlt hlen0])
   all_goals (refine ⟨(), ?_, Gh.ts []⟩)
   all_goals exact hok
  ·
   repeat' (first | (simp only [go_sem, D, E, H, J, N, O, U, reduceCtorEq, V, W, Y, Z, zL, lB, hb, hz] <;> refine nf ?_) | (refine stp ?_; intro K hK) | (apply hK; clear hK K) | refine stn ?_ | (with_reducible refine ⟨by omega, encKey x, hx', ?_⟩) | (refine stp' ?_; intro K hK) | (clear hK K))
   all_goals (first | exact lf | (refine fin0 ?_; simp only [hok, zb, cT, cF, dT, dF] <;> rfl))
 intro s0 hb0 hok0
 refine st ?_
 rw [lL] at hok0
 repeat' (first | (simp only [go_sem, D, E, H, J, N, O, U, reduceCtorEq, V, W, Y, Z, zL, lB, hb0] <;> refine nf ?_) | (refine stp ?_; intro K hK) | (apply hK; clear hK K) | refine stn ?_ | (clear hK K))
 all_goals (refine fin0 ?_; rw [hok0]; rfl)
theorem find_any {α : Type} (p : α → Bool) (l : List α) : decide (0 ≤ findI p 0 l) = l.any p := by rw [← Bool.coe_iff_coe]; simpa using findI_any p l 0
theorem containsKey_c (l : List KeyD) (s : KeyD) : PC zP 108 [.one (.dat (.sl 2 (l.map encKey))), .st (encKey s)] (Bo (l.any fun x => sameK s x)) := by
 have h := indexKey_c l s
 refine PCB.ob Tryz.func108 Tryz.ntmps108 Tryz.results108 ?_
 repeat' (first | (simp only [go_sem, D, E, H, J, N, O, U, reduceCtorEq, V, W, Y, Z, zL] <;> refine nf ?_) | (refine stp ?_; intro K hK) | (apply hK; clear hK K) | refine stn ?_ | (with_reducible refine ⟨_, h, ?_⟩) | refine stq ?_ | fail)
 all_goals (refine fin0 ?_; rw [find_any])
theorem containsKey_e (l : List KeyD) (s : KeyD) : PC zP 108 [.one (.dat (.sl 2 (l.map encKey))), .st [.int .i64 s.kind, .str s.text]] (Bo (l.any fun x => sameK s x)) := containsKey_c l s
theorem place_e (l : List KeyD) (s : KeyD) : PC zP 126 [.one (.dat (.sl 2 (l.map encKey))), .st [.int .i64 s.kind, .str s.text]] (I .i64 (findI (fun x => sameK s x) 0 l)) := place_c l s
def testV (g : Grd) (v : Val) : Bool :=
 bif decide (g.kind = 5) then decide (v.kind = 1) else
 bif decide (g.kind = 6) then decide (v.kind = 2) else
 bif decide (g.kind = 7) then decide (v.kind = 3) else
 bif decide (g.kind = 8) then decide (v.kind = 4) else
 bif decide (g.kind = 9) then decide (v.kind = 5) || decide (v.kind = 7) else
 bif decide (g.kind = 10) then decide (v.kind = 6) && decide ((v.kids.length : Int) = g.num) else
 bif decide (g.kind = 11) then decide (v.kind = 8) else
 bif decide (g.kind = 12) then decide (v.kind = 9) && decide (v.num = g.num) else
 bif decide (g.kind = 13) then decide (v.kind = 1) && decide (v.num = g.num) else
 bif decide (g.kind = 14) then decide (v.kind = 2) && decide (v.text = g.text) else
 bif decide (g.kind = 15) then decide (v.kind = 3) && decide (v.text = g.text) else
 bif decide (g.kind = 16) then decide (v.kind = 1) && decide (v.num < g.num) else
 decide (v.kind = 8) && v.keys.any fun x => sameK g.key x
theorem testKinds {k : Int} (h : testG k = true) : k = 5 ∨ k = 6 ∨ k = 7 ∨ k = 8 ∨ k = 9 ∨ k = 10 ∨ k = 11 ∨ k = 12 ∨ k = 13 ∨ k = 14 ∨ k = 15 ∨ k = 16 ∨ k = 17 := by
 unfold testG at h; simp only [Bool.and_eq_true, decide_eq_true_eq] at h; omega
theorem tested_c (g : Grd) (v : Val) (ht : testG g.kind = true) : PC zP 82 [Gt g, .st (encVal v)] (Bo (testV g v)) := by
 rcases testKinds ht with hk | hk | hk | hk | hk | hk | hk | hk | hk | hk | hk | hk | hk
 iterate 13
  ·
   refine PCB.ob Tryz.func82 Tryz.ntmps82 Tryz.results82 ?_
   repeat' (first | (simp only [go_sem, D, E, H, J, N, O, U, reduceCtorEq, V, W, Y, Z, zL, encG_eq g, encVal_eq v, hk, lB] <;> refine nf ?_) | (refine stp ?_; intro K hK) | (apply hK; clear hK K) | refine stn ?_ | (refine ⟨fun h => ?_, fun h => ?_⟩ <;> (try simp only [zM, zN] at h) <;> try simp only [h]) | (with_reducible refine ⟨_, containsKey_e _ _, ?_⟩) | refine stq ?_ | (clear hK K))
   all_goals (first | exact lf | (refine fin0 ?_; simp only [testV, hk, Int.reduceEq, *, zb, cT, cF, dT, dF] <;> rfl))
theorem test_c (g : Grd) (v : Val) (ht : testG g.kind = true) : PC zP 129 [Gt g, .st (encVal v)] (Bo (testV g v)) := by
 rcases testKinds ht with hk | hk | hk | hk | hk | hk | hk | hk | hk | hk | hk | hk | hk
 iterate 12
  ·
   refine PCB.ob Tryz.func129 Tryz.ntmps129 Tryz.results129 ?_
   repeat' (first | (simp only [go_sem, D, E, H, J, N, O, U, reduceCtorEq, V, W, Y, Z, zL, encG_eq g, encVal_eq v, hk, lB] <;> refine nf ?_) | (refine stp ?_; intro K hK) | (apply hK; clear hK K) | refine stn ?_ | (refine ⟨fun h => ?_, fun h => ?_⟩ <;> (try simp only [zM, zN] at h) <;> try simp only [h]) | (clear hK K))
   all_goals (first | exact lf | (refine fin0 ?_; simp only [testV, hk, Int.reduceEq, *, zb, cT, cF, dT, dF] <;> rfl))
 ·
  refine PCB.ob Tryz.func129 Tryz.ntmps129 Tryz.results129 ?_
  repeat' (first | (simp only [go_sem, D, E, H, J, N, O, U, reduceCtorEq, V, W, Y, Z, zL, encG_eq g, encVal_eq v, hk, lB, find_any] <;> refine nf ?_) | (refine stp ?_; intro K hK) | (apply hK; clear hK K) | refine stn ?_ | (refine ⟨fun h => ?_, fun h => ?_⟩ <;> (try simp only [zM, zN] at h) <;> try simp only [h]) | (with_reducible refine ⟨_, place_e _ _, ?_⟩) | refine stq ?_ | (clear hK K))
  all_goals (first | exact lf | (refine fin0 ?_; simp only [testV, hk, Int.reduceEq, *, zb, cT, cF, dT, dF] <;> rfl))
abbrev Ns (ns : List (List UInt8)) : T := .one (.dat (.sl 1 (ns.map encStr)))
abbrev Vs (vs : List Val) : T := .one (.dat (.sl 7 (vs.map encVal)))
def atV (vs : List Val) (g : Grd) (i : Int) : Bool :=
 decide (0 ≤ i) && (decide (i < (vs.length : Int)) && (match vs[i.toNat]? with
  | some v => treeB v && testV g v
  | none => false))
def nameAt (ns : List (List UInt8)) (g : Grd) : Int := findI (fun x => decide (g.name = x)) 0 ns
mutual
def evG (ns : List (List UInt8)) (vs : List Val) : Grd → Bool
 | ⟨kind, name, num, text, key, kids⟩ =>
  bif decide (kind = 1) then true else
  bif decide (kind = 2) then evAll ns vs kids else
  bif decide (kind = 3) then evAny ns vs kids else
  bif decide (kind = 4) then !evHd ns vs kids else
  atV vs ⟨kind, name, num, text, key, kids⟩ (nameAt ns ⟨kind, name, num, text, key, kids⟩)
def evAll (ns : List (List UInt8)) (vs : List Val) : List Grd → Bool
 | [] => true
 | g :: l => evG ns vs g && evAll ns vs l
def evAny (ns : List (List UInt8)) (vs : List Val) : List Grd → Bool
 | [] => false
 | g :: l => evG ns vs g || evAny ns vs l
def evHd (ns : List (List UInt8)) (vs : List Val) : List Grd → Bool
 | [] => false
 | g :: _ => evG ns vs g
end
theorem evAll_all (ns : List (List UInt8)) (vs : List Val) : ∀ l : List Grd, evAll ns vs l = l.all (evG ns vs)
 | [] => by simp only [evAll, List.all_nil]
 | g :: l => by simp only [evAll, List.all_cons, evAll_all ns vs l]
theorem evAny_any (ns : List (List UInt8)) (vs : List Val) : ∀ l : List Grd, evAny ns vs l = l.any (evG ns vs)
 | [] => by simp only [evAny, List.any_nil]
 | g :: l => by simp only [evAny, List.any_cons, evAny_any ns vs l]
theorem evG_eq (ns : List (List UInt8)) (vs : List Val) (g : Grd) : evG ns vs g = bif decide (g.kind = 1) then true else bif decide (g.kind = 2) then g.kids.all (evG ns vs) else bif decide (g.kind = 3) then g.kids.any (evG ns vs) else bif decide (g.kind = 4) then !evHd ns vs g.kids else atV vs g (nameAt ns g) := by
 cases g; simp only [evG, evAll_all, evAny_any]
theorem kindsV {g : Grd} (h : vG g = true) : g.kind = 1 ∨ g.kind = 2 ∨ g.kind = 3 ∨ (g.kind = 4 ∧ ∃ k, g.kids = [k]) ∨ (testG g.kind = true ∧ decide (g.kind = 1) = false ∧ decide (g.kind = 2) = false ∧ decide (g.kind = 3) = false ∧ decide (g.kind = 4) = false) := by
 have hb : bodyG g = true := by unfold vG at h; simp only [Bool.and_eq_true] at h; exact h.2
 by_cases h1 : g.kind = 1
 ·exact .inl h1
 by_cases h2 : g.kind = 2
 ·exact .inr (.inl h2)
 by_cases h3 : g.kind = 3
 ·exact .inr (.inr (.inl h3))
 by_cases h4 : g.kind = 4
 ·refine .inr (.inr (.inr (.inl ⟨h4, ?_⟩)))
  simp only [bodyG, h4, decide_eq_true_eq, show decide ((4 : Int) = 1) = false from rfl, show decide ((4 : Int) = 2) = false from rfl, show decide ((4 : Int) = 3) = false from rfl, show decide ((4 : Int) = 4) = true from rfl, cF, cT, Bool.or_false] at hb
  match hk : g.kids, hb with
  | [k], _ => exact ⟨k, rfl⟩
  | [], hb => simp at hb
  | _ :: _ :: _, hb => simp at hb; omega
 ·have e1 : decide (g.kind = 1) = false := by simpa using h1
  have e2 : decide (g.kind = 2) = false := by simpa using h2
  have e3 : decide (g.kind = 3) = false := by simpa using h3
  have e4 : decide (g.kind = 4) = false := by simpa using h4
  refine .inr (.inr (.inr (.inr ⟨?_, e1, e2, e3, e4⟩)))
  simp only [bodyG, e1, e2, e3, e4, cF, Bool.or_false, Bool.and_eq_true] at hb
  exact hb.1
theorem tree_kid {g k : Grd} (h : treeG g = true) (hk : k ∈ g.kids) : treeG k = true := by
 rw [treeG_eq, Bool.and_eq_true, List.all_eq_true] at h
 exact h.2 k hk
theorem tree_v {g : Grd} (h : treeG g = true) : vG g = true := by
 rw [treeG_eq, Bool.and_eq_true] at h
 exact h.1
theorem find_cases {α : Type} (p : α → Bool) : ∀ (l : List α) (k : Nat), findI p k l = -1 ∨ ∃ n : Nat, findI p k l = n ∧ k ≤ n ∧ n < k + l.length
 | [], k => .inl rfl
 | x :: l, k => by
  simp only [findI]
  cases p x
  ·rcases find_cases p l (k + 1) with h | ⟨n, h, h1, h2⟩
   ·exact .inl h
   ·exact .inr ⟨n, h, by omega, by simp only [List.length_cons]; omega⟩
  ·exact .inr ⟨k, rfl, by omega, by simp only [List.length_cons]; omega⟩
theorem place_cases (ns : List (List UInt8)) (vs : List Val) (g : Grd) : nameAt ns g = -1 ∨ (∃ n : Nat, nameAt ns g = n ∧ n < ns.length ∧ ¬ n < vs.length) ∨ ∃ n : Nat, nameAt ns g = n ∧ n < ns.length ∧ n < vs.length := by
 unfold nameAt
 rcases find_cases (fun x => decide (g.name = x)) ns 0 with h | ⟨n, h, _, h2⟩
 ·exact .inl h
 ·by_cases hv : n < vs.length
  ·exact .inr (.inr ⟨n, h, by omega, hv⟩)
  ·exact .inr (.inl ⟨n, h, by omega, hv⟩)
end Go.Proofs.YtajfdbdklphonaaGreat