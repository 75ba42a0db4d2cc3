/- Lemmas; conditions: as each states. -/
import Derived.Test.YtajfdbdklphonaaGreatDm9a
open Go.Proofs.Tryz renaming prog → zP
open List renaming length_map → lB, map_cons → lE, mem_singleton → lN, mem_of_getElem? → lP
open Go.Sx.AWP renaming range → xC, gh → xD, len → xF
open Nat renaming reduceBEq → zA, reduceBNe → zB, reduceAdd → zC, reduceSub → zD, reduceMul → zE, reduceLeDiff → zF, reduceLT → zG, reduceEqDiff → zH
open Int renaming reduceToNat → zI, reduceLE → zJ, reduceLT → zK, reduceEq → zL
set_option linter.unusedVariables false
set_option linter.unusedSimpArgs false
set_option maxRecDepth 20000
set_option maxHeartbeats 4000000
namespace Go.Proofs.YtajfdbdklphonaaGreat
open Go Go.Sx
abbrev onesB (n : Nat) : Nat × Res := (900, .row 1 ((List.replicate n (1 : Int)).map encInt))
abbrev arrB (n : Nat) : Nat × Res := (75, .cells [.dat (.int .i64 14), .dat (.int .i64 0), .dat (.int .i64 0), .dat (.str []), .own 900 n, .dat (.nil 4), .dat (.int .i64 0), .dat (.int .i64 0), .dat (.int .i64 2), .dat (.int .i64 0), .dat (.int .i64 0), .dat (.str []), .dat (.nil 1), .dat (.nil 4), .dat (.int .i64 0), .dat (.int .i64 0)])
theorem ones_snoc (k : Nat) : (List.replicate k (1 : Int)).map encInt ++ [[C.int .i64 1]] = (List.replicate (k + 1) (1 : Int)).map encInt := by simp [List.replicate_succ', encInt]
theorem made_c7 (d : Nat) (hd : d ≤ 1000) (IH : MadeC 0) (s : Src) (hs : s.ok) (hk : nextV s 12 = 7) :
    PCB zP 4 [Sp pin, I .i64 (d + 1 : Nat)] [(pin, srcB s)] (Dt (made (d + 1) s).1) [(pin, srcB (made (d + 1) s).2)] := by
  have hM : made (d + 1) s = bif decide ((made0 (nextS s 12)).1.kind = 9) then (wrapD (made0 (nextS s 12)).1, (made0 (nextS s 12)).2) else made0 (nextS s 12) := by
    simp only [made, hk]; rfl
  rw [hM]
  refine PCB.ob Tryz.func4 Tryz.ntmps4 Tryz.results4 ?_
  refine AWP.ghQ ?_
  have hs1 := ok_next hs 12
  have hgt : decide ((6 : Int) < 7) = true := by decide
  have hd0 : decide (((d + 1 : Nat) : Int) = 0) = false := by simp; omega
  cases h9 : decide ((made0 (nextS s 12)).1.kind = 9) with
  | false =>
    repeat' (first | (simp only [go_sem, zA, zB, zC, zD, zE, zF, zG, reduceCtorEq, zH, zI, zJ, zK, zL, pin, hk, hgt, hd0, h9, made] <;> refine nf ?_) | (refine stp ?_; intro K hK) | (apply hK; clear hK K) | refine stn ?_ | (refine ⟨1000000, _, _, _, next_k 1000000 _ (by repeat (first | with_reducible exact hs | with_reducible refine ok_next ?_ _)) _ (by omega), rfl, ?_⟩) | (refine ⟨1000000, _, _, _, IH.k 1000000 (nextS s 12) hs1, rfl, ?_⟩) | (clear hK K))
    all_goals (refine ⟨_, Gh.refl _, ?_⟩)
    all_goals simp only [go_sem, zA, zB, zC, zD, zE, zF, zG, reduceCtorEq, zH, zI, zJ, zK, zL]
    all_goals (intro x hx)
    all_goals (simp only [lN] at hx; subst hx; simp [pin])
  | true =>
    have hnum := made0_fun (nextS s 12) (by simpa using h9)
    repeat' (first | (simp only [go_sem, zA, zB, zC, zD, zE, zF, zG, reduceCtorEq, zH, zI, zJ, zK, zL, pin, hk, hgt, hd0, h9, made] <;> refine nf ?_) | (refine stp ?_; intro K hK) | (apply hK; clear hK K) | refine stn ?_ | (with_reducible (refine Or.inr (show vBuildOwn _ 75 _ _ _ _ _ _ from ?_); unfold vBuildOwn; with_reducible refine Or.inl ?_; simp only [vBuildArr, go_sem, zA, zB, zC, zD, zE, zF, zG, reduceCtorEq, zH, zI, zJ, zK, zL, pin, hk, hgt, hd0, h9, made])) | (refine ⟨1000000, _, _, _, next_k 1000000 _ (by repeat (first | with_reducible exact hs | with_reducible refine ok_next ?_ _)) _ (by omega), rfl, ?_⟩) | (refine ⟨1000000, _, _, _, IH.k 1000000 (nextS s 12) hs1, rfl, ?_⟩) | fail)
    refine xD (Gh.nilcell 75 4 900 rfl rfl rfl (by simp only [go_sem, zA, zB, zC, zD, zE, zF, zG, reduceCtorEq, zH, zI, zJ, zK, zL]) (by simp only [go_sem, zA, zB, zC, zD, zE, zF, zG, reduceCtorEq, zH, zI, zJ, zK, zL])) ?_
    refine AWP.loopS (X := Nat × Unit) (fun x => [(8, I .i64 x.1), (0, Sp 1000000), (1, I .i64 (d + 1 : Nat)), (4, Sp 4), (6, Sp 6), (7, Sp 7)])
      (fun x => [(1000000, srcB (made0 (nextS s 12)).2), (4, zeroB), (6, .cells ((encDat (made0 (nextS s 12)).1).map .dat)), (7, .cells [.arr 75 2, .dat (.int .i64 0)]), arrB x.1, onesB x.1])
      (fun x => (x.1 : Int) ≤ (made0 (nextS s 12)).1.num + 1) (fun x => 4 - x.1) (0, ()) ?_ (by simp only; omega) ?_
    · refine Gh.tt []
    rintro ⟨k, u⟩ hk1
    simp only at hk1
    by_cases hlt : (k : Int) ≤ (made0 (nextS s 12)).1.num
    · have hb : decide ((k : Int) ≤ (made0 (nextS s 12)).1.num) = true := by simpa using hlt
      repeat' (first | (simp only [go_sem, zA, zB, zC, zD, zE, zF, zG, reduceCtorEq, zH, zI, zJ, zK, zL, lB, hb, ones_snoc, List.length_replicate] <;> refine nf ?_) | (refine stp ?_; intro K hK) | (apply hK; clear hK K) | refine stn ?_ | (with_reducible refine ⟨by omega, ?_⟩) | (with_reducible refine AWP.genR (id := 25) [6,8,11] [75,900] mixed (by kernel_rfl) fun K hK => ?_; simp only [Bx.outs, Bx.drop, cond_true, cond_false, Nat.reduceBEq, go_sem]) | (clear hK K))
      all_goals (rw [wrap_succ (m := 4) (by omega) (by omega)])
      all_goals (refine ⟨(k + 1, ()), by simp only; omega, by simp only; omega, Gh.tt [(900, 91)]⟩)
    · have hb : decide ((k : Int) ≤ (made0 (nextS s 12)).1.num) = false := by simpa using hlt
      repeat' (first | (simp only [go_sem, zA, zB, zC, zD, zE, zF, zG, reduceCtorEq, zH, zI, zJ, zK, zL, lB, hb] <;> refine nf ?_) | (refine stp ?_; intro K hK) | (apply hK; clear hK K) | refine stn ?_ | refine stq ?_ | (clear hK K))
      refine GhQ.step (Gh.freeze 900 rfl rfl (by simp only [go_sem, zA, zB, zC, zD, zE, zF, zG, reduceCtorEq, zH, zI, zJ, zK, zL, lB, List.length_replicate]) (by simp only [go_sem, zA, zB, zC, zD, zE, zF, zG, reduceCtorEq, zH, zI, zJ, zK, zL, lB, List.length_replicate])) ?_
      simp only [go_sem, zA, zB, zC, zD, zE, zF, zG, reduceCtorEq, zH, zI, zJ, zK, zL, lB, List.length_replicate]
      refine GhQ.step (Gh.freezeA 75 8 [encNode (node14 k), encNode node2] rfl (by rfl) (by rfl) (by simp [maxLen]) rfl (by simp only [go_sem, zA, zB, zC, zD, zE, zF, zG, reduceCtorEq, zH, zI, zJ, zK, zL]) (by simp only [go_sem, zA, zB, zC, zD, zE, zF, zG, reduceCtorEq, zH, zI, zJ, zK, zL])) ?_
      have ek : ((made0 (nextS s 12)).1.num + 1).toNat = k := by omega
      refine ⟨_, Gh.refl _, ?_⟩
      simp only [go_sem, zA, zB, zC, zD, zE, zF, zG, reduceCtorEq, zH, zI, zJ, zK, zL]
      refine ⟨by rw [Dt, encDat_eq (wrapD _), wrapD, ek]; rfl, fun x hx => ?_⟩
      simp only [lN] at hx; subst hx; simp [pin]
theorem base_cz (s : Src) (hs : s.ok) (hk : 6 < nextV s 12) :
    PCB zP 4 [Sp pin, I .i64 (0 : Nat)] [(pin, srcB s)] (Dt (madeBase 0 (nextS s 12)).1) [(pin, srcB (madeBase 0 (nextS s 12)).2)] := by
  refine PCB.ob Tryz.func4 Tryz.ntmps4 Tryz.results4 ?_
  have hs1 := ok_next hs 12
  have a4 := nextV_in (nextS s 12) (n := 5) (by omega)
  have hw2 : IntKind.i64.wrap (nextV (nextS s 12) 5 - 1) = nextV (nextS s 12) 5 - 1 := by rw [w64 (by omega)]
  have hgt : decide ((6 : Int) < nextV s 12) = true := by simpa using hk
  have h00 : decide (((0 : Nat) : Int) = 0) = true := by decide
  repeat' (first | (simp only [go_sem, zA, zB, zC, zD, zE, zF, zG, reduceCtorEq, zH, zI, zJ, zK, zL, pin, hgt, h00, hw2] <;> refine nf ?_) | (refine stp ?_; intro K hK) | (apply hK; clear hK K) | refine stn ?_ | (refine ⟨1000000, _, _, _, next_k 1000000 _ (by repeat (first | with_reducible exact hs | with_reducible refine ok_next ?_ _)) _ (by omega), rfl, ?_⟩) | fail)
  all_goals (refine ⟨by simp only [madeBase, cond_true, cond_false, decide_true, decide_false, Int.reduceEq, Dt, encDat_eq, atomDat, intDat, funDat, zeroDat]; rfl, fun x hx => ?_⟩)
  all_goals (simp only [lN] at hx; subst hx; simp [madeBase, pin])
theorem made_c0 : MadeC 0 := by
 intro s hs
 have hv := nextV_in s (n := 12) (by omega)
 by_cases h6 : nextV s 12 ≤ 6
 ·have hk' : nextV s 12 = 0 ∨ nextV s 12 = 1 ∨ nextV s 12 = 2 ∨ nextV s 12 = 3 ∨ nextV s 12 = 4 ∨ nextV s 12 = 5 ∨ nextV s 12 = 6 := by omega
  have hM : made 0 s = madeBase (nextV s 12) (nextS s 12) := by
   have : decide (6 < nextV s 12) = false := by simpa using h6
   simp only [made, made0, this, cond_false]
  rw [hM]
  rcases hk' with h | h | h | h | h | h | h <;> rw [h]
  ·exact base_c0 0 s hs h
  ·exact base_c1 0 s hs h
  ·exact base_c2 0 s hs h
  ·exact base_c3 0 s hs h
  ·exact base_c4 0 s hs h
  ·exact base_c5 0 s hs h
  ·exact base_c6 0 s hs h
 ·have hM : made 0 s = madeBase 0 (nextS s 12) := by
   have : decide (6 < nextV s 12) = true := by simpa using h6
   simp only [made, made0, this, cond_true]
  rw [hM]
  exact base_cz s hs (by omega)
theorem made_c : ∀ d : Nat, d ≤ 1000 → MadeC d
 | 0, _ => made_c0
 | d + 1, hd => by
  intro s hs
  have IH := made_c d (by omega)
  have hv := nextV_in s (n := 12) (by omega)
  have hk' : nextV s 12 = 0 ∨ nextV s 12 = 1 ∨ nextV s 12 = 2 ∨ nextV s 12 = 3 ∨ nextV s 12 = 4 ∨ nextV s 12 = 5 ∨ nextV s 12 = 6 ∨ nextV s 12 = 7 ∨ nextV s 12 = 8 ∨ nextV s 12 = 9 ∨ nextV s 12 = 10 ∨ nextV s 12 = 11 := by omega
  have hM : nextV s 12 ≤ 6 → made (d + 1) s = madeBase (nextV s 12) (nextS s 12) := by
   intro h6
   have : decide (nextV s 12 ≤ 6) = true := by simpa using h6
   simp only [made, this, cond_true]
  rcases hk' with h | h | h | h | h | h | h | h | h | h | h | h
  ·rw [hM (by omega), h]; exact base_c0 (d + 1) s hs h
  ·rw [hM (by omega), h]; exact base_c1 (d + 1) s hs h
  ·rw [hM (by omega), h]; exact base_c2 (d + 1) s hs h
  ·rw [hM (by omega), h]; exact base_c3 (d + 1) s hs h
  ·rw [hM (by omega), h]; exact base_c4 (d + 1) s hs h
  ·rw [hM (by omega), h]; exact base_c5 (d + 1) s hs h
  ·rw [hM (by omega), h]; exact base_c6 (d + 1) s hs h
  ·exact made_c7 d (by omega) made_c0 s hs h
  ·exact made_c8 d (by omega) IH s hs h
  ·exact made_c9 d (by omega) IH s hs h
  ·exact made_c10 d (by omega) IH s hs h
  ·exact made_c11 d (by omega) IH s hs h
end Go.Proofs.YtajfdbdklphonaaGreat
set_option maxRecDepth 20000
set_option maxHeartbeats 1000000
namespace Go.Proofs.YtajfdbdklphonaaGreat
open Go Go.Sx
theorem refHasFunction_c (d : Dat) : PC zP 10 [.st (encDat d)] (Bo (hasFun d)) := by
 have ih : ∀ k ∈ d.kids, PC zP 10 [.st (encDat k)] (Bo (hasFun k)) := fun k hk => refHasFunction_c k
 refine PCB.ob Tryz.func10 Tryz.ntmps10 Tryz.results10 ?_
 cases h9 : decide (d.kind = 9) with
 | true =>
  repeat' (first | (simp only [go_sem, zA, zB, zC, zD, zE, zF, zG, reduceCtorEq, zH, zI, zJ, zK, zL, encDat_eq, h9] <;> refine nf ?_) | (refine stp ?_; intro K hK) | (apply hK; clear hK K) | refine stn ?_ | (clear hK K))
  all_goals (refine fin0 ?_; simp only [hasFun_eq, h9, Bool.true_or])
 | false =>
  repeat' (first | (simp only [go_sem, zA, zB, zC, zD, zE, zF, zG, reduceCtorEq, zH, zI, zJ, zK, zL, encDat_eq, h9, lB] <;> refine nf ?_) | (refine stp ?_; intro K hK) | (apply hK; clear hK K) | refine stn ?_ | fail)
  refine xF 9 rfl fun hlen => ?_
  rw [lB] at hlen
  refine AWP.loopS (X := Nat × Unit) (fun x => [(11, I .i64 x.1), (10, I .i64 d.kids.length), (9, .one (.dat (.sl 13 (d.kids.map encDat))))]) (fun _ => [])
   (fun x => x.1 ≤ d.kids.length ∧ d.kids.any hasFun = (d.kids.drop x.1).any hasFun) (fun x => d.kids.length - x.1) (0, ()) (Gh.tt []) ⟨Nat.zero_le _, rfl⟩ ?_
  rintro ⟨k, u⟩ ⟨hk, hp⟩
  simp only at hk hp
  by_cases hlt : k < d.kids.length
  ·obtain ⟨x, hx, hx', hb, hdx⟩ := at_lt (enc := encDat) hlt
   rw [hdx, List.any_cons] at hp
   have hgx := ih x (lP hx)
   cases hz : hasFun x
   ·
    repeat' (first | (simp only [go_sem, zA, zB, zC, zD, zE, zF, zG, reduceCtorEq, zH, zI, zJ, zK, zL, lB, hb, hz] <;> refine nf ?_) | (refine stp ?_; intro K hK) | (apply hK; clear hK K) | refine stn ?_ | (with_reducible first | refine ⟨_, hgx, ?_⟩ | refine ⟨by omega, encDat x, hx', ?_⟩) | refine stq ?_ | (clear hK K))
    all_goals (rw [hz, Bool.false_or] at hp)
    all_goals (rw [wrap_succ hlt hlen])
    all_goals (refine ⟨(k + 1, ()), by simp only; omega, ⟨by simp only; omega, hp⟩, Gh.tt []⟩)
   ·
    repeat' (first | (simp only [go_sem, zA, zB, zC, zD, zE, zF, zG, reduceCtorEq, zH, zI, zJ, zK, zL, lB, hb, hz] <;> refine nf ?_) | (refine stp ?_; intro K hK) | (apply hK; clear hK K) | refine stn ?_ | (with_reducible first | refine ⟨_, hgx, ?_⟩ | refine ⟨by omega, encDat x, hx', ?_⟩) | refine stq ?_ | (clear hK K))
    all_goals (refine fin0 ?_; rw [hasFun_eq d, h9, hp, hz]; rfl)
  ·obtain ⟨hb, hdx⟩ := at_ge hlt
   rw [hdx, List.any_nil] at hp
   repeat' (first | (simp only [go_sem, zA, zB, zC, zD, zE, zF, zG, reduceCtorEq, zH, zI, zJ, zK, zL, lB, hb] <;> refine nf ?_) | (refine stp ?_; intro K hK) | (apply hK; clear hK K) | refine stn ?_ | (clear hK K))
   all_goals (refine fin0 ?_; simp only [hasFun_eq, h9, hp, Bool.false_or])
termination_by SizeOf.sizeOf d
decreasing_by
 cases d; simp only at hk; have := List.sizeOf_lt_of_mem hk; simp; omega
theorem cloneKeys_c (l : List KeyD) (hl : l.length ≤ 1000000) : PC zP 35 [.one (.dat (.sl 2 (l.map encKey)))] (.one (.dat (.sl 2 (l.map encKey)))) := by
 refine PCB.ob Tryz.func35 Tryz.ntmps35 Tryz.results35 ?_
 refine AWP.ghQ ?_
 repeat' (first | ( refine AWP.nilR (e := 39) rfl (by decide) (by decide) rfl (fun hnil => ?_) ?_) | (simp only [go_sem, zA, zB, zC, zD, zE, zF, zG, reduceCtorEq, zH, zI, zJ, zK, zL, lB] <;> refine nf ?_) | (refine stp ?_; intro K hK) | (apply hK; clear hK K) | refine stn ?_ | (with_reducible first | (refine Or.inr (show vBuildOwn _ 5 _ _ _ _ _ _ from ?_); unfold vBuildOwn; with_reducible refine Or.inr ?_; simp only [vBuildRow, go_sem, zA, zB, zC, zD, zE, zF, zG, reduceCtorEq, zH, zI, zJ, zK, zL, lB]) | refine ⟨by omega, ?_⟩) | (clear hK K))
 ·refine ⟨_, Gh.refl _, ?_⟩
  simp only [go_sem, zA, zB, zC, zD, zE, zF, zG, reduceCtorEq, zH, zI, zJ, zK, zL]
  refine fin0 ?_
  rw [hnil]
 ·
  refine ⟨_, Gh.fz 7, ?_⟩
  simp only [go_sem, zA, zB, zC, zD, zE, zF, zG, reduceCtorEq, zH, zI, zJ, zK, zL, lB]
  all_goals (first | exact nn | refine fin0 ?_)
  all_goals rfl
mutual
def eraseV : Dat → Val
 | ⟨kind, num, text, kids, keys, _, _, _, _, _, _, _, _⟩ => bif decide (kind = 9) then ⟨9, num, [], [], [], [], []⟩ else ⟨kind, num, text, eraseVs kids, keys, [], []⟩
def eraseVs : List Dat → List Val
 | [] => []
 | d :: l => eraseV d :: eraseVs l
end
theorem eraseVs_map : ∀ l : List Dat, eraseVs l = l.map eraseV
 | [] => by simp only [eraseVs, List.map_nil]
 | d :: l => by simp only [eraseVs, lE, eraseVs_map l]
theorem eraseV_eq (d : Dat) : eraseV d = bif decide (d.kind = 9) then ⟨9, d.num, [], [], [], [], []⟩ else ⟨d.kind, d.num, d.text, d.kids.map eraseV, d.keys, [], []⟩ := by cases d; simp only [eraseV, eraseVs_map]
inductive Small : Dat → Prop
 | mk (d : Dat) (h1 : d.kids.length ≤ 1000000) (h2 : d.keys.length ≤ 1000000) (h : ∀ k ∈ d.kids, Small k) : Small d
theorem Small.kids {d : Dat} (h : Small d) : d.kids.length ≤ 1000000 := by cases h; assumption
theorem Small.keys {d : Dat} (h : Small d) : d.keys.length ≤ 1000000 := by cases h; assumption
theorem Small.kid {d : Dat} (h : Small d) : ∀ k ∈ d.kids, Small k := by cases h; assumption
abbrev Vr (n : Nat) (l : List Val) : Nat × Res := (n, .row 7 (l.map encVal))
theorem val_snoc (l : List Val) (x : Val) : l.map encVal ++ [encVal x] = (l ++ [x]).map encVal := by simp
theorem erase_c (d : Dat) (hd : Small d) : PC zP 13 [.st (encDat d)] (.st (encVal (eraseV d))) := by
 have ih : ∀ k ∈ d.kids, PC zP 13 [.st (encDat k)] (.st (encVal (eraseV k))) := fun k hk => erase_c k (hd.kid k hk)
 have hkk := hd.kids
 refine PCB.ob Tryz.func13 Tryz.ntmps13 Tryz.results13 ?_
 refine AWP.ghQ ?_
 cases h9 : decide (d.kind = 9) with
 | true =>
  repeat' (first | (simp only [go_sem, zA, zB, zC, zD, zE, zF, zG, reduceCtorEq, zH, zI, zJ, zK, zL, encDat_eq, h9] <;> refine nf ?_) | (refine stp ?_; intro K hK) | (apply hK; clear hK K) | refine stn ?_ | (clear hK K))
  all_goals (refine ⟨_, Gh.refl _, ?_⟩)
  all_goals simp only [go_sem, zA, zB, zC, zD, zE, zF, zG, reduceCtorEq, zH, zI, zJ, zK, zL]
  all_goals (refine fin0 ?_; rw [eraseV_eq, h9, encVal_eq]; rfl)
 | false =>
  repeat' (first | (simp only [go_sem, zA, zB, zC, zD, zE, zF, zG, reduceCtorEq, zH, zI, zJ, zK, zL, encDat_eq, h9, lB] <;> refine nf ?_) | (refine stp ?_; intro K hK) | (apply hK; clear hK K) | refine stn ?_ | (with_reducible refine ⟨_, cloneKeys_c d.keys hd.keys, ?_⟩) | (with_reducible refine AWP.genR (id := 3) [10,11] [] mixed (by kernel_rfl) fun K hK => ?_; simp only [Bx.outs, Bx.drop, cond_true, cond_false, Nat.reduceBEq, go_sem]) | fail)
  refine xD (Gh.nilcell 3 3 900 rfl rfl rfl (by simp only [go_sem, zA, zB, zC, zD, zE, zF, zG, reduceCtorEq, zH, zI, zJ, zK, zL]) (by simp only [go_sem, zA, zB, zC, zD, zE, zF, zG, reduceCtorEq, zH, zI, zJ, zK, zL])) ?_
  refine AWP.loopS (X := Nat × List Val) (fun x => [(25, I .i64 x.1), (24, I .i64 d.kids.length), (23, .one (.dat (.sl 13 (d.kids.map encDat)))), (2, Sp 2), (3, Sp 3)])
   (fun x => [(2, .cells [.dat (.int .i64 0), .dat (.int .i64 0), .dat (.str []), .dat (.nil 7), .dat (.nil 2), .dat (.nil 9), .dat (.nil 1)]),
    (3, .cells [.dat (.int .i64 d.kind), .dat (.int .i64 d.num), .dat (.str d.text), .own 900 x.2.length, .dat (.sl 2 (d.keys.map encKey)), .dat (.nil 9), .dat (.nil 1)]), Vr 900 x.2])
   (fun x => x.1 ≤ d.kids.length ∧ x.2 = (d.kids.take x.1).map eraseV) (fun x => d.kids.length - x.1) (0, []) ?_ ⟨Nat.zero_le _, rfl⟩ ?_
  ·exact Gh.tt []
  rintro ⟨k, acc⟩ ⟨hk, hp⟩
  simp only at hk hp
  have hal : acc.length = k := by rw [hp]; simp; omega
  by_cases hlt : k < d.kids.length
  ·obtain ⟨x, hx, hx', hb, hdx⟩ := at_lt (enc := encDat) hlt
   have hgx := ih x (lP hx)
   repeat' (first | (simp only [go_sem, zA, zB, zC, zD, zE, zF, zG, reduceCtorEq, zH, zI, zJ, zK, zL, lB, hb, val_snoc] <;> refine nf ?_) | (refine stp ?_; intro K hK) | (apply hK; clear hK K) | refine stn ?_ | (with_reducible first | refine ⟨_, hgx, ?_⟩ | refine ⟨by omega, encDat x, hx', ?_⟩ | refine ⟨by omega, ?_⟩) | (with_reducible refine AWP.genR (id := 7) [1,5,7] [3,900] mixed (by kernel_rfl) fun K hK => ?_; simp only [Bx.outs, Bx.drop, cond_true, cond_false, Nat.reduceBEq, go_sem]) | (clear hK K))
   all_goals (rw [wrap_succ hlt (by omega)])
   all_goals (refine ⟨(k + 1, acc ++ [eraseV x]), by simp only; omega, ⟨by simp only; omega, ?_⟩, Gh.tt [(900, 34)]⟩)
   all_goals (simp only [hp]; rw [List.take_add_one, List.map_append, hx]; rfl)
  ·have hb : decide ((k : Int) < (d.kids.length : Int)) = false := by simpa using hlt
   rw [List.take_of_length_le (by omega)] at hp
   repeat' (first | (simp only [go_sem, zA, zB, zC, zD, zE, zF, zG, reduceCtorEq, zH, zI, zJ, zK, zL, lB, hb] <;> refine nf ?_) | (refine stp ?_; intro K hK) | (apply hK; clear hK K) | refine stn ?_ | (clear hK K))
   refine ⟨_, Gh.fz 900, ?_⟩
   simp only [go_sem, zA, zB, zC, zD, zE, zF, zG, reduceCtorEq, zH, zI, zJ, zK, zL, lB]
   all_goals (refine fin0 ?_; rw [eraseV_eq, h9, encVal_eq, hp]; rfl)
termination_by SizeOf.sizeOf d
decreasing_by
 cases d; simp only at hk; have := List.sizeOf_lt_of_mem hk; simp; omega
end Go.Proofs.YtajfdbdklphonaaGreat
set_option maxRecDepth 20000
set_option maxHeartbeats 4000000
namespace Go.Proofs.YtajfdbdklphonaaGreat
open Go Go.Sx
def ascB {α : Type} (f : α → α → Int) : List α → Bool
 | [] => true
 | x :: l => match l with
  | [] => true
  | y :: m => decide (f x y < 0) && ascB f (y :: m)
theorem ascB_step {α : Type} {f : α → α → Int} {l : List α} {k : Nat} {x y : α} (hx : l[k]? = some x) (hy : l[k + 1]? = some y) : ascB f (l.drop k) = (decide (f x y < 0) && ascB f (l.drop (k + 1))) := by
 obtain ⟨h1, e1⟩ := List.getElem?_eq_some_iff.1 hx
 obtain ⟨h2, e2⟩ := List.getElem?_eq_some_iff.1 hy
 rw [List.drop_eq_getElem_cons h1, List.drop_eq_getElem_cons h2, e1, e2]
 rfl
theorem ascB_end {α : Type} {f : α → α → Int} {l : List α} {k : Nat} (h : l.length ≤ k + 1) : ascB f (l.drop k) = true := by
 have : (l.drop k).length ≤ 1 := by simp; omega
 match l.drop k, this with
 | [], _ => rfl
 | [x], _ => rfl
 | _ :: _ :: _, h => simp at h
theorem ascStr_c (g : FuncId) (f : List UInt8 → List UInt8 → Int) (l : List (List UInt8)) (hg : ∀ x ∈ l, ∀ y ∈ l, PC zP g [S x, S y] (I .i64 (f x y))) :
    PC zP 167 [.one (.dat (.sl 1 (l.map encStr))), .one (.dat (.fn g))] (Bo (ascB f l)) := by
  refine PCB.ob Tryz.func167 Tryz.ntmps167 Tryz.results167 ?_
  refine xF 0 rfl fun hlen => ?_
  rw [lB] at hlen
  repeat' (first | (simp only [go_sem, zA, zB, zC, zD, zE, zF, zG, reduceCtorEq, zH, zI, zJ, zK, zL, lB] <;> refine nf ?_) | (refine stp ?_; intro K hK) | (apply hK; clear hK K) | refine stn ?_ | fail)
  refine AWP.loopF (X := Nat) (fun k => [(5, I .i64 (k + 1 : Nat))]) (fun _ => []) [0, 1] [] (fun k => k ≤ l.length ∧ ascB f l = ascB f (l.drop k)) (fun k => l.length - k) (0) (by refine sts ?_; exact Gh.tt []) ?_ ?_
  · exact ⟨Nat.zero_le _, rfl⟩
  rintro k ⟨hk, hp⟩
  refine sts ?_
  by_cases hlt : k + 1 < l.length
  · obtain ⟨y, hy, hy', hb, _⟩ := at_lt (enc := encStr) hlt
    obtain ⟨x, hx, hx', _, _⟩ := at_lt (enc := encStr) (show k < l.length by omega)
    have hw : IntKind.i64.wrap (((k + 1 : Nat) : Int) - 1) = (k : Int) := by rw [w64 (by omega)]; omega
    have hxy := hg x (lP hx) y (lP hy)
    rw [ascB_step hx hy] at hp
    cases hz : decide (f x y < 0) <;> simp only [hz, Bool.true_and, Bool.false_and] at hp
    · have hz' : decide (0 ≤ f x y) = true := by simp at hz ⊢; omega
      repeat' (first | (simp only [go_sem, zA, zB, zC, zD, zE, zF, zG, reduceCtorEq, zH, zI, zJ, zK, zL, lB, hb, hz', hw, encStr] <;> refine nf ?_) | (refine stp ?_; intro K hK) | (apply hK; clear hK K) | refine stn ?_ | (with_reducible first | refine ⟨_, hxy, ?_⟩ | refine ⟨by omega, encStr x, hx', ?_⟩ | refine ⟨by omega, encStr y, hy', ?_⟩) | (refine stp' ?_; intro K hK) | (clear hK K))
      all_goals (first | exact lf | (refine fin0 ?_; simp only [hp, zb, cond_true, cond_false, decide_true, decide_false] <;> rfl))
    · have hz' : decide (0 ≤ f x y) = false := by simp at hz ⊢; omega
      repeat' (first | (simp only [go_sem, zA, zB, zC, zD, zE, zF, zG, reduceCtorEq, zH, zI, zJ, zK, zL, lB, hb, hz', hw, encStr] <;> refine nf ?_) | (refine stp ?_; intro K hK) | (apply hK; clear hK K) | refine stn ?_ | (with_reducible first | refine ⟨_, hxy, ?_⟩ | refine ⟨by omega, encStr x, hx', ?_⟩ | refine ⟨by omega, encStr y, hy', ?_⟩) | (refine stp' ?_; intro K hK) | (clear hK K))
      all_goals (rw [wrap_succ hlt hlen])
      all_goals (refine ⟨k + 1, by omega, ⟨by omega, hp⟩, Gh.tt []⟩)
  · have hb : decide (((k + 1 : Nat) : Int) < (l.length : Int)) = false := by simp; omega
    rw [ascB_end (by omega)] at hp
    repeat' (first | (simp only [go_sem, zA, zB, zC, zD, zE, zF, zG, reduceCtorEq, zH, zI, zJ, zK, zL, lB, hb] <;> refine nf ?_) | (refine stp ?_; intro K hK) | (apply hK; clear hK K) | refine stn ?_ | (clear hK K))
    all_goals (first | exact lf | (refine fin0 ?_; simp only [hp, zb, cond_true, cond_false, decide_true, decide_false] <;> rfl))
theorem ascKey_c (g : FuncId) (f : KeyD → KeyD → Int) (l : List (KeyD)) (hg : ∀ x ∈ l, ∀ y ∈ l, PC zP g [T.st (encKey x), T.st (encKey y)] (I .i64 (f x y))) :
    PC zP 172 [.one (.dat (.sl 2 (l.map encKey))), .one (.dat (.fn g))] (Bo (ascB f l)) := by
  refine PCB.ob Tryz.func172 Tryz.ntmps172 Tryz.results172 ?_
  refine xF 0 rfl fun hlen => ?_
  rw [lB] at hlen
  repeat' (first | (simp only [go_sem, zA, zB, zC, zD, zE, zF, zG, reduceCtorEq, zH, zI, zJ, zK, zL, lB] <;> refine nf ?_) | (refine stp ?_; intro K hK) | (apply hK; clear hK K) | refine stn ?_ | fail)
  refine AWP.loopF (X := Nat) (fun k => [(5, I .i64 (k + 1 : Nat))]) (fun _ => []) [0, 1] [] (fun k => k ≤ l.length ∧ ascB f l = ascB f (l.drop k)) (fun k => l.length - k) (0) (by refine sts ?_; exact Gh.tt []) ?_ ?_
  · exact ⟨Nat.zero_le _, rfl⟩
  rintro k ⟨hk, hp⟩
  refine sts ?_
  by_cases hlt : k + 1 < l.length
  · obtain ⟨y, hy, hy', hb, _⟩ := at_lt (enc := encKey) hlt
    obtain ⟨x, hx, hx', _, _⟩ := at_lt (enc := encKey) (show k < l.length by omega)
    have hw : IntKind.i64.wrap (((k + 1 : Nat) : Int) - 1) = (k : Int) := by rw [w64 (by omega)]; omega
    have hxy := hg x (lP hx) y (lP hy)
    rw [ascB_step hx hy] at hp
    cases hz : decide (f x y < 0) <;> simp only [hz, Bool.true_and, Bool.false_and] at hp
    · have hz' : decide (0 ≤ f x y) = true := by simp at hz ⊢; omega
      repeat' (first | (simp only [go_sem, zA, zB, zC, zD, zE, zF, zG, reduceCtorEq, zH, zI, zJ, zK, zL, lB, hb, hz', hw, cond_true] <;> refine nf ?_) | (refine stp ?_; intro K hK) | (apply hK; clear hK K) | refine stn ?_ | (with_reducible first | refine ⟨_, hxy, ?_⟩ | refine ⟨by omega, encKey x, hx', ?_⟩ | refine ⟨by omega, encKey y, hy', ?_⟩) | (refine stp' ?_; intro K hK) | (clear hK K))
      all_goals (first | exact lf | (refine fin0 ?_; simp only [hp, zb, cond_true, cond_false, decide_true, decide_false] <;> rfl))
    · have hz' : decide (0 ≤ f x y) = false := by simp at hz ⊢; omega
      repeat' (first | (simp only [go_sem, zA, zB, zC, zD, zE, zF, zG, reduceCtorEq, zH, zI, zJ, zK, zL, lB, hb, hz', hw, cond_true] <;> refine nf ?_) | (refine stp ?_; intro K hK) | (apply hK; clear hK K) | refine stn ?_ | (with_reducible first | refine ⟨_, hxy, ?_⟩ | refine ⟨by omega, encKey x, hx', ?_⟩ | refine ⟨by omega, encKey y, hy', ?_⟩) | (refine stp' ?_; intro K hK) | (clear hK K))
      all_goals (rw [wrap_succ hlt hlen])
      all_goals (refine ⟨k + 1, by omega, ⟨by omega, hp⟩, Gh.tt []⟩)
  · have hb : decide (((k + 1 : Nat) : Int) < (l.length : Int)) = false := by simp; omega
    rw [ascB_end (by omega)] at hp
    repeat' (first | (simp only [go_sem, zA, zB, zC, zD, zE, zF, zG, reduceCtorEq, zH, zI, zJ, zK, zL, lB, hb] <;> refine nf ?_) | (refine stp ?_; intro K hK) | (apply hK; clear hK K) | refine stn ?_ | (clear hK K))
    all_goals (first | exact lf | (refine fin0 ?_; simp only [hp, zb, cond_true, cond_false, decide_true, decide_false] <;> rfl))
theorem ascEnt_c (g : FuncId) (f : List Val × Bool × Val → List Val × Bool × Val → Int) (l : List (List Val × Bool × Val)) (hg : ∀ x ∈ l, ∀ y ∈ l, PC zP g [T.st (encEnt x), T.st (encEnt y)] (I .i64 (f x y))) :
    PC zP 174 [.one (.dat (.sl 9 (l.map encEnt))), .one (.dat (.fn g))] (Bo (ascB f l)) := by
  refine PCB.ob Tryz.func174 Tryz.ntmps174 Tryz.results174 ?_
  refine xF 0 rfl fun hlen => ?_
  rw [lB] at hlen
  repeat' (first | (simp only [go_sem, zA, zB, zC, zD, zE, zF, zG, reduceCtorEq, zH, zI, zJ, zK, zL, lB] <;> refine nf ?_) | (refine stp ?_; intro K hK) | (apply hK; clear hK K) | refine stn ?_ | fail)
  refine AWP.loopF (X := Nat) (fun k => [(5, I .i64 (k + 1 : Nat))]) (fun _ => []) [0, 1] [] (fun k => k ≤ l.length ∧ ascB f l = ascB f (l.drop k)) (fun k => l.length - k) (0) (by refine sts ?_; exact Gh.tt []) ?_ ?_
  · exact ⟨Nat.zero_le _, rfl⟩
  rintro k ⟨hk, hp⟩
  refine sts ?_
  by_cases hlt : k + 1 < l.length
  · obtain ⟨y, hy, hy', hb, _⟩ := at_lt (enc := encEnt) hlt
    obtain ⟨x, hx, hx', _, _⟩ := at_lt (enc := encEnt) (show k < l.length by omega)
    have hw : IntKind.i64.wrap (((k + 1 : Nat) : Int) - 1) = (k : Int) := by rw [w64 (by omega)]; omega
    have hxy := hg x (lP hx) y (lP hy)
    rw [ascB_step hx hy] at hp
    cases hz : decide (f x y < 0) <;> simp only [hz, Bool.true_and, Bool.false_and] at hp
    · have hz' : decide (0 ≤ f x y) = true := by simp at hz ⊢; omega
      repeat' (first | (simp only [go_sem, zA, zB, zC, zD, zE, zF, zG, reduceCtorEq, zH, zI, zJ, zK, zL, lB, hb, hz', hw, cond_true] <;> refine nf ?_) | (refine stp ?_; intro K hK) | (apply hK; clear hK K) | refine stn ?_ | (with_reducible first | refine ⟨_, hxy, ?_⟩ | refine ⟨by omega, encEnt x, hx', ?_⟩ | refine ⟨by omega, encEnt y, hy', ?_⟩) | (refine stp' ?_; intro K hK) | (clear hK K))
      all_goals (first | exact lf | (refine fin0 ?_; simp only [hp, zb, cond_true, cond_false, decide_true, decide_false] <;> rfl))
    · have hz' : decide (0 ≤ f x y) = false := by simp at hz ⊢; omega
      repeat' (first | (simp only [go_sem, zA, zB, zC, zD, zE, zF, zG, reduceCtorEq, zH, zI, zJ, zK, zL, lB, hb, hz', hw, cond_true] <;> refine nf ?_) | (refine stp ?_; intro K hK) | (apply hK; clear hK K) | refine stn ?_ | (with_reducible first | refine ⟨_, hxy, ?_⟩ | refine ⟨by omega, encEnt x, hx', ?_⟩ | refine ⟨by omega, encEnt y, hy', ?_⟩) | (refine stp' ?_; intro K hK) | (clear hK K))
      all_goals (rw [wrap_succ hlt hlen])
      all_goals (refine ⟨k + 1, by omega, ⟨by omega, hp⟩, Gh.tt []⟩)
  · have hb : decide (((k + 1 : Nat) : Int) < (l.length : Int)) = false := by simp; omega
    rw [ascB_end (by omega)] at hp
    repeat' (first | (simp only [go_sem, zA, zB, zC, zD, zE, zF, zG, reduceCtorEq, zH, zI, zJ, zK, zL, lB, hb] <;> refine nf ?_) | (refine stp ?_; intro K hK) | (apply hK; clear hK K) | refine stn ?_ | (clear hK K))
    all_goals (first | exact lf | (refine fin0 ?_; simp only [hp, zb, cond_true, cond_false, decide_true, decide_false] <;> rfl))
def labelsB (l : List (List UInt8)) : Bool := ascB Lib.compareBytes l && l.all isVarB
theorem all_step {α : Type} {p : α → Bool} {l : List α} {k : Nat} {x : α} (hx : l[k]? = some x) : (l.drop k).all p = (p x && (l.drop (k + 1)).all p) := by
 obtain ⟨h1, e1⟩ := List.getElem?_eq_some_iff.1 hx
 rw [List.drop_eq_getElem_cons h1, e1, List.all_cons]
theorem all_end {α : Type} {p : α → Bool} {l : List α} : (l.drop l.length).all p = true := by rw [List.drop_length]; rfl
theorem validLabels_c (l : List (List UInt8)) : PC zP 145 [.one (.dat (.sl 1 (l.map encStr)))] (Bo (labelsB l)) := by
 have h1 := ascStr_c 134 Lib.compareBytes l (fun x _ y _ => stringsCompare_c x y)
 refine PCB.ob Tryz.func145 Tryz.ntmps145 Tryz.results145 ?_
 unfold labelsB
 cases ha : ascB Lib.compareBytes l
 ·
  repeat' (first | (simp only [go_sem, zA, zB, zC, zD, zE, zF, zG, reduceCtorEq, zH, zI, zJ, zK, zL, ha] <;> refine nf ?_) | (refine stp ?_; intro K hK) | (apply hK; clear hK K) | refine stn ?_ | (with_reducible refine ⟨_, h1, ?_⟩) | refine stq ?_ | (clear hK K))
  all_goals exact lf
 ·
  repeat' (first | (simp only [go_sem, zA, zB, zC, zD, zE, zF, zG, reduceCtorEq, zH, zI, zJ, zK, zL, ha, lB] <;> refine nf ?_) | (refine stp ?_; intro K hK) | (apply hK; clear hK K) | refine stn ?_ | (with_reducible refine ⟨_, h1, ?_⟩) | refine stq ?_ | fail)
  refine xF 8 rfl fun hlen0 => ?_
  (try rw [lB] at hlen0)
  refine xC (S := Unit) (l) encStr (fun k s => (10, I .i64 (k : Nat)) :: []) (fun k s => []) [8, 9] [] (fun k s => l.all isVarB = (l.drop k).all isVarB) (()) (by refine sts ?_; exact Gh.tt []) ?_ ?_ ?_
  ·rfl
  ·intro k s x hlt hx hx' hb hok
   refine sts ?_
   rw [all_step hx] at hok
   cases hz : isVarB x <;> simp only [hz, Bool.true_and, Bool.false_and] at hok
   ·
    repeat' (first | (simp only [go_sem, zA, zB, zC, zD, zE, zF, zG, reduceCtorEq, zH, zI, zJ, zK, zL, lB, hb, hz, encStr] <;> refine nf ?_) | (refine stp ?_; intro K hK) | (apply hK; clear hK K) | refine stn ?_ | (with_reducible first | refine ⟨_, identIsVariable_c x, ?_⟩ | refine ⟨by omega, encStr x, hx', ?_⟩) | refine stq ?_ | (clear hK K))
    all_goals (first | exact lf | (refine fin0 ?_; simp only [hok, ha, zb, cond_true, cond_false, decide_true, decide_false] <;> rfl))
   ·
    repeat' (first | (simp only [go_sem, zA, zB, zC, zD, zE, zF, zG, reduceCtorEq, zH, zI, zJ, zK, zL, lB, hb, hz, encStr] <;> refine nf ?_) | (refine stp ?_; intro K hK) | (apply hK; clear hK K) | refine stn ?_ | (with_reducible first | refine ⟨_, identIsVariable_c x, ?_⟩ | refine ⟨by omega, encStr x, hx', ?_⟩) | refine stq ?_ | (clear hK K))
    all_goals (rw [wrap_succ hlt hlen0])
    all_goals (refine ⟨(), ?_, Gh.tt []⟩)
    all_goals exact hok
  ·intro s hb hok
   refine sts ?_
   rw [all_end] at hok
   repeat' (first | (simp only [go_sem, zA, zB, zC, zD, zE, zF, zG, reduceCtorEq, zH, zI, zJ, zK, zL, lB, hb] <;> refine nf ?_) | (refine stp ?_; intro K hK) | (apply hK; clear hK K) | refine stn ?_ | (clear hK K))
   all_goals (first | exact lf | (refine fin0 ?_; simp only [hok, ha, zb, cond_true, cond_false, decide_true, decide_false] <;> rfl))
end Go.Proofs.YtajfdbdklphonaaGreat