/- A part of the proof: lemmas about the walk of the program and about plain integers and lists. No conditions beyond those that each lemma states. -/
import Derived.Test.YtogponhonjiidaaDoorTn7
import Derived.Test.YtogponhonjiidaaDoorTn6
import Derived.Shelf.Vars
import Derived.Test.YtogponhonjiidaaDoorRows
import Derived.Test.YtogponhonjiidaaDoorTn4
import Derived.Test.YtogponhonjiidaaDoorTn5
set_option linter.unusedSimpArgs false
set_option linter.unusedVariables false
set_option maxRecDepth 20000
set_option maxHeartbeats 16000000
namespace Go.Proofs.YtogponhonjiidaaDoor
open Go Go.Sx
open Nat renaming reduceBEq → zA, reduceBNe → zB, reduceAdd → zC, reduceSub → zD, reduceMul → zE, reduceLeDiff → zF, reduceLT → zG, reduceEqDiff → zH
open Int renaming reduceToNat → zI, reduceLE → zJ, reduceLT → zK, reduceEq → zL
open Bool renaming not_eq_true' → zM, not_eq_false' → zN
abbrev TkR (r : Tok × Int) : T := .tup [.st (encTok r.1), I .i64 r.2]
def wordV (kind : Int) (text : List UInt8) : Tok × Int := bif decide ((16 : Int) < (text.length : Int)) then (zeroTok, 2) else (⟨kind, text, 0, 0⟩, 0)
theorem word_c (kind : Int) (text : List UInt8) : PC Tryd.prog 58 [I .i64 kind, S text] (TkR (wordV kind text)) := by
  refine PCB.of_body Tryd.func58 rfl (by decide) Tryd.ntmps58 Tryd.results58 rfl rfl rfl ?_ rfl rfl
  cases h0 : decide ((16 : Int) < (text.length : Int))
  ·
    repeat' (first | (simp only [go_sem, zA, zB, zC, zD, zE, zF, zG, reduceCtorEq, zH, zI, zJ, zK, zL, h0]; all_goals fail_if_success guard_target =ₛ False) | (with_reducible first | ((first | refine seqVC_stepN rfl ?_ | refine AWP.seq ?_ | refine AWP.seqR (by kernel_rfl) ?_); intro K hK) | ((first | refine hK _ _ _ ?_ | refine hK _ _ ?_ | refine hK _ ?_); clear hK K) | refine seqVC_nil ?_ | refine AWP.block ?_ | (refine AWP.cond (by with_unfolding_all rfl) ?_ ?_ <;> intro h <;> (try simp only [zM, zN] at h) <;> try exact absurd h (by decide)) | refine AWP.skip ?_ | refine AWP.ret ?_ | refine AWP.exit ?_ | refine Or.inl ?_) | (clear hK K))
    all_goals (refine fin0 ?_; simp only [wordV, h0, cond_false]; rfl)
  ·
    repeat' (first | (simp only [go_sem, zA, zB, zC, zD, zE, zF, zG, reduceCtorEq, zH, zI, zJ, zK, zL, h0]; all_goals fail_if_success guard_target =ₛ False) | (with_reducible first | ((first | refine seqVC_stepN rfl ?_ | refine AWP.seq ?_ | refine AWP.seqR (by kernel_rfl) ?_); intro K hK) | ((first | refine hK _ _ _ ?_ | refine hK _ _ ?_ | refine hK _ ?_); clear hK K) | refine seqVC_nil ?_ | refine AWP.block ?_ | (refine AWP.cond (by with_unfolding_all rfl) ?_ ?_ <;> intro h <;> (try simp only [zM, zN] at h) <;> try exact absurd h (by decide)) | refine AWP.skip ?_ | refine AWP.ret ?_ | refine AWP.exit ?_ | refine Or.inl ?_) | (clear hK K))
    all_goals (refine fin0 ?_; simp only [wordV, h0, cond_true]; rfl)
theorem run_k (k : Nat) (F : FuncId) (p : Int → Bool) (hF : ∀ n : Int, PC Tryd.prog F [I .u8 n] (Bo (p n))) (s : List UInt8) (hs : s.length ≤ 1000000000000) (i : Nat) (hi : i < s.length) :
    PCBk Tryd.prog 59 [Scp k, .one (.dat (.fn F))] k (scB s i) (S ((s.take (toW p s (i + 1))).drop i)) (scB s (toW p s (i + 1))) := PCBk.mk k (run_c F p hF s hs i hi)
/-- what words.number gives at the text t -/
def numT (neg : Bool) (d : List UInt8) : Tok × Int := bif decide ((numM neg d).2 = 0) then (⟨3, [], (numM neg d).1, 0⟩, 0) else (zeroTok, (numM neg d).2)
theorem trim_minus (d : List UInt8) : Lib.trimPrefix (45 :: d) [45] = d := by simp [Lib.trimPrefix, Lib.hasPrefix]
theorem trim_digs {d : List UInt8} (hd : allDig d) (hne : d ≠ []) : Lib.trimPrefix d [45] = d := by
  cases d with
  | nil => exact absurd rfl hne
  | cons c r =>
    have h := dig_bd (hd c List.mem_cons_self)
    have hc : ¬ (45 : UInt8) = c := fun e => by subst e; exact absurd h.1 (by decide)
    have e : Lib.hasPrefix (c :: r) [45] = false := by simp [Lib.hasPrefix, List.isPrefixOf, hc]
    simp [Lib.trimPrefix, e]
theorem b48 (b : UInt8) : decide ((b.toNat : Int) = 48) = decide (b = 48) := by
  apply decide_eq_decide.2
  constructor
  · intro h; apply UInt8.toNat_inj.1; show b.toNat = 48; omega
  · rintro rfl; rfl
/-- the text of a number: a minus or none, digits -/
theorem number_c (s : List UInt8) (hs : s.length ≤ 1000000000) (i : Nat) (hi : i < s.length) (neg : Bool) (d : List UInt8) (ht : (s.take (toW digI s (i + 1))).drop i = bif neg then 45 :: d else d) (hd : allDig d) (hne : d ≠ []) :
    PCB Tryd.prog 64 [Scp pin] [(pin, scB s i)] (TkR (numT neg d)) [(pin, scB s (toW digI s (i + 1)))] := by
  have hr := run_k 1000000 61 digI wordsdigit_c s (by omega) i hi
  rw [ht] at hr
  have htl : (bif neg then 45 :: d else d).length ≤ 1000000000 := by rw [← ht, List.length_drop, List.length_take]; omega
  have hcut : Lib.trimPrefix (bif neg then 45 :: d else d) [45] = d := by
    cases neg
    · exact trim_digs hd hne
    · exact trim_minus d
  have hT := trimPrefix_c (bif neg then 45 :: d else d) [45]
  rw [hcut] at hT
  have hP := parseInt_c (bif neg then 45 :: d else d) htl
  have hpos := parseInt_pos hd hne
  have hneg := parseInt_neg hd hne
  obtain ⟨b, r, rfl⟩ : ∃ b r, d = b :: r := by cases d with | nil => exact absurd rfl hne | cons b r => exact ⟨b, r, rfl⟩
  have hb0 : (b :: r)[0]? = some b := rfl
  have e48 : (decide ((b.toNat : Int) = 48) && !decide ((bif neg then 45 :: b :: r else b :: r) = [48])) = (decide ((b :: r).head? = some 48) && (decide (1 < (b :: r).length) || neg)) := by
    rw [b48]
    cases neg
    · cases r with
      | nil => by_cases h : b = 48 <;> simp [h]
      | cons c r => by_cases h : b = 48 <;> simp [h]
    · by_cases h : b = 48 <;> simp [h]
  have hpi : (decide ((b :: r).head? = some 48) && (decide (1 < (b :: r).length) || neg)) = false → Lib.parseIntB 64 (bif neg then 45 :: b :: r else b :: r) = if (numM neg (b :: r)).2 = 0 then .ok (numM neg (b :: r)).1 else .range := by
    intro h0
    unfold numM
    rw [h0, cond_false]
    cases neg
    · simp only [cond_false]
      by_cases h : decA 0 (b :: r) < 9223372036854775808
      · rw [hpos.1 h, decide_eq_true h]; rfl
      · rw [hpos.2 (by omega), decide_eq_false h]; rfl
    · simp only [cond_true]
      by_cases h : decA 0 (b :: r) ≤ 9223372036854775808
      · rw [hneg.1 h, decide_eq_true h]; rfl
      · rw [hneg.2 (by omega), decide_eq_false h]; rfl
  have hcode : (numM neg (b :: r)).2 = 0 ∨ (numM neg (b :: r)).2 = 2 ∨ ((numM neg (b :: r)).2 = 5 ∧ (decide ((b :: r).head? = some 48) && (decide (1 < (b :: r).length) || neg)) = true) := by
    unfold numM
    cases h0 : (decide ((b :: r).head? = some 48) && (decide (1 < (b :: r).length) || neg))
    · rw [cond_false]
      cases neg
      · simp only [cond_false]; cases decide (decA 0 (b :: r) < 9223372036854775808) <;> simp
      · simp only [cond_true]; cases decide (decA 0 (b :: r) ≤ 9223372036854775808) <;> simp
    · exact .inr (.inr ⟨rfl, rfl⟩)
  have hfive : (decide ((b :: r).head? = some 48) && (decide (1 < (b :: r).length) || neg)) = true → (numM neg (b :: r)).2 = 5 := by
    intro h0; unfold numM; rw [h0]; rfl
  generalize hX : (bif neg then 45 :: b :: r else b :: r) = X at *
  generalize (decide ((b :: r).head? = some 48) && (decide (1 < (b :: r).length) || neg)) = z at *
  unfold piT at hP
  refine PCB.of_body Tryd.func64 rfl (by decide) Tryd.ntmps64 Tryd.results64 rfl rfl rfl ?_ rfl rfl
  cases z with
  | true =>
    have h1 : decide ((b.toNat : Int) = 48) = true := by revert e48; cases decide ((b.toNat : Int) = 48) <;> simp
    have h2 : decide (X = [48]) = false := by revert e48; rw [h1]; cases decide (X = [48]) <;> simp
    have hq := hfive rfl
    repeat' (first | (simp only [go_sem, zA, zB, zC, zD, zE, zF, zG, reduceCtorEq, zH, zI, zJ, zK, zL, pin, h1, h2, vErr]; all_goals fail_if_success guard_target =ₛ False) | (with_reducible first | ((first | refine seqVC_stepN rfl ?_ | refine seqVC_stepG rfl (by with_unfolding_all rfl) ?_ | refine AWP.seq ?_ | refine AWP.seqR (by kernel_rfl) ?_); intro K hK) | ((first | refine hK _ _ _ ?_ | refine hK _ _ ?_ | refine hK _ ?_); clear hK K) | refine seqVC_nil ?_ | refine AWP.block ?_ | (refine AWP.cond (by with_unfolding_all rfl) ?_ ?_ <;> intro h <;> (try simp only [zM, zN] at h) <;> try exact absurd h (by decide)) | refine AWP.skip ?_ | refine AWP.ret ?_ | refine AWP.exit ?_ | (refine ⟨fun h => ?_, fun h => ?_⟩ <;> (try simp only [zM, zN] at h) <;> try simp only [h]) | refine ⟨_, hT, ?_⟩ | refine ⟨by omega, b, hb0, ?_⟩) | (refine ⟨1000000, _, _, _, hr, rfl, ?_⟩) | (with_reducible first | refine Or.inl ?_) | (clear hK K))
    all_goals (simp only [numT, hq, zeroTok, encTok])
    all_goals (refine ⟨by first | trivial | rfl, fun x hx => ?_⟩; simp only [List.mem_singleton] at hx; subst hx; simp)
  | false =>
    have hp := hpi rfl
    cases h1 : decide ((b.toNat : Int) = 48) with
    | false =>
      by_cases hz : (numM neg (b :: r)).2 = 0
      · rw [if_pos hz] at hp
        rw [hp] at hP
        repeat' (first | (simp only [go_sem, zA, zB, zC, zD, zE, zF, zG, reduceCtorEq, zH, zI, zJ, zK, zL, pin, h1, vErr]; all_goals fail_if_success guard_target =ₛ False) | (with_reducible first | ((first | refine seqVC_stepN rfl ?_ | refine seqVC_stepG rfl (by with_unfolding_all rfl) ?_ | refine AWP.seq ?_ | refine AWP.seqR (by kernel_rfl) ?_); intro K hK) | ((first | refine hK _ _ _ ?_ | refine hK _ _ ?_ | refine hK _ ?_); clear hK K) | refine seqVC_nil ?_ | refine AWP.block ?_ | (refine AWP.cond (by with_unfolding_all rfl) ?_ ?_ <;> intro h <;> (try simp only [zM, zN] at h) <;> try exact absurd h (by decide)) | refine AWP.skip ?_ | refine AWP.ret ?_ | refine AWP.exit ?_ | (refine ⟨fun h => ?_, fun h => ?_⟩ <;> (try simp only [zM, zN] at h) <;> try simp only [h]) | refine ⟨_, hT, ?_⟩ | refine ⟨_, hP, ?_⟩ | refine ⟨by omega, b, hb0, ?_⟩) | (refine ⟨1000000, _, _, _, hr, rfl, ?_⟩) | (with_reducible first | refine Or.inl ?_) | (clear hK K))
        all_goals (simp only [numT, hz, decide_true, cond_true, encTok])
        all_goals (refine ⟨by first | trivial | rfl, fun x hx => ?_⟩; simp only [List.mem_singleton] at hx; subst hx; simp)
      · rw [if_neg hz] at hp
        rw [hp] at hP
        have h2 : (numM neg (b :: r)).2 = 2 := by
          rcases hcode with h | h | ⟨_, h⟩
          · exact absurd h hz
          · exact h
          · cases h
        repeat' (first | (simp only [go_sem, zA, zB, zC, zD, zE, zF, zG, reduceCtorEq, zH, zI, zJ, zK, zL, pin, h1, vErr]; all_goals fail_if_success guard_target =ₛ False) | (with_reducible first | ((first | refine seqVC_stepN rfl ?_ | refine seqVC_stepG rfl (by with_unfolding_all rfl) ?_ | refine AWP.seq ?_ | refine AWP.seqR (by kernel_rfl) ?_); intro K hK) | ((first | refine hK _ _ _ ?_ | refine hK _ _ ?_ | refine hK _ ?_); clear hK K) | refine seqVC_nil ?_ | refine AWP.block ?_ | (refine AWP.cond (by with_unfolding_all rfl) ?_ ?_ <;> intro h <;> (try simp only [zM, zN] at h) <;> try exact absurd h (by decide)) | refine AWP.skip ?_ | refine AWP.ret ?_ | refine AWP.exit ?_ | (refine ⟨fun h => ?_, fun h => ?_⟩ <;> (try simp only [zM, zN] at h) <;> try simp only [h]) | refine ⟨_, hT, ?_⟩ | refine ⟨_, hP, ?_⟩ | refine ⟨by omega, b, hb0, ?_⟩) | (refine ⟨1000000, _, _, _, hr, rfl, ?_⟩) | (with_reducible first | refine Or.inl ?_) | (clear hK K))
        all_goals (simp only [numT, h2, zeroTok, encTok])
        all_goals (refine ⟨by first | trivial | rfl, fun x hx => ?_⟩; simp only [List.mem_singleton] at hx; subst hx; simp)
    | true =>
      have h2 : decide (X = [48]) = true := by revert e48; rw [h1]; cases decide (X = [48]) <;> simp
      by_cases hz : (numM neg (b :: r)).2 = 0
      · rw [if_pos hz] at hp
        rw [hp] at hP
        repeat' (first | (simp only [go_sem, zA, zB, zC, zD, zE, zF, zG, reduceCtorEq, zH, zI, zJ, zK, zL, pin, h1, h2, vErr]; all_goals fail_if_success guard_target =ₛ False) | (with_reducible first | ((first | refine seqVC_stepN rfl ?_ | refine seqVC_stepG rfl (by with_unfolding_all rfl) ?_ | refine AWP.seq ?_ | refine AWP.seqR (by kernel_rfl) ?_); intro K hK) | ((first | refine hK _ _ _ ?_ | refine hK _ _ ?_ | refine hK _ ?_); clear hK K) | refine seqVC_nil ?_ | refine AWP.block ?_ | (refine AWP.cond (by with_unfolding_all rfl) ?_ ?_ <;> intro h <;> (try simp only [zM, zN] at h) <;> try exact absurd h (by decide)) | refine AWP.skip ?_ | refine AWP.ret ?_ | refine AWP.exit ?_ | (refine ⟨fun h => ?_, fun h => ?_⟩ <;> (try simp only [zM, zN] at h) <;> try simp only [h]) | refine ⟨_, hT, ?_⟩ | refine ⟨_, hP, ?_⟩ | refine ⟨by omega, b, hb0, ?_⟩) | (refine ⟨1000000, _, _, _, hr, rfl, ?_⟩) | (with_reducible first | refine Or.inl ?_) | (clear hK K))
        all_goals (simp only [numT, hz, decide_true, cond_true, encTok])
        all_goals (refine ⟨by first | trivial | rfl, fun x hx => ?_⟩; simp only [List.mem_singleton] at hx; subst hx; simp)
      · rw [if_neg hz] at hp
        rw [hp] at hP
        have h3 : (numM neg (b :: r)).2 = 2 := by
          rcases hcode with h | h | ⟨_, h⟩
          · exact absurd h hz
          · exact h
          · cases h
        repeat' (first | (simp only [go_sem, zA, zB, zC, zD, zE, zF, zG, reduceCtorEq, zH, zI, zJ, zK, zL, pin, h1, h2, vErr]; all_goals fail_if_success guard_target =ₛ False) | (with_reducible first | ((first | refine seqVC_stepN rfl ?_ | refine seqVC_stepG rfl (by with_unfolding_all rfl) ?_ | refine AWP.seq ?_ | refine AWP.seqR (by kernel_rfl) ?_); intro K hK) | ((first | refine hK _ _ _ ?_ | refine hK _ _ ?_ | refine hK _ ?_); clear hK K) | refine seqVC_nil ?_ | refine AWP.block ?_ | (refine AWP.cond (by with_unfolding_all rfl) ?_ ?_ <;> intro h <;> (try simp only [zM, zN] at h) <;> try exact absurd h (by decide)) | refine AWP.skip ?_ | refine AWP.ret ?_ | refine AWP.exit ?_ | (refine ⟨fun h => ?_, fun h => ?_⟩ <;> (try simp only [zM, zN] at h) <;> try simp only [h]) | refine ⟨_, hT, ?_⟩ | refine ⟨_, hP, ?_⟩ | refine ⟨by omega, b, hb0, ?_⟩) | (refine ⟨1000000, _, _, _, hr, rfl, ?_⟩) | (with_reducible first | refine Or.inl ?_) | (clear hK K))
        all_goals (simp only [numT, h3, zeroTok, encTok])
        all_goals (refine ⟨by first | trivial | rfl, fun x hx => ?_⟩; simp only [List.mem_singleton] at hx; subst hx; simp)
/-- the signs, the longer ones first -/
def signL : List (List UInt8) := [[35, 123], [45, 62], [61, 62], [61, 61], [61, 60], [40], [41], [91], [93], [123], [125], [44], [59], [46], [58], [124], [47], [38], [61], [60], [43], [45], [42]]
def findS (t : List UInt8) : List (List UInt8) → Option (List UInt8)
  | [] => none
  | x :: l => bif Lib.hasPrefix t x then some x else findS t l
def signV (t : List UInt8) : (Tok × Int) × Nat := match findS t signL with
  | some x => ((⟨6, x, 0, 0⟩, 0), x.length)
  | none => ((zeroTok, 5), 0)
theorem prefix_len {t x : List UInt8} (h : Lib.hasPrefix t x = true) : x.length ≤ t.length := by
  unfold Lib.hasPrefix at h
  exact (List.isPrefixOf_iff_prefix.1 h).length_le
theorem gl0 : gl.lookup 0 = some [.sl 1 (signL.map Sx.encStr)] := rfl
theorem sign_c (s : List UInt8) (hs : s.length ≤ 1000000000) (i : Nat) (hi : i ≤ s.length) :
    PCB Tryd.prog 67 [Scp pin] [(pin, scB s i)] (TkR (signV (s.drop i)).1) [(pin, scB s (i + (signV (s.drop i)).2))] := by
  refine PCB.of_body Tryd.func67 rfl (by decide) Tryd.ntmps67 Tryd.results67 rfl rfl rfl ?_ rfl rfl
  repeat' (first | (simp only [go_sem, zA, zB, zC, zD, zE, zF, zG, reduceCtorEq, zH, zI, zJ, zK, zL, pin, gl0]; all_goals fail_if_success guard_target =ₛ False) | (with_reducible first | ((first | refine seqVC_stepN rfl ?_ | refine AWP.seq ?_ | refine AWP.seqR (by kernel_rfl) ?_ | refine parVC_stepN rfl ?_ | refine parEVC_stepN rfl ?_ | refine genVC_stepN rfl ?_); intro K hK) | ((first | refine hK _ _ _ ?_ | refine hK _ _ ?_ | refine hK _ ?_); clear hK K) | refine seqVC_nil ?_ | refine parVC_nil ?_ | refine parEVC_nil ?_ | refine genVC_nil ?_ | refine AWP.block ?_ | (refine AWP.cond (by with_unfolding_all rfl) ?_ ?_ <;> intro h <;> (try simp only [zM, zN] at h) <;> try exact absurd h (by decide)) | refine AWP.skip ?_ | refine AWP.ret ?_ | refine AWP.exit ?_ | refine AWP.parR mixed (by kernel_rfl) fun K hK => ?_ | refine ⟨(by kernel_rfl : depB _ _ _ = true), ?_⟩ | refine Or.inl ?_) | (clear hK K))
  refine AWP.len 6 rfl fun hlen0 => ?_
  (try rw [List.length_map] at hlen0)
  refine AWP.range (S := Nat) (signL) Sx.encStr (fun k u => (8, I .i64 (k : Nat)) :: []) (fun k u => [(1000000, scB s i), (2, .cells [.dat (.int .i64 0), .dat (.str []), .dat (.int .i64 0), .dat (.int .i64 0)])]) [0, 2, 6, 7] [] (fun k u => findS (s.drop i) signL = findS (s.drop i) (signL.drop k)) (0) (by simp only [go_sem, zA, zB, zC, zD, zE, zF, zG, reduceCtorEq, zH, zI, zJ, zK, zL]; exact Gh.to [] (by repeat (first | exact trivial | refine ⟨rfl, ?_⟩ | refine ⟨by (simp only [go_sem, zA, zB, zC, zD, zE, zF, zG, reduceCtorEq, zH, zI, zJ, zK, zL, List.length_append, List.length_map, List.length_cons, List.length_nil, Nat.zero_add]) <;> rfl, ?_⟩)) (by repeat (first | exact trivial | refine ⟨rfl, ?_⟩ | refine ⟨by (simp only [go_sem, zA, zB, zC, zD, zE, zF, zG, reduceCtorEq, zH, zI, zJ, zK, zL, List.length_append, List.length_map, List.length_cons, List.length_nil, Nat.zero_add]) <;> rfl, ?_⟩)) rfl rfl rfl) ?_ ?_ ?_
  · rfl
  · intro k u x hlt hx hx' hb hok
    simp only [go_sem, zA, zB, zC, zD, zE, zF, zG, reduceCtorEq, zH, zI, zJ, zK, zL]
    rw [List.drop_eq_getElem_cons hlt, show signL[k] = x from (List.getElem?_eq_some_iff.1 hx).2, findS] at hok
    have hp := hasPrefix_c (s.drop i) x
    cases hz : Lib.hasPrefix (s.drop i) x
    ·
      rw [hz, cond_false] at hok
      rw [hz] at hp
      repeat' (first | (simp only [go_sem, zA, zB, zC, zD, zE, zF, zG, reduceCtorEq, zH, zI, zJ, zK, zL, List.length_map, List.take_length, hb, encStr, pin]; all_goals fail_if_success guard_target =ₛ False) | (with_reducible first | ((first | refine seqVC_stepN rfl ?_ | refine AWP.seq ?_ | refine AWP.seqR (by kernel_rfl) ?_ | refine parVC_stepN rfl ?_ | refine parEVC_stepN rfl ?_ | refine genVC_stepN rfl ?_); intro K hK) | ((first | refine hK _ _ _ ?_ | refine hK _ _ ?_ | refine hK _ ?_); clear hK K) | refine seqVC_nil ?_ | refine parVC_nil ?_ | refine parEVC_nil ?_ | refine genVC_nil ?_ | refine AWP.block ?_ | (refine AWP.cond (by with_unfolding_all rfl) ?_ ?_ <;> intro h <;> (try simp only [zM, zN] at h) <;> try exact absurd h (by decide)) | refine AWP.skip ?_ | refine AWP.ret ?_ | refine AWP.exit ?_ | refine ⟨_, hp, ?_⟩ | refine ⟨by omega, encStr x, hx', ?_⟩ | refine ⟨by omega, ?_⟩ | refine ⟨by omega, by omega, by omega, ?_⟩ | refine AWP.parR mixed (by kernel_rfl) fun K hK => ?_ | refine ⟨(by kernel_rfl : depB _ _ _ = true), ?_⟩ | refine Or.inl ?_) | (clear hK K))
      all_goals (rw [wrap_succ hlt hlen0])
      all_goals (exact Gh.to [] (by repeat (first | exact trivial | refine ⟨rfl, ?_⟩ | refine ⟨by (simp only [go_sem, zA, zB, zC, zD, zE, zF, zG, reduceCtorEq, zH, zI, zJ, zK, zL, List.length_append, List.length_map, List.length_cons, List.length_nil, Nat.zero_add]) <;> rfl, ?_⟩)) (by repeat (first | exact trivial | refine ⟨rfl, ?_⟩ | refine ⟨by (simp only [go_sem, zA, zB, zC, zD, zE, zF, zG, reduceCtorEq, zH, zI, zJ, zK, zL, List.length_append, List.length_map, List.length_cons, List.length_nil, Nat.zero_add]) <;> rfl, ?_⟩)) rfl rfl rfl)
    ·
      rw [hz, cond_true] at hok
      rw [hz] at hp
      have hl := prefix_len hz
      rw [List.length_drop] at hl
      have hw : IntKind.i64.wrap ((i : Int) + (x.length : Int)) = ((i + x.length : Nat) : Int) := by rw [w64 (by omega)]; rfl
      repeat' (first | (simp only [go_sem, zA, zB, zC, zD, zE, zF, zG, reduceCtorEq, zH, zI, zJ, zK, zL, List.length_map, List.take_length, hb, encStr, pin, hw]; all_goals fail_if_success guard_target =ₛ False) | (with_reducible first | ((first | refine seqVC_stepN rfl ?_ | refine AWP.seq ?_ | refine AWP.seqR (by kernel_rfl) ?_ | refine parVC_stepN rfl ?_ | refine parEVC_stepN rfl ?_ | refine genVC_stepN rfl ?_); intro K hK) | ((first | refine hK _ _ _ ?_ | refine hK _ _ ?_ | refine hK _ ?_); clear hK K) | refine seqVC_nil ?_ | refine parVC_nil ?_ | refine parEVC_nil ?_ | refine genVC_nil ?_ | refine AWP.block ?_ | (refine AWP.cond (by with_unfolding_all rfl) ?_ ?_ <;> intro h <;> (try simp only [zM, zN] at h) <;> try exact absurd h (by decide)) | refine AWP.skip ?_ | refine AWP.ret ?_ | refine AWP.exit ?_ | refine ⟨_, hp, ?_⟩ | refine ⟨by omega, encStr x, hx', ?_⟩ | refine ⟨by omega, ?_⟩ | refine ⟨by omega, by omega, by omega, ?_⟩ | refine AWP.parR mixed (by kernel_rfl) fun K hK => ?_ | refine ⟨(by kernel_rfl : depB _ _ _ = true), ?_⟩ | refine Or.inl ?_) | (clear hK K))
      all_goals (simp only [signV, hok])
      all_goals (refine ⟨by first | trivial | rfl, fun x hx => ?_⟩; simp only [List.mem_singleton] at hx; subst hx; simp)
  · intro u hb hok
    simp only [go_sem, zA, zB, zC, zD, zE, zF, zG, reduceCtorEq, zH, zI, zJ, zK, zL]
    rw [List.drop_length, findS] at hok
    repeat' (first | (simp only [go_sem, zA, zB, zC, zD, zE, zF, zG, reduceCtorEq, zH, zI, zJ, zK, zL, List.length_map, hb, pin]; all_goals fail_if_success guard_target =ₛ False) | (with_reducible first | ((first | refine seqVC_stepN rfl ?_ | refine AWP.seq ?_ | refine AWP.seqR (by kernel_rfl) ?_ | refine parVC_stepN rfl ?_ | refine parEVC_stepN rfl ?_ | refine genVC_stepN rfl ?_); intro K hK) | ((first | refine hK _ _ _ ?_ | refine hK _ _ ?_ | refine hK _ ?_); clear hK K) | refine seqVC_nil ?_ | refine parVC_nil ?_ | refine parEVC_nil ?_ | refine genVC_nil ?_ | refine AWP.block ?_ | (refine AWP.cond (by with_unfolding_all rfl) ?_ ?_ <;> intro h <;> (try simp only [zM, zN] at h) <;> try exact absurd h (by decide)) | refine AWP.skip ?_ | refine AWP.ret ?_ | refine AWP.exit ?_ | refine AWP.parR mixed (by kernel_rfl) fun K hK => ?_ | refine ⟨(by kernel_rfl : depB _ _ _ = true), ?_⟩ | refine Or.inl ?_) | (clear hK K))
    all_goals (simp only [signV, hok])
    all_goals (refine ⟨by first | trivial | rfl, fun x hx => ?_⟩; simp only [List.mem_singleton] at hx; subst hx; simp)
end Go.Proofs.YtogponhonjiidaaDoor
set_option linter.unusedVariables false
set_option maxRecDepth 20000
namespace Go.Proofs.YtogponhonjiidaaDoor
open Go Go.Sx
open Nat renaming reduceBEq → zA, reduceBNe → zB, reduceAdd → zC, reduceSub → zD, reduceMul → zE, reduceLeDiff → zF, reduceLT → zG, reduceEqDiff → zH
open Int renaming reduceToNat → zI, reduceLE → zJ, reduceLT → zK, reduceEq → zL
open Bool renaming not_eq_true' → zM, not_eq_false' → zN
theorem errG {W : World} {n : String} {d : DataW Unit} {nm : String} {rest : List (String × DataW Unit)} {g : Nat} (hg : Tryd.prog.globalNamed n = some g) (hty : (Tryd.prog.globals[g]?).map (·.type) = some 82)
    (h : laidMet Tryd.prog ((n, DataW.iface nm d) :: rest) W) : ∃ vs, At (W.heap[g]?) 0 vs ∧ repRow (fun b => W.heap[b]?) [.err true] vs := by
  obtain ⟨g', t, cs, fuel, p, h1, h2, h3, h4⟩ := laidMet_head h
  obtain rfl := Option.some.inj (hg.symm.trans h1)
  obtain rfl := Option.some.inj (hty.symm.trans h2)
  obtain ⟨et, fz, hb⟩ := tab_of h3 hg
  obtain ⟨te, pe, hcs⟩ := err_of Tryd.underlying82 h4
  refine ⟨[.iface te pe], ⟨cs, et, fz, [], [], hb, by rw [hcs]; rfl, rfl⟩, ?_⟩
  simp only [repRow, C.rep, cond_true]
  exact ⟨_, _, rfl, ⟨te, pe, rfl⟩, rfl⟩
theorem repStrs {M : Mem0} : ∀ l : List (List UInt8), repRows M 1 (l.map Sx.encStr) (l.map fun s => Value.string ⟨s.toArray⟩)
  | [] => by simp [repRows]
  | s :: l => by
    have := repStrs (M := M) l
    simp only [List.map_cons, repRows]
    exact ⟨[.string ⟨s.toArray⟩], _, rfl, rfl, by simp only [Sx.encStr, repRow, C.rep]; exact ⟨_, _, rfl, rfl, rfl⟩, this⟩
theorem repInts {M : Mem0} : ∀ l : List Int, repRow M (l.map fun z => C.int .u64 z) (l.map fun z => Value.int .u64 z)
  | [] => by simp [repRow]
  | s :: l => by
    have := repInts (M := M) l
    simp only [List.map_cons, repRow, C.rep]
    exact ⟨_, _, rfl, rfl, this⟩
theorem globOk {W : World} (hL : laidMet Tryd.prog Rows.tokenReservedRow.laid W) (hS : W.ShapedOpen Tryd.prog) : GlobOk (fun b => W.heap[b]?) := by
  have l2 := laidMet_tail (laidMet_tail hL)
  have l3 := laidMet_tail l2
  have l4 := laidMet_tail l3
  have l6 := laidMet_tail (laidMet_tail l4)
  have e5 := errG (g := 5) (by kernel_rfl) (by kernel_rfl) l3
  have e4 := errG (g := 4) (by kernel_rfl) (by kernel_rfl) l4
  have e1 : Lib.TabIs Tryd.prog W "internal/strconv.uint64pow10" .u64 pow10V := Lib.tabIs_of_head (g := 1) (t := 134) (e := 107) (n := 20) (by kernel_rfl) (by kernel_rfl) Tryd.underlying134 Tryd.underlying107 (by kernel_rfl) (by kernel_rfl) l2
  obtain ⟨t1, z1, b1⟩ := tab_of e1 (g := 1) (by kernel_rfl)
  have e0 : ∃ vs, At (W.heap[0]?) 0 vs ∧ repRow (fun b => W.heap[b]?) [.sl 1 (signL.map Sx.encStr)] vs := by
    obtain ⟨g', t, cs, fuel, p, h1, h2, h3, h4⟩ := laidMet_head l6
    obtain rfl := Option.some.inj ((show Tryd.prog.globalNamed "semtype/words.signs" = some 0 by kernel_rfl).symm.trans h1)
    obtain rfl := Option.some.inj ((show (Tryd.prog.globals[0]?).map (·.type) = some 28 by kernel_rfl).symm.trans h2)
    obtain ⟨et, fz, hb⟩ := tab_of h3 h1
    obtain ⟨b, off, cap, hcs, hc1, hc2, hat⟩ := strs_of (strs := signL) (rst := []) Tryd.underlying28 Tryd.underlying9 (by kernel_rfl) (by decide) h4
    refine ⟨[.slice (some ⟨b, off, none⟩) signL.length cap], ⟨cs, et, fz, [], [], hb, by rw [hcs]; rfl, rfl⟩, ?_⟩
    simp only [repRow, C.rep]
    refine ⟨_, _, rfl, ⟨_, cap, signL.map fun s => Value.string ⟨s.toArray⟩, rfl, hc1, hc2, repStrs signL, .inr ⟨b, off, rfl, hat⟩⟩, rfl⟩
  have em : ∃ m : Int, At (W.heap[3]?) 0 [.int .i64 m] := by
    obtain ⟨m, hm⟩ := Go.Proofs.cell_of_shapedOpen_int (g := 3) (k := .i64) (zero := #[.int .i64 0]) (t := 3) hS (of_decide_eq_true (by kernel_rfl)) (by kernel_rfl) rfl (by kernel_rfl) (by kernel_rfl) Tryd.underlying3
    exact ⟨m, at_of_cells (by simp) fun i v hv => by
      cases i with
      | zero => cases hv; exact hm
      | succ i => simp at hv⟩
  refine ⟨fun g r hg => ?_, em, t1, z1, b1⟩
  by_cases g0 : g = 0
  · subst g0
    obtain rfl := Option.some.inj (gl0.symm.trans hg)
    exact e0
  by_cases g1 : g = 1
  · subst g1
    obtain rfl := Option.some.inj ((show gl.lookup 1 = some (pow10V.map fun z => C.int .u64 z) from rfl).symm.trans hg)
    exact ⟨pow10V.map fun z => Value.int .u64 z, ⟨_, t1, z1, [], [], b1, by simp, rfl⟩, repInts pow10V⟩
  by_cases g4 : g = 4
  · subst g4
    obtain rfl := Option.some.inj ((show gl.lookup 4 = some [.err true] from rfl).symm.trans hg)
    exact e4
  by_cases g5 : g = 5
  · subst g5
    obtain rfl := Option.some.inj ((show gl.lookup 5 = some [.err true] from rfl).symm.trans hg)
    exact e5
  · exfalso
    have h0 : (g == 0) = false := by simpa using g0
    have h1 : (g == 1) = false := by simpa using g1
    have h4 : (g == 4) = false := by simpa using g4
    have h5 : (g == 5) = false := by simpa using g5
    unfold gl at hg
    simp only [List.lookup, h0, h1, h4, h5] at hg
    cases hg
end Go.Proofs.YtogponhonjiidaaDoor
set_option linter.unusedSimpArgs false
set_option linter.unusedVariables false
set_option maxRecDepth 20000
set_option maxHeartbeats 16000000
namespace Go.Proofs.YtogponhonjiidaaDoor
open Go Go.Sx
open Nat renaming reduceBEq → zA, reduceBNe → zB, reduceAdd → zC, reduceSub → zD, reduceMul → zE, reduceLeDiff → zF, reduceLT → zG, reduceEqDiff → zH
open Int renaming reduceToNat → zI, reduceLE → zJ, reduceLT → zK, reduceEq → zL
open Bool renaming not_eq_true' → zM, not_eq_false' → zN
open Go.RowKit
theorem by1 (b : UInt8) : bytesOf [[C.int .u8 (b.toNat : Int)]] = some [b] := bytesOf_enc [b]
theorem itoa_neg {n : Int} (h : n < 0) : Lib.itoa n = 45 :: Lib.decDigits n.natAbs := by unfold Lib.itoa; rw [if_pos h]
theorem itoa_pos {n : Int} (h : ¬ n < 0) : Lib.itoa n = Lib.decDigits n.toNat := by unfold Lib.itoa; rw [if_neg h]
theorem dig_step {u : Nat} (h : ¬ u < 10) : Lib.decDigits u = Lib.decDigits (u / 10) ++ [UInt8.ofNat (48 + u % 10)] := by rw [Lib.decDigits, dif_neg h]
theorem digits_le : ∀ (k u : Nat), u < 10 ^ (k + 1) → (Lib.decDigits u).length ≤ k + 1
  | 0, u, h => by rw [Lib.decDigits, dif_pos (by simpa using h)]; simp
  | k + 1, u, h => by
    by_cases h1 : u < 10
    · rw [Lib.decDigits, dif_pos h1]; simp
    · rw [dig_step h1, List.length_append]
      have := digits_le k (u / 10) (by rw [Nat.pow_succ] at h; omega)
      simp only [List.length_cons, List.length_nil]; omega
theorem digB (r : Nat) (h : r < 10) : IntKind.u8.wrap (IntKind.i64.wrap (48 + (r : Int))) = ((UInt8.ofNat (48 + r)).toNat : Int) := by
  have : ∀ r : Nat, r < 10 → IntKind.u8.wrap (IntKind.i64.wrap (48 + (r : Int))) = ((UInt8.ofNat (48 + r)).toNat : Int) := by decide +kernel
  exact this r h
theorem itoa_len {n : Int} (h0 : -9223372036854775808 ≤ n) (h1 : n ≤ 9223372036854775807) : (Lib.itoa n).length ≤ 30 := by
  unfold Lib.itoa
  split
  · have := digits_le 19 n.natAbs (by omega)
    rw [List.length_cons]; omega
  · have := digits_le 19 n.toNat (by omega)
    omega
theorem wrapI (z : Int) (h0 : -9223372036854775808 ≤ z) (h1 : z ≤ 9223372036854775807) : IntKind.i64.wrap z = z := by rw [IntKind.wrap_i64]; omega
theorem decimal_c : ∀ (m : Nat) (n : Int), n.natAbs ≤ m → -9223372036854775808 ≤ n → n ≤ 9223372036854775807 → PC Tryd.prog 26 [I .i64 n] (S (Lib.itoa n)) := by
  intro m
  induction m with
  | zero =>
    intro n hm _ _
    obtain rfl : n = 0 := by omega
    have e : Lib.itoa 0 = [UInt8.ofNat (48 + 0)] := by rw [itoa_pos (by omega), show (0 : Int).toNat = 0 from rfl, Lib.decDigits, dif_pos (by omega)]
    rw [e]
    have hb : IntKind.u8.wrap (IntKind.i64.wrap 48) = ((UInt8.ofNat (48 + 0)).toNat : Int) := by decide
    have hlt : decide ((0 : Int) < 0) = false := by decide
    have hlt2 : decide ((0 : Int) < 10) = true := by decide
    have h0 : IntKind.i64.wrap (48 + Int.tmod 0 10) = IntKind.i64.wrap 48 := by decide
    have h1 := by1 (UInt8.ofNat (48 + 0))
    generalize UInt8.ofNat (48 + 0) = x at hb h1
    refine PCB.of_body Tryd.func26 rfl (by decide) Tryd.ntmps26 Tryd.results26 rfl rfl rfl ?_ rfl rfl
    repeat' (first | (simp only [go_sem, zA, zB, zC, zD, zE, zF, zG, reduceCtorEq, zH, zI, zJ, zK, zL, hlt, hlt2, h0, hb, h1]; all_goals fail_if_success guard_target =ₛ False) | (with_reducible first | ((first | refine seqVC_stepN rfl ?_ | refine AWP.seq ?_ | refine AWP.seqR (by kernel_rfl) ?_); intro K hK) | ((first | refine hK _ _ _ ?_ | refine hK _ _ ?_ | refine hK _ ?_); clear hK K) | refine seqVC_nil ?_ | refine AWP.block ?_ | (refine AWP.cond (by with_unfolding_all rfl) ?_ ?_ <;> intro h <;> (try simp only [zM, zN] at h) <;> try exact absurd h (by decide)) | refine AWP.skip ?_ | refine AWP.ret ?_ | refine AWP.exit ?_ | refine ⟨by decide, ?_⟩ | refine Or.inl ?_) | (clear hK K))
    all_goals (first | exact fun _ h => absurd h List.not_mem_nil | refine fin0 ?_)
    all_goals rfl
  | succ m ih =>
    intro n hm hn0 hn1
    by_cases hneg : n < 0
    · obtain ⟨u, hu⟩ : ∃ u : Nat, n = -(u : Int) := ⟨n.natAbs, by omega⟩
      have hlt : decide (n < 0) = true := by simpa using hneg
      have hnu : n.natAbs = u := by omega
      have hq : IntKind.i64.wrap (n.tdiv 10) = -((u / 10 : Nat) : Int) := by
        rw [show n.tdiv 10 = -((u / 10 : Nat) : Int) by rw [hu, Int.neg_tdiv]; rfl]
        exact wrapI _ (by omega) (by omega)
      have hr : IntKind.i64.wrap (0 - n.tmod 10) = ((u % 10 : Nat) : Int) := by
        rw [show n.tmod 10 = -((u % 10 : Nat) : Int) by rw [hu, Int.neg_tmod]; rfl]
        rw [show (0 : Int) - -((u % 10 : Nat) : Int) = ((u % 10 : Nat) : Int) by omega]
        exact wrapI _ (by omega) (by omega)
      have hb := digB (u % 10) (by omega)
      have h1 := by1 (UInt8.ofNat (48 + u % 10))
      have hI := itoa_neg hneg
      rw [hnu] at hI
      by_cases h10 : u < 10
      · have hz : decide (-((u / 10 : Nat) : Int) = 0) = true := by rw [decide_eq_true_eq]; omega
        rw [Lib.decDigits, dif_pos h10, show u = u % 10 by omega] at hI
        rw [hI]
        have hml : 1 + 1 ≤ maxLen := by unfold maxLen; omega
        generalize UInt8.ofNat (48 + u % 10) = x at hb h1
        refine PCB.of_body Tryd.func26 rfl (by decide) Tryd.ntmps26 Tryd.results26 rfl rfl rfl ?_ rfl rfl
        repeat' (first | (simp only [go_sem, zA, zB, zC, zD, zE, zF, zG, reduceCtorEq, zH, zI, zJ, zK, zL, hlt, hq, hr, hb, h1, hz, List.length_cons, List.length_nil, List.cons_append, List.nil_append]; all_goals fail_if_success guard_target =ₛ False) | (with_reducible first | ((first | refine seqVC_stepN rfl ?_ | refine AWP.seq ?_ | refine AWP.seqR (by kernel_rfl) ?_); intro K hK) | ((first | refine hK _ _ _ ?_ | refine hK _ _ ?_ | refine hK _ ?_); clear hK K) | refine seqVC_nil ?_ | refine AWP.block ?_ | (refine AWP.cond (by with_unfolding_all rfl) ?_ ?_ <;> intro h <;> (try simp only [zM, zN] at h) <;> try exact absurd h (by decide)) | refine AWP.skip ?_ | refine AWP.ret ?_ | refine AWP.exit ?_ | refine ⟨by decide, ?_⟩ | refine ⟨hml, ?_⟩ | refine Or.inl ?_) | (clear hK K))
        all_goals (first | exact fun _ h => absurd h List.not_mem_nil | refine fin0 ?_)
        all_goals rfl
      · have hz : decide (-((u / 10 : Nat) : Int) = 0) = false := by rw [decide_eq_false_iff_not]; omega
        have hrec := ih (-((u / 10 : Nat) : Int)) (by omega) (by omega) (by omega)
        have hlen := itoa_len (n := -((u / 10 : Nat) : Int)) (by omega) (by omega)
        have hIq : Lib.itoa (-((u / 10 : Nat) : Int)) = 45 :: Lib.decDigits (u / 10) := by rw [itoa_neg (by omega)]; congr 2; omega
        rw [dig_step h10] at hI
        have hfin : Lib.itoa n = Lib.itoa (-((u / 10 : Nat) : Int)) ++ [UInt8.ofNat (48 + u % 10)] := by rw [hI, hIq]; rfl
        rw [hfin]
        have hml : (Lib.itoa (-((u / 10 : Nat) : Int))).length + 1 ≤ maxLen := by unfold maxLen; omega
        generalize UInt8.ofNat (48 + u % 10) = x at hb h1
        refine PCB.of_body Tryd.func26 rfl (by decide) Tryd.ntmps26 Tryd.results26 rfl rfl rfl ?_ rfl rfl
        repeat' (first | (simp only [go_sem, zA, zB, zC, zD, zE, zF, zG, reduceCtorEq, zH, zI, zJ, zK, zL, hlt, hq, hr, hb, h1, hz, List.length_cons, List.length_nil]; all_goals fail_if_success guard_target =ₛ False) | (with_reducible first | ((first | refine seqVC_stepN rfl ?_ | refine AWP.seq ?_ | refine AWP.seqR (by kernel_rfl) ?_); intro K hK) | ((first | refine hK _ _ _ ?_ | refine hK _ _ ?_ | refine hK _ ?_); clear hK K) | refine seqVC_nil ?_ | refine AWP.block ?_ | (refine AWP.cond (by with_unfolding_all rfl) ?_ ?_ <;> intro h <;> (try simp only [zM, zN] at h) <;> try exact absurd h (by decide)) | refine AWP.skip ?_ | refine AWP.ret ?_ | refine AWP.exit ?_ | refine ⟨_, hrec, ?_⟩ | refine ⟨by decide, ?_⟩ | refine ⟨hml, ?_⟩ | refine Or.inl ?_) | (clear hK K))
        all_goals (first | exact fun _ h => absurd h List.not_mem_nil | refine fin0 ?_)
        all_goals rfl
    · obtain ⟨u, hu⟩ : ∃ u : Nat, n = (u : Int) := ⟨n.toNat, by omega⟩
      have hlt : decide (n < 0) = false := by simpa using hneg
      have hnu : n.toNat = u := by omega
      have hr : n.tmod 10 = ((u % 10 : Nat) : Int) := by rw [hu]; rfl
      have hq : IntKind.i64.wrap (n.tdiv 10) = ((u / 10 : Nat) : Int) := by
        rw [show n.tdiv 10 = ((u / 10 : Nat) : Int) by rw [hu]; rfl]
        exact wrapI _ (by omega) (by omega)
      have hb := digB (u % 10) (by omega)
      have h1 := by1 (UInt8.ofNat (48 + u % 10))
      have hI := itoa_pos hneg
      rw [hnu] at hI
      by_cases h10 : u < 10
      · have hz : decide (n < 10) = true := by rw [decide_eq_true_eq]; omega
        rw [Lib.decDigits, dif_pos h10, show u = u % 10 by omega] at hI
        rw [hI]
        generalize UInt8.ofNat (48 + u % 10) = x at hb h1
        refine PCB.of_body Tryd.func26 rfl (by decide) Tryd.ntmps26 Tryd.results26 rfl rfl rfl ?_ rfl rfl
        repeat' (first | (simp only [go_sem, zA, zB, zC, zD, zE, zF, zG, reduceCtorEq, zH, zI, zJ, zK, zL, hlt, hr, hb, h1, hz]; all_goals fail_if_success guard_target =ₛ False) | (with_reducible first | ((first | refine seqVC_stepN rfl ?_ | refine AWP.seq ?_ | refine AWP.seqR (by kernel_rfl) ?_); intro K hK) | ((first | refine hK _ _ _ ?_ | refine hK _ _ ?_ | refine hK _ ?_); clear hK K) | refine seqVC_nil ?_ | refine AWP.block ?_ | (refine AWP.cond (by with_unfolding_all rfl) ?_ ?_ <;> intro h <;> (try simp only [zM, zN] at h) <;> try exact absurd h (by decide)) | refine AWP.skip ?_ | refine AWP.ret ?_ | refine AWP.exit ?_ | refine ⟨by decide, ?_⟩ | refine Or.inl ?_) | (clear hK K))
        all_goals (first | exact fun _ h => absurd h List.not_mem_nil | refine fin0 ?_)
        all_goals rfl
      · have hz : decide (n < 10) = false := by rw [decide_eq_false_iff_not]; omega
        have hrec := ih ((u / 10 : Nat) : Int) (by omega) (by omega) (by omega)
        have hlen := itoa_len (n := ((u / 10 : Nat) : Int)) (by omega) (by omega)
        have hIq : Lib.itoa ((u / 10 : Nat) : Int) = Lib.decDigits (u / 10) := by rw [itoa_pos (by omega)]; congr 1
        rw [dig_step h10, ← hIq] at hI
        rw [hI]
        have hml : (Lib.itoa ((u / 10 : Nat) : Int)).length + 1 ≤ maxLen := by unfold maxLen; omega
        generalize UInt8.ofNat (48 + u % 10) = x at hb h1
        refine PCB.of_body Tryd.func26 rfl (by decide) Tryd.ntmps26 Tryd.results26 rfl rfl rfl ?_ rfl rfl
        repeat' (first | (simp only [go_sem, zA, zB, zC, zD, zE, zF, zG, reduceCtorEq, zH, zI, zJ, zK, zL, hlt, hr, hq, hb, h1, hz, List.length_cons, List.length_nil]; all_goals fail_if_success guard_target =ₛ False) | (with_reducible first | ((first | refine seqVC_stepN rfl ?_ | refine AWP.seq ?_ | refine AWP.seqR (by kernel_rfl) ?_); intro K hK) | ((first | refine hK _ _ _ ?_ | refine hK _ _ ?_ | refine hK _ ?_); clear hK K) | refine seqVC_nil ?_ | refine AWP.block ?_ | (refine AWP.cond (by with_unfolding_all rfl) ?_ ?_ <;> intro h <;> (try simp only [zM, zN] at h) <;> try exact absurd h (by decide)) | refine AWP.skip ?_ | refine AWP.ret ?_ | refine AWP.exit ?_ | refine ⟨_, hrec, ?_⟩ | refine ⟨by decide, ?_⟩ | refine ⟨hml, ?_⟩ | refine Or.inl ?_) | (clear hK K))
        all_goals (first | exact fun _ h => absurd h List.not_mem_nil | refine fin0 ?_)
        all_goals rfl
end Go.Proofs.YtogponhonjiidaaDoor
set_option linter.unusedSimpArgs false
set_option linter.unusedVariables false
set_option maxRecDepth 20000
set_option maxHeartbeats 16000000
namespace Go.Proofs.YtogponhonjiidaaDoor
open Go Go.Sx
open Nat renaming reduceBEq → zA, reduceBNe → zB, reduceAdd → zC, reduceSub → zD, reduceMul → zE, reduceLeDiff → zF, reduceLT → zG, reduceEqDiff → zH
open Int renaming reduceToNat → zI, reduceLE → zJ, reduceLT → zK, reduceEq → zL
open Bool renaming not_eq_true' → zM, not_eq_false' → zN
/-- the source of numbers -/
structure Src where
  l : List Int
  pos : Nat
def encZ (n : Int) : List C := [.int .i64 n]
def Src.ok (s : Src) : Prop := (∀ x ∈ s.l, -9223372036854775808 ≤ x ∧ x ≤ 9223372036854775807) ∧ s.l.length ≤ 1000000
abbrev srcB (s : Src) : Res := .cells [.dat (.sl 1 (s.l.map encZ)), .dat (.int .i64 s.pos)]
abbrev Sp (k : Nat) : T := .one (.ptr k 0)
def emptyS (s : Src) (n : Int) : Bool := decide (n < 1) || decide ((s.l.length : Int) ≤ (s.pos : Int))
def drawV (s : Src) (n : Int) : Int := bif emptyS s n then 0 else bif decide (((s.l[s.pos]?).getD 0).tmod n < 0) then ((s.l[s.pos]?).getD 0).tmod n + n else ((s.l[s.pos]?).getD 0).tmod n
def nextS (s : Src) (n : Int) : Src := bif emptyS s n then s else { s with pos := s.pos + 1 }
theorem ok_next {s : Src} (h : s.ok) (n : Int) : (nextS s n).ok := by
  unfold nextS; cases emptyS s n <;> exact h
theorem drawV_in (s : Src) {n : Int} (hn : 1 ≤ n) : 0 ≤ drawV s n ∧ drawV s n < n := by
  unfold drawV
  cases emptyS s n with
  | true => simp only [cond_true]; omega
  | false =>
    simp only [cond_false]
    generalize (s.l[s.pos]?).getD 0 = x
    have h1 : (x.tmod n) < n := Int.tmod_lt_of_pos x (by omega)
    have h2 : -n < x.tmod n := by
      have := Int.lt_tmod_of_pos x (show 0 < n by omega)
      omega
    cases hc : decide (x.tmod n < 0) with
    | true => simp only [decide_eq_true_eq] at hc; simp only [cond_true]; omega
    | false => simp only [decide_eq_false_iff_not] at hc; simp only [cond_false]; omega
theorem draw_c (s : Src) (hs : s.ok) (n : Int) (hn : 1 ≤ n ∧ n ≤ 1000000) : PCB Tryd.prog 32 [Sp pin, I .i64 n] [(pin, srcB s)] (I .i64 (drawV s n)) [(pin, srcB (nextS s n))] := by
  refine PCB.of_body Tryd.func32 rfl (by decide) Tryd.ntmps32 Tryd.results32 rfl rfl rfl ?_ rfl rfl
  have h1 : decide (n < 1) = false := by simp; omega
  by_cases hp : s.pos < s.l.length
  · have h2 : decide ((s.l.length : Int) ≤ (s.pos : Int)) = false := by simp; omega
    have hx : s.l[s.pos]? = some s.l[s.pos] := by simp [hp]
    have hx' : (s.l.map encZ)[s.pos]? = some (encZ s.l[s.pos]) := by simp [hp]
    have hn0 : ¬ n = 0 := by omega
    have hw : IntKind.i64.wrap ((s.pos : Int) + 1) = ((s.pos + 1 : Nat) : Int) := by rw [wrapI _ (by omega) (by have := hs.2; omega)]; omega
    have hb1 := Int.tmod_lt_of_pos s.l[s.pos] (show 0 < n by omega)
    have hb2 := Int.lt_tmod_of_pos s.l[s.pos] (show 0 < n by omega)
    have hw2 : IntKind.i64.wrap (s.l[s.pos].tmod n + n) = s.l[s.pos].tmod n + n := wrapI _ (by omega) (by omega)
    have he : emptyS s n = false := by unfold emptyS; rw [h1, h2]; rfl
    repeat' (first | (simp only [go_sem, zA, zB, zC, zD, zE, zF, zG, reduceCtorEq, zH, zI, zJ, zK, zL, pin, List.length_map, encZ, h1, h2, hw, hw2]; all_goals fail_if_success guard_target =ₛ False) | (with_reducible first | ((first | refine seqVC_stepN rfl ?_ | refine seqVC_stepG rfl (by with_unfolding_all rfl) ?_ | refine AWP.seq ?_ | refine AWP.seqR (by kernel_rfl) ?_ | refine parVC_stepN rfl ?_ | refine parVC_stepG rfl (by with_unfolding_all rfl) ?_ | refine parEVC_stepN rfl ?_ | refine parEVC_stepG rfl (by with_unfolding_all rfl) ?_ | refine genVC_stepN rfl ?_ | refine genVC_stepG rfl (by with_unfolding_all rfl) ?_); intro K hK) | ((first | refine hK _ _ _ ?_ | refine hK _ _ ?_ | refine hK _ ?_); clear hK K) | refine seqVC_nil ?_ | refine parVC_nil ?_ | refine parEVC_nil ?_ | refine genVC_nil ?_ | refine AWP.block ?_ | (refine AWP.cond (by with_unfolding_all rfl) ?_ ?_ <;> intro h <;> (try simp only [zM, zN] at h) <;> try exact absurd h (by decide)) | refine AWP.skip ?_ | refine AWP.ret ?_ | refine AWP.exit ?_ | (refine ⟨fun h => ?_, fun h => ?_⟩ <;> (try simp only [zM, zN] at h) <;> try simp only [h]) | refine ⟨by omega, encZ s.l[s.pos], hx', ?_⟩ | refine ⟨by omega, ?_⟩ | refine ⟨hn0, ?_⟩ | refine AWP.parR mixed (by kernel_rfl) fun K hK => ?_ | refine ⟨(by kernel_rfl : depB _ _ _ = true), ?_⟩ | refine Or.inl ?_) | (clear hK K))
    all_goals (simp only [decide_eq_true_eq, decide_eq_false_iff_not] at h)
    all_goals (refine ⟨by simp only [drawV, he, cond_false, hx, Option.getD_some, h, decide_true, decide_false, cond_true], fun x hx => by simpa only [nextS, he, cond_false] using hx⟩)
  · have h2 : decide ((s.l.length : Int) ≤ (s.pos : Int)) = true := by simp; omega
    have he : emptyS s n = true := by unfold emptyS; rw [h1, h2]; rfl
    repeat' (first | (simp only [go_sem, zA, zB, zC, zD, zE, zF, zG, reduceCtorEq, zH, zI, zJ, zK, zL, pin, List.length_map, h1, h2]; all_goals fail_if_success guard_target =ₛ False) | (with_reducible first | ((first | refine seqVC_stepN rfl ?_ | refine seqVC_stepG rfl (by with_unfolding_all rfl) ?_ | refine AWP.seq ?_ | refine AWP.seqR (by kernel_rfl) ?_ | refine parVC_stepN rfl ?_ | refine parVC_stepG rfl (by with_unfolding_all rfl) ?_ | refine parEVC_stepN rfl ?_ | refine parEVC_stepG rfl (by with_unfolding_all rfl) ?_ | refine genVC_stepN rfl ?_ | refine genVC_stepG rfl (by with_unfolding_all rfl) ?_); intro K hK) | ((first | refine hK _ _ _ ?_ | refine hK _ _ ?_ | refine hK _ ?_); clear hK K) | refine seqVC_nil ?_ | refine parVC_nil ?_ | refine parEVC_nil ?_ | refine genVC_nil ?_ | refine AWP.block ?_ | (refine AWP.cond (by with_unfolding_all rfl) ?_ ?_ <;> intro h <;> (try simp only [zM, zN] at h) <;> try exact absurd h (by decide)) | refine AWP.skip ?_ | refine AWP.ret ?_ | refine AWP.exit ?_ | (refine ⟨fun h => ?_, fun h => ?_⟩ <;> (try simp only [zM, zN] at h) <;> try simp only [h]) | refine AWP.parR mixed (by kernel_rfl) fun K hK => ?_ | refine ⟨(by kernel_rfl : depB _ _ _ = true), ?_⟩ | refine Or.inl ?_) | (clear hK K))
    all_goals exact ⟨by simp only [drawV, he, cond_true], fun x hx => by simpa only [nextS, he, cond_true] using hx⟩
/-- a place of a literal -/
theorem lit_get {α : Type} (f : α → List C) (l : List α) (d : α) {v : Int} (hv : 0 ≤ v ∧ v < l.length) : (l.map f)[v.toNat]? = some (f (l.getD v.toNat d)) := by
  have h : v.toNat < l.length := by omega
  simp [List.getElem?_map, h]
def atomL : List (List UInt8) := [[97], [98], [111, 107], [101, 114, 114, 111, 114]]
def atomV (s : Src) : List UInt8 := atomL.getD (drawV s 4).toNat []
theorem draw_k (k : Nat) (s : Src) (hs : s.ok) (n : Int) (hn : 1 ≤ n ∧ n ≤ 1000000) : PCBk Tryd.prog 32 [Sp k, I .i64 n] k (srcB s) (I .i64 (drawV s n)) (srcB (nextS s n)) := PCBk.mk k (draw_c s hs n hn)
theorem atomName_c (s : Src) (hs : s.ok) : PCB Tryd.prog 76 [Sp pin] [(pin, srcB s)] (S (atomV s)) [(pin, srcB (nextS s 4))] := by
  refine PCB.of_body Tryd.func76 rfl (by decide) Tryd.ntmps76 Tryd.results76 rfl rfl rfl ?_ rfl rfl
  have hv := drawV_in s (n := 4) (by omega)
  repeat' (first | (simp only [go_sem, zA, zB, zC, zD, zE, zF, zG, reduceCtorEq, zH, zI, zJ, zK, zL, pin]; all_goals fail_if_success guard_target =ₛ False) | (with_reducible first | ((first | refine seqVC_stepN rfl ?_ | refine AWP.seq ?_ | refine AWP.seqR (by kernel_rfl) ?_); intro K hK) | ((first | refine hK _ _ _ ?_ | refine hK _ _ ?_ | refine hK _ ?_); clear hK K) | refine seqVC_nil ?_ | refine AWP.block ?_ | (refine AWP.cond (by with_unfolding_all rfl) ?_ ?_ <;> intro h <;> (try simp only [zM, zN] at h) <;> try exact absurd h (by decide)) | refine AWP.skip ?_ | refine AWP.ret ?_ | refine AWP.exit ?_) | (refine ⟨1000000, _, _, _, draw_k 1000000 s hs 4 (by omega), rfl, ?_⟩) | ( refine ⟨hv.1, [.str (atomV s)], lit_get (fun x => [C.str x]) atomL [] hv, ?_⟩) | (with_reducible first | refine Or.inl ?_) | (clear hK K))
  all_goals exact fun x hx => hx
theorem atomName_k (k : Nat) (s : Src) (hs : s.ok) : PCBk Tryd.prog 76 [Sp k] k (srcB s) (S (atomV s)) (srcB (nextS s 4)) := PCBk.mk k (atomName_c s hs)
end Go.Proofs.YtogponhonjiidaaDoor
set_option linter.unusedVariables false
namespace Go.Sx
variable {P : Program} {n : Nat} {Q : Exit → AS → Prop}
def keepC (k : Nat) (c : Cell) (B : Bx) : Prop := match B.lookup k with
  | some (.cells (c' :: _)) => c' = c
  | _ => False
def FsW (fixB : Bx) (k : Nat) (c : Cell) (B : Bx) : Prop := Bx.subL fixB B ∧ keepC k c B
/-- a reading of the cell that stays -/
def atW (P : Program) (k : Nat) (o : Oper) (env : Env) : Bool := match o.op with
  | .load t x => (match ev P env 0 x with
    | some (.one (.ptr j 0)) => j == k
    | _ => false) && (match szT P t, aggT P t with
    | some _, some false => true
    | _, _ => false)
  | _ => false
/-- one operation -/
def parWOp (P : Program) (fixB : Bx) (k : Nat) (c : Cell) (o : Oper) (env : Env) (B : Bx) (K : T → Bx → Prop) : Prop :=
  match effCall P o env with
  | some (g, us) => vCallB P g us B fun r B' => FsW fixB k c B' ∧ K r B'
  | none => bif atW P k o env then K (.one c) B else pureVC P o env fixB fun t => K t B
def parWVC (P : Program) (all : List Oper) (fixB : Bx) (k : Nat) (c : Cell) : List Oper → Env → Bx → (Env → Bx → Prop) → Prop
  | [], env, B, K => K env B
  | o :: os, env, B, K => guardT all env o (parWOp P fixB k c o env B fun t B' => parWVC P all fixB k c os (putE env o.dst t) B' K) (parWVC P all fixB k c os (putE env o.dst undefT) B K)
theorem atW_sound {k : Nat} {c : Cell} {o : Oper} {env : Env} {B : Bx} (h : atW P k o env = true) (hk : keepC k c B) : OpP P o env B (.one c) := by
  unfold atW at h
  split at h
  · rename_i t x ho
    simp only [Bool.and_eq_true] at h
    obtain ⟨h1, h2⟩ := h
    split at h1
    · rename_i j hx
      have hj : j = k := by simpa using h1
      subst hj
      split at h2
      · rename_i m hs ha
        unfold keepC at hk
        split at hk
        · rename_i c' cs hb
          subst hk
          obtain ⟨u, hu, e⟩ := vLoad_sound (P := P) (B := B) (env := env) (K := fun u => u = .one c') (ty := 0) ho (by
            unfold vLoad
            rw [hs, ha, hx]
            simp only [hb, cutC, takeT, cond_false])
          rw [← e]; exact hu
        · exact hk.elim
      · cases h2
    · cases h1
  · cases h
theorem parWVC_sound (all : List Oper) (fixB : Bx) (k : Nat) (c : Cell) (K : Env → Bx → Prop) : ∀ (l : List Oper) (env : Env) (B : Bx), dstsOk n l = true → parWVC P all fixB k c l env B K → parSemF P n all (FsW fixB k c) l env B K
  | [], env, B, _, h => h
  | o :: os, env, B, hd, h => by
    simp only [dstsOk, List.all_cons, Bool.and_eq_true] at hd
    obtain ⟨⟨hd1, hd2⟩, hd3⟩ := hd
    refine guardT_map h (fun h => ?_) (fun h => ⟨hd1, parWVC_sound all fixB k c K os _ B hd3 h⟩)
    unfold parWOp at h
    split at h
    · rename_i g us he
      unfold effCall at he
      split at he
      · rename_i f args ts ho
        split at he
        · rename_i g' caps us' hf hu
          cases hp : T.anyPtr (us' ++ caps) with
          | false => rw [hp] at he; simp at he
          | true =>
            rw [hp] at he
            simp only [cond_true, Option.some.injEq, Prod.mk.injEq] at he
            obtain ⟨rfl, rfl⟩ := he
            obtain ⟨u, B', h1, h2, h3⟩ := vCallB_sound (args := args.toList) (by rw [ho]) hf hu h
            exact .eff u B' (by unfold mayEff; rw [ho]) h2 h1 hd1 (parWVC_sound all fixB k c K os _ B' hd3 h3)
        · cases he
      · cases he
    · cases hat : atW P k o env with
      | true =>
        rw [hat] at h
        exact .pure _ (fun B0 hB0 => atW_sound hat hB0.2) hd1 (parWVC_sound all fixB k c K os _ B hd3 h)
      | false =>
        rw [hat] at h
        obtain ⟨t, h1, h2⟩ := pureVC_sound h
        exact .pure t (fun B0 hB0 => h1.mono_B (Bx.subL_spec hB0.1)) hd1 (parWVC_sound all fixB k c K os _ B hd3 h2)
/-- THE RULE -/
theorem AWP.parW {id : Nat} {l : List Oper} {env : Env} {B : Bx} (fixB : Bx) (k : Nat) (c : Cell) (hm : P.follows .mixedOrders = true) (hl : lexOkE n l = true) (hfix : FsW fixB k c B)
    (h : ∀ K : Env → Bx → Prop, (∀ e b, Q .normal ⟨e, b⟩ → K e b) → parWVC P l fixB k c l env B K) : AWP P n (.region id l.toArray true) ⟨env, B⟩ Q := by
  simp only [lexOkE, Bool.and_eq_true] at hl
  exact AWP.region_parF (FsW fixB k c) hm hl.1.1 hl.2 hfix fun K hK => parWVC_sound l fixB k c _ l env B hl.1.2 (h _ fun e b q => hK _ q)
theorem parWVC_nil {all : List Oper} {fixB : Bx} {k : Nat} {c : Cell} {env : Env} {B : Bx} {K : Env → Bx → Prop} (h : K env B) : parWVC P all fixB k c [] env B K := h
theorem parWVC_stepN {all os : List Oper} {fixB : Bx} {k : Nat} {c : Cell} {o : Oper} {env : Env} {B : Bx} {K : Env → Bx → Prop} (hg : o.guard = none)
    (h : ∀ K' : Env → Bx → Prop, (∀ e b, parWVC P all fixB k c os e b K → K' e b) → parWOp P fixB k c o env B (fun t B' => K' (putE env o.dst t) B')) : parWVC P all fixB k c (o :: os) env B K :=
  guardT_none hg (h (fun e b => parWVC P all fixB k c os e b K) fun _ _ q => q)
end Go.Sx
set_option linter.unusedVariables false
namespace Go.Sx
variable {P : Program}
attribute [go_sem] evsH Bx.drops
theorem vCallX.mk {g : FuncId} {us : List T} {env : Env} {B : Bx} {K : T → Bx → Prop} {r : T} {B1 B1' : Bx} (h : PCX P g us B1 r B1') (h1 : Bx.subL B1 B) (h2 : nodupN (B1.map (·.1)) = true) (h3 : newNames (B1'.map (·.1)) env B = true)
    (h4 : r.inP (B1'.map (·.1)).contains = true) (h5 : bxInP (B1'.map (·.1)).contains B1' = true) (hK : K r (B1' ++ Bx.drops (B1.map (·.1)) B)) : vCallX P g us env B K :=
  ⟨r, B1, B1', h, h1, h2, h3, h4, h5, hK⟩
end Go.Sx
set_option linter.unusedSimpArgs false
set_option linter.unusedVariables false
set_option maxRecDepth 20000
set_option maxHeartbeats 16000000
namespace Go.Proofs.YtogponhonjiidaaDoor
open Go Go.Sx
open Nat renaming reduceBEq → zA, reduceBNe → zB, reduceAdd → zC, reduceSub → zD, reduceMul → zE, reduceLeDiff → zF, reduceLT → zG, reduceEqDiff → zH
open Int renaming reduceToNat → zI, reduceLE → zJ, reduceLT → zK, reduceEq → zL
open Bool renaming not_eq_true' → zM, not_eq_false' → zN
/-- the maker of texts -/
structure NamD where
  text : List UInt8
  sort : Int
def encNam (x : NamD) : List C := [.str x.text, .int .i64 x.sort]
structure CalD where
  mod : List UInt8
  name : List UInt8
  params : List Int
  res : Int
def encCal (c : CalD) : List C := [.str c.mod, .str c.name, .sl 1 (c.params.map encZ), .int .i64 c.res]
structure Gn where
  s : Src
  k : Int
structure Cst where
  calls : List CalD
  wild : Int
  many : Bool
abbrev mkB (c : Cst) (g : Gn) : Res := .cells [.ptr 1000001 0, .dat (.sl 4 (c.calls.map encCal)), .dat (.int .i64 c.wild), .dat (.bool c.many), .dat (.int .i64 g.k)]
abbrev gB (c : Cst) (g : Gn) : Bx := [(1000000, mkB c g), (1000001, srcB g.s)]
def incK (g : Gn) : Gn := { g with k := IntKind.i64.wrap (g.k + 1) }
def nxt (g : Gn) (n : Int) : Gn := { g with s := nextS g.s n }
def freshV (g : Gn) : List UInt8 := [86] ++ Lib.itoa (IntKind.i64.wrap (g.k + 1))
def smallV (g : Gn) : List UInt8 := Lib.itoa (drawV g.s 7 - 2)
theorem wrap64_in (z : Int) : -9223372036854775808 ≤ IntKind.i64.wrap z ∧ IntKind.i64.wrap z ≤ 9223372036854775807 := by rw [IntKind.wrap_i64]; omega
theorem freshV_len (g : Gn) : (freshV g).length ≤ 31 := by
  have := itoa_len (wrap64_in (g.k + 1)).1 (wrap64_in (g.k + 1)).2
  unfold freshV; rw [List.length_append, List.length_cons, List.length_nil]; omega
theorem smallV_len (g : Gn) : (smallV g).length ≤ 30 := by
  have h := drawV_in g.s (n := 7) (by omega)
  exact itoa_len (by omega) (by omega)
theorem fresh_c (c : Cst) (g : Gn) : PCB Tryd.prog 54 [Sp 1000000] (gB c g) (S (freshV g)) (gB c (incK g)) := by
  have hd := decimal_c _ (IntKind.i64.wrap (g.k + 1)) (Nat.le_refl _) (wrap64_in _).1 (wrap64_in _).2
  have hl := itoa_len (wrap64_in (g.k + 1)).1 (wrap64_in (g.k + 1)).2
  refine PCB.of_body Tryd.func54 rfl (by decide) Tryd.ntmps54 Tryd.results54 rfl rfl rfl ?_ rfl rfl
  repeat' (first | (simp only [go_sem, zA, zB, zC, zD, zE, zF, zG, reduceCtorEq, zH, zI, zJ, zK, zL, List.length_map, List.length_cons, List.length_nil]; all_goals fail_if_success guard_target =ₛ False) | (with_reducible first | ((first | refine seqVC_stepN rfl ?_ | refine AWP.seq ?_ | refine AWP.seqR (by kernel_rfl) ?_); intro K hK) | ((first | refine hK _ _ _ ?_ | refine hK _ _ ?_ | refine hK _ ?_); clear hK K) | refine seqVC_nil ?_ | refine AWP.block ?_ | (refine AWP.cond (by with_unfolding_all rfl) ?_ ?_ <;> intro h <;> (try simp only [zM, zN] at h) <;> try exact absurd h (by decide)) | refine AWP.skip ?_ | refine AWP.ret ?_ | refine AWP.exit ?_ | refine ⟨_, hd, ?_⟩ | (refine ⟨(by simp only [maxLen]; omega : _ ≤ maxLen), ?_⟩) | refine Or.inl ?_) | (clear hK K))
  all_goals exact ⟨rfl, fun x hx => hx⟩
theorem small_c (c : Cst) (g : Gn) (hg : g.s.ok) : PCB Tryd.prog 75 [Sp 1000000] (gB c g) (S (smallV g)) (gB c (nxt g 7)) := by
  have h := drawV_in g.s (n := 7) (by omega)
  have hd := decimal_c _ (drawV g.s 7 - 2) (Nat.le_refl _) (by omega) (by omega)
  have hw : IntKind.i64.wrap (drawV g.s 7 - 2) = drawV g.s 7 - 2 := wrapI _ (by omega) (by omega)
  refine PCB.of_body Tryd.func75 rfl (by decide) Tryd.ntmps75 Tryd.results75 rfl rfl rfl ?_ rfl rfl
  repeat' (first | (simp only [go_sem, zA, zB, zC, zD, zE, zF, zG, reduceCtorEq, zH, zI, zJ, zK, zL, hw]; all_goals fail_if_success guard_target =ₛ False) | (with_reducible first | ((first | refine seqVC_stepN rfl ?_ | refine AWP.seq ?_ | refine AWP.seqR (by kernel_rfl) ?_); intro K hK) | ((first | refine hK _ _ _ ?_ | refine hK _ _ ?_ | refine hK _ ?_); clear hK K) | refine seqVC_nil ?_ | refine AWP.block ?_ | (refine AWP.cond (by with_unfolding_all rfl) ?_ ?_ <;> intro h <;> (try simp only [zM, zN] at h) <;> try exact absurd h (by decide)) | refine AWP.skip ?_ | refine AWP.ret ?_ | refine AWP.exit ?_ | refine ⟨_, hd, ?_⟩) | (refine ⟨1000001, _, _, _, draw_k 1000001 g.s hg 7 (by omega), rfl, ?_⟩) | (with_reducible first | refine Or.inl ?_) | (clear hK K))
  all_goals exact ⟨rfl, fun x hx => hx⟩
theorem strs_snoc (l : List (List UInt8)) (s : List UInt8) : l.map encStr ++ [[C.str s]] = (l ++ [s]).map encStr := by rw [List.map_append]; rfl
def ofV (env : List NamD) (sort : Int) : List (List UInt8) := (env.filter fun x => decide (x.sort = sort)).map (·.text)
theorem of_c (env : List NamD) (he : env.length ≤ 1000) (sort : Int) : PC Tryd.prog 96 [.one (.dat (.sl 2 (env.map encNam))), I .i64 sort] (.one (.dat (.sl 1 ((ofV env sort).map encStr)))) := by
  refine PCB.of_body Tryd.func96 rfl (by decide) Tryd.ntmps96 Tryd.results96 rfl rfl rfl ?_ rfl rfl
  repeat' (first | (simp only [go_sem, zA, zB, zC, zD, zE, zF, zG, reduceCtorEq, zH, zI, zJ, zK, zL, List.length_map]; all_goals fail_if_success guard_target =ₛ False) | (with_reducible first | ((first | refine seqVC_stepN rfl ?_ | refine AWP.seq ?_ | refine AWP.seqR (by kernel_rfl) ?_); intro K hK) | ((first | refine hK _ _ _ ?_ | refine hK _ _ ?_ | refine hK _ ?_); clear hK K) | refine seqVC_nil ?_ | refine AWP.block ?_ | (refine AWP.cond (by with_unfolding_all rfl) ?_ ?_ <;> intro h <;> (try simp only [zM, zN] at h) <;> try exact absurd h (by decide)) | refine AWP.skip ?_ | refine AWP.ret ?_ | refine AWP.exit ?_ | refine Or.inl ?_) | (clear hK K))
  refine AWP.gh (Gh.nilrow 5 900 rfl rfl rfl (by simp [Bx.fresh, Cell.freshs, Cell.fresh])) ?_
  refine AWP.len 8 rfl fun hlen0 => ?_
  (try rw [List.length_map] at hlen0)
  refine AWP.range (S := List (List UInt8)) (env) encNam (fun k s => (10, I .i64 (k : Nat)) :: [(5, .one (.own 900 s.length))]) (fun k s => [(900, .row 1 (s.map encStr))]) [1, 8, 9] [] (fun k s => s = ofV (env.take k) sort) ([]) (by simp only [go_sem, zA, zB, zC, zD, zE, zF, zG, reduceCtorEq, zH, zI, zJ, zK, zL]; exact Gh.to [] (by repeat (first | exact trivial | refine ⟨rfl, ?_⟩ | refine ⟨by (simp only [go_sem, zA, zB, zC, zD, zE, zF, zG, reduceCtorEq, zH, zI, zJ, zK, zL, List.length_append, List.length_map, List.length_cons, List.length_nil, Nat.zero_add]) <;> rfl, ?_⟩)) (by repeat (first | exact trivial | refine ⟨rfl, ?_⟩ | refine ⟨by (simp only [go_sem, zA, zB, zC, zD, zE, zF, zG, reduceCtorEq, zH, zI, zJ, zK, zL, List.length_append, List.length_map, List.length_cons, List.length_nil, Nat.zero_add]) <;> rfl, ?_⟩)) rfl rfl rfl) ?_ ?_ ?_
  · rfl
  · intro k s x hlt hx hx' hbb hok
    simp only [go_sem, zA, zB, zC, zD, zE, zF, zG, reduceCtorEq, zH, zI, zJ, zK, zL]
    have hsl : s.length ≤ 1000 := by
      rw [hok]; unfold ofV
      have := List.length_filter_le (fun x : NamD => decide (x.sort = sort)) (env.take k)
      rw [List.length_map]; rw [List.length_take] at this; omega
    have hok' : ofV (env.take (k + 1)) sort = bif decide (x.sort = sort) then s ++ [x.text] else s := by
      rw [List.take_add_one, hx, hok]
      unfold ofV
      rw [List.filter_append, List.map_append]
      cases hd : decide (x.sort = sort) <;> simp [List.filter_cons, hd]
    repeat' (first | (simp only [go_sem, zA, zB, zC, zD, zE, zF, zG, reduceCtorEq, zH, zI, zJ, zK, zL, List.length_map, hbb, encNam, strs_snoc]; all_goals fail_if_success guard_target =ₛ False) | (with_reducible first | ((first | refine seqVC_stepN rfl ?_ | refine AWP.seq ?_ | refine AWP.seqR (by kernel_rfl) ?_); intro K hK) | ((first | refine hK _ _ _ ?_ | refine hK _ _ ?_ | refine hK _ ?_); clear hK K) | refine seqVC_nil ?_ | refine AWP.block ?_ | (refine AWP.cond (by with_unfolding_all rfl) ?_ ?_ <;> intro h <;> (try simp only [zM, zN] at h) <;> try exact absurd h (by decide)) | refine AWP.skip ?_ | refine AWP.ret ?_ | refine AWP.exit ?_ | refine ⟨(by omega : _ ≤ _), ?_⟩ | refine ⟨(by omega : _ ≤ _), (by omega : _ ≤ _), ?_⟩ | refine ⟨by omega, encNam x, hx', ?_⟩ | refine ⟨encNam x, hx', ?_⟩ | refine Or.inl ?_) | (clear hK K))
    all_goals rw [wrap_succ hlt hlen0, hok', h]
    · rw [cond_true]; exact Gh.to [(900, 22)] (by repeat (first | exact trivial | refine ⟨rfl, ?_⟩ | refine ⟨by (simp only [go_sem, zA, zB, zC, zD, zE, zF, zG, reduceCtorEq, zH, zI, zJ, zK, zL, List.length_append, List.length_map, List.length_cons, List.length_nil, Nat.zero_add]) <;> rfl, ?_⟩)) (by repeat (first | exact trivial | refine ⟨rfl, ?_⟩ | refine ⟨by (simp only [go_sem, zA, zB, zC, zD, zE, zF, zG, reduceCtorEq, zH, zI, zJ, zK, zL, List.length_append, List.length_map, List.length_cons, List.length_nil, Nat.zero_add]) <;> rfl, ?_⟩)) rfl rfl rfl
    · rw [cond_false]; exact Gh.to [(900, 900)] (by repeat (first | exact trivial | refine ⟨rfl, ?_⟩ | refine ⟨by (simp only [go_sem, zA, zB, zC, zD, zE, zF, zG, reduceCtorEq, zH, zI, zJ, zK, zL, List.length_append, List.length_map, List.length_cons, List.length_nil, Nat.zero_add]) <;> rfl, ?_⟩)) (by repeat (first | exact trivial | refine ⟨rfl, ?_⟩ | refine ⟨by (simp only [go_sem, zA, zB, zC, zD, zE, zF, zG, reduceCtorEq, zH, zI, zJ, zK, zL, List.length_append, List.length_map, List.length_cons, List.length_nil, Nat.zero_add]) <;> rfl, ?_⟩)) rfl rfl rfl
  · intro s hbb hok
    simp only [go_sem, zA, zB, zC, zD, zE, zF, zG, reduceCtorEq, zH, zI, zJ, zK, zL]
    rw [List.take_length] at hok
    refine AWP.gh (Gh.freeze 900 rfl rfl (by simp only [go_sem, zA, zB, zC, zD, zE, zF, zG, reduceCtorEq, zH, zI, zJ, zK, zL, List.length_map]) (by simp only [go_sem, zA, zB, zC, zD, zE, zF, zG, reduceCtorEq, zH, zI, zJ, zK, zL, List.length_map])) ?_
    simp only [go_sem, zA, zB, zC, zD, zE, zF, zG, reduceCtorEq, zH, zI, zJ, zK, zL, List.length_map]
    repeat' (first | (simp only [go_sem, zA, zB, zC, zD, zE, zF, zG, reduceCtorEq, zH, zI, zJ, zK, zL, List.length_map, hbb]; all_goals fail_if_success guard_target =ₛ False) | (with_reducible first | ((first | refine seqVC_stepN rfl ?_ | refine AWP.seq ?_ | refine AWP.seqR (by kernel_rfl) ?_); intro K hK) | ((first | refine hK _ _ _ ?_ | refine hK _ _ ?_ | refine hK _ ?_); clear hK K) | refine seqVC_nil ?_ | refine AWP.block ?_ | (refine AWP.cond (by with_unfolding_all rfl) ?_ ?_ <;> intro h <;> (try simp only [zM, zN] at h) <;> try exact absurd h (by decide)) | refine AWP.skip ?_ | refine AWP.ret ?_ | refine AWP.exit ?_ | refine Or.inl ?_) | (clear hK K))
    rw [hok]
    all_goals (first | exact fun _ h => absurd h List.not_mem_nil | refine fin0 ?_)
    all_goals rfl
def boolL : List (List UInt8) := [[116, 114, 117, 101], [102, 97, 108, 115, 101]]
def listL : List (List UInt8) := [[91, 93], [91, 49, 93], [91, 50, 44, 32, 48, 93]]
def thingL : List (List UInt8) := [[49], [111, 107], [91, 93], [34, 115, 34], [123, 49, 125], [123, 97, 44, 32, 98, 125]]
def leafS (sort : Int) (g : Gn) : List UInt8 × Gn :=
  bif decide (sort = 1) then (boolL.getD (drawV g.s 2).toNat [], nxt g 2)
  else bif decide (sort = 2) then (atomV g.s, nxt g 4)
  else bif decide (sort = 3) then (listL.getD (drawV g.s 3).toNat [], nxt g 3)
  else bif decide (sort = 4) then ([123] ++ atomV g.s ++ [44, 32] ++ smallV (nxt g 4) ++ [125], nxt (nxt g 4) 7)
  else bif decide (sort = 5) then ([102, 117, 110, 32, 40] ++ freshV g ++ [41, 32, 45, 62, 32, 40] ++ freshV g ++ [32, 43, 32] ++ smallV (incK g) ++ [41, 32, 101, 110, 100], nxt (incK g) 7)
  else bif decide (sort = 6) then ([35, 123, 97, 32, 61, 62, 32] ++ smallV g ++ [125], nxt g 7)
  else bif decide (sort = 7) then (thingL.getD (drawV g.s 6).toNat [], nxt g 6)
  else (smallV g, nxt g 7)
def leafV (sort : Int) (env : List NamD) (g : Gn) : List UInt8 × Gn :=
  bif decide (0 < ((ofV env sort).length : Int)) then
    bif decide (0 < drawV g.s 4) then ((ofV env sort).getD (drawV (nxt g 4).s ((ofV env sort).length : Int)).toNat [], nxt (nxt g 4) ((ofV env sort).length : Int))
    else leafS sort (nxt g 4)
  else leafS sort g
theorem atomV_len (s : Src) : (atomV s).length ≤ 5 := by
  have : ∀ x ∈ atomL, x.length ≤ 5 := by decide
  have hv := drawV_in s (n := 4) (by omega)
  refine this _ ?_
  unfold atomV
  rw [List.getD_eq_getElem?_getD, List.getElem?_eq_getElem (show (drawV s 4).toNat < atomL.length by show _ < 4; omega)]
  exact List.getElem_mem _
theorem leaf_c (c : Cst) (g : Gn) (hg : g.s.ok) (sort : Int) (env : List NamD) (he : env.length ≤ 1000) : PCB Tryd.prog 77 [Sp 1000000, I .i64 sort, .one (.dat (.sl 2 (env.map encNam)))] (gB c g) (S (leafV sort env g).1) (gB c (leafV sort env g).2) := by
  have hof := of_c env he sort
  have hol : (ofV env sort).length ≤ 1000 := by
    unfold ofV
    have := List.length_filter_le (fun x : NamD => decide (x.sort = sort)) env
    rw [List.length_map]; omega
  have hmax : 1000000 ≤ maxLen := by unfold maxLen; omega
  unfold leafV
  generalize ofV env sort = l at hof hol ⊢
  refine PCB.of_body Tryd.func77 rfl (by decide) Tryd.ntmps77 Tryd.results77 rfl rfl rfl ?_ rfl rfl
  cases hl : decide (0 < (l.length : Int)) with
  | true =>
    have hl1 : 0 < (l.length : Int) := by simpa using hl
    rw [cond_true]
    cases hn : decide (0 < drawV g.s 4) with
    | true =>
      have hv := drawV_in (nxt g 4).s (n := (l.length : Int)) (by omega)
      rw [cond_true]
      repeat' (first | (simp only [go_sem, zA, zB, zC, zD, zE, zF, zG, reduceCtorEq, zH, zI, zJ, zK, zL, List.length_map, hl, hn]; all_goals fail_if_success guard_target =ₛ False) | (with_reducible first | ((first | refine seqVC_stepN rfl ?_ | refine seqVC_stepG rfl (by with_unfolding_all rfl) ?_ | refine AWP.seq ?_ | refine AWP.seqR (by kernel_rfl) ?_); intro K hK) | ((first | refine hK _ _ _ ?_ | refine hK _ _ ?_ | refine hK _ ?_); clear hK K) | refine seqVC_nil ?_ | refine AWP.block ?_ | (refine AWP.cond (by with_unfolding_all rfl) ?_ ?_ <;> intro h <;> (try simp only [zM, zN] at h) <;> try exact absurd h (by decide)) | refine AWP.skip ?_ | refine AWP.ret ?_ | refine AWP.exit ?_ | (refine ⟨fun h => ?_, fun h => ?_⟩ <;> (try simp only [zM, zN] at h) <;> try simp only [h]) | refine ⟨_, hof, ?_⟩) | (refine ⟨1000001, _, _, _, draw_k 1000001 g.s hg 4 (by omega), rfl, ?_⟩) | (refine ⟨1000001, _, _, _, draw_k 1000001 (nextS g.s 4) (ok_next hg 4) (l.length : Int) (by omega), rfl, ?_⟩) | ( refine ⟨hv.1, [.str (l.getD (drawV (nxt g 4).s (l.length : Int)).toNat [])], lit_get (fun x => [C.str x]) l [] hv, ?_⟩) | (with_reducible first | refine Or.inl ?_) | (clear hK K))
      all_goals exact fun x hx => hx
    | false =>
      rw [cond_false]
      have ho4 := ok_next hg 4
      have hv2 := drawV_in (nxt g 4).s (n := 2) (by omega)
      have hv3 := drawV_in (nxt g 4).s (n := 3) (by omega)
      have hv6 := drawV_in (nxt g 4).s (n := 6) (by omega)
      have hla := atomV_len (nxt g 4).s
      have hls := smallV_len (nxt g 4)
      have hls4 := smallV_len (nxt (nxt g 4) 4)
      have hlsk := smallV_len (incK (nxt g 4))
      have hlf := freshV_len (nxt g 4)
      repeat' (first | (simp only [go_sem, zA, zB, zC, zD, zE, zF, zG, reduceCtorEq, zH, zI, zJ, zK, zL, List.length_map, Bx.puts, hl, hn]; all_goals fail_if_success guard_target =ₛ False) | (with_reducible first | ((first | refine seqVC_stepN rfl ?_ | refine seqVC_stepG rfl (by with_unfolding_all rfl) ?_ | refine AWP.seq ?_ | refine AWP.seqR (by kernel_rfl) ?_); intro K hK) | ((first | refine hK _ _ _ ?_ | refine hK _ _ ?_ | refine hK _ ?_); clear hK K) | refine seqVC_nil ?_ | refine AWP.block ?_ | (refine AWP.cond (by with_unfolding_all rfl) ?_ ?_ <;> intro h <;> (try simp only [zM, zN] at h) <;> try exact absurd h (by decide)) | refine AWP.skip ?_ | refine AWP.ret ?_ | refine AWP.exit ?_ | (refine ⟨fun h => ?_, fun h => ?_⟩ <;> (try simp only [zM, zN] at h) <;> try simp only [h]) | refine ⟨_, hof, ?_⟩ | (refine ⟨(by first | omega | (simp only [List.length_append, List.length_map, List.length_take, List.length_drop, List.length_cons, List.length_nil, List.length_replicate]; omega) : _ ≤ _), ?_⟩) | refine ⟨by omega, by omega, ?_⟩) | (refine ⟨1000001, _, _, _, draw_k 1000001 g.s hg 4 (by omega), rfl, ?_⟩) | (refine ⟨1000001, _, _, _, draw_k 1000001 (nxt g 4).s ho4 2 (by omega), rfl, ?_⟩) | (refine ⟨1000001, _, _, _, draw_k 1000001 (nxt g 4).s ho4 3 (by omega), rfl, ?_⟩) | (refine ⟨1000001, _, _, _, draw_k 1000001 (nxt g 4).s ho4 6 (by omega), rfl, ?_⟩) | (refine ⟨1000001, _, _, _, atomName_k 1000001 (nxt g 4).s ho4, rfl, ?_⟩) | ( refine Or.inr ⟨_, _, _, small_c c (nxt g 4) ho4, ⟨rfl, rfl, trivial⟩, rfl, rfl, ?_⟩) | ( refine Or.inr ⟨_, _, _, small_c c (nxt (nxt g 4) 4) (ok_next ho4 4), ⟨rfl, rfl, trivial⟩, rfl, rfl, ?_⟩) | ( refine Or.inr ⟨_, _, _, small_c c (incK (nxt g 4)) ho4, ⟨rfl, rfl, trivial⟩, rfl, rfl, ?_⟩) | ( refine Or.inr ⟨_, _, _, fresh_c c (nxt g 4), ⟨rfl, rfl, trivial⟩, rfl, rfl, ?_⟩) | ( refine ⟨hv2.1, [.str (boolL.getD (drawV (nxt g 4).s 2).toNat [])], lit_get (fun x => [C.str x]) boolL [] hv2, ?_⟩) | ( refine ⟨[.str (boolL.getD (drawV (nxt g 4).s 2).toNat [])], lit_get (fun x => [C.str x]) boolL [] hv2, ?_⟩) | ( refine ⟨hv3.1, [.str (listL.getD (drawV (nxt g 4).s 3).toNat [])], lit_get (fun x => [C.str x]) listL [] hv3, ?_⟩) | ( refine ⟨[.str (listL.getD (drawV (nxt g 4).s 3).toNat [])], lit_get (fun x => [C.str x]) listL [] hv3, ?_⟩) | ( refine ⟨hv6.1, [.str (thingL.getD (drawV (nxt g 4).s 6).toNat [])], lit_get (fun x => [C.str x]) thingL [] hv6, ?_⟩) | ( refine ⟨[.str (thingL.getD (drawV (nxt g 4).s 6).toNat [])], lit_get (fun x => [C.str x]) thingL [] hv6, ?_⟩) | (with_reducible first | refine Or.inl ?_) | (clear hK K))
      all_goals (simp only [leafS, *, cond_true, cond_false]; refine ⟨?_, fun x hx => hx⟩; first | rfl | (simp only [List.append_assoc, List.cons_append, List.nil_append]))
  | false =>
    rw [cond_false]
    have hv2 := drawV_in (g).s (n := 2) (by omega)
    have hv3 := drawV_in (g).s (n := 3) (by omega)
    have hv6 := drawV_in (g).s (n := 6) (by omega)
    have hla := atomV_len (g).s
    have hls := smallV_len (g)
    have hls4 := smallV_len (nxt (g) 4)
    have hlsk := smallV_len (incK (g))
    have hlf := freshV_len (g)
    repeat' (first | (simp only [go_sem, zA, zB, zC, zD, zE, zF, zG, reduceCtorEq, zH, zI, zJ, zK, zL, List.length_map, Bx.puts, hl]; all_goals fail_if_success guard_target =ₛ False) | (with_reducible first | ((first | refine seqVC_stepN rfl ?_ | refine seqVC_stepG rfl (by with_unfolding_all rfl) ?_ | refine AWP.seq ?_ | refine AWP.seqR (by kernel_rfl) ?_); intro K hK) | ((first | refine hK _ _ _ ?_ | refine hK _ _ ?_ | refine hK _ ?_); clear hK K) | refine seqVC_nil ?_ | refine AWP.block ?_ | (refine AWP.cond (by with_unfolding_all rfl) ?_ ?_ <;> intro h <;> (try simp only [zM, zN] at h) <;> try exact absurd h (by decide)) | refine AWP.skip ?_ | refine AWP.ret ?_ | refine AWP.exit ?_ | (refine ⟨fun h => ?_, fun h => ?_⟩ <;> (try simp only [zM, zN] at h) <;> try simp only [h]) | refine ⟨_, hof, ?_⟩ | (refine ⟨(by first | omega | (simp only [List.length_append, List.length_map, List.length_take, List.length_drop, List.length_cons, List.length_nil, List.length_replicate]; omega) : _ ≤ _), ?_⟩) | refine ⟨by omega, by omega, ?_⟩) | (refine ⟨1000001, _, _, _, draw_k 1000001 (g).s hg 2 (by omega), rfl, ?_⟩) | (refine ⟨1000001, _, _, _, draw_k 1000001 (g).s hg 3 (by omega), rfl, ?_⟩) | (refine ⟨1000001, _, _, _, draw_k 1000001 (g).s hg 6 (by omega), rfl, ?_⟩) | (refine ⟨1000001, _, _, _, atomName_k 1000001 (g).s hg, rfl, ?_⟩) | ( refine Or.inr ⟨_, _, _, small_c c (g) hg, ⟨rfl, rfl, trivial⟩, rfl, rfl, ?_⟩) | ( refine Or.inr ⟨_, _, _, small_c c (nxt (g) 4) (ok_next hg 4), ⟨rfl, rfl, trivial⟩, rfl, rfl, ?_⟩) | ( refine Or.inr ⟨_, _, _, small_c c (incK (g)) hg, ⟨rfl, rfl, trivial⟩, rfl, rfl, ?_⟩) | ( refine Or.inr ⟨_, _, _, fresh_c c (g), ⟨rfl, rfl, trivial⟩, rfl, rfl, ?_⟩) | ( refine ⟨hv2.1, [.str (boolL.getD (drawV (g).s 2).toNat [])], lit_get (fun x => [C.str x]) boolL [] hv2, ?_⟩) | ( refine ⟨[.str (boolL.getD (drawV (g).s 2).toNat [])], lit_get (fun x => [C.str x]) boolL [] hv2, ?_⟩) | ( refine ⟨hv3.1, [.str (listL.getD (drawV (g).s 3).toNat [])], lit_get (fun x => [C.str x]) listL [] hv3, ?_⟩) | ( refine ⟨[.str (listL.getD (drawV (g).s 3).toNat [])], lit_get (fun x => [C.str x]) listL [] hv3, ?_⟩) | ( refine ⟨hv6.1, [.str (thingL.getD (drawV (g).s 6).toNat [])], lit_get (fun x => [C.str x]) thingL [] hv6, ?_⟩) | ( refine ⟨[.str (thingL.getD (drawV (g).s 6).toNat [])], lit_get (fun x => [C.str x]) thingL [] hv6, ?_⟩) | (with_reducible first | refine Or.inl ?_) | (clear hK K))
    all_goals (simp only [leafS, *, cond_true, cond_false]; refine ⟨?_, fun x hx => hx⟩; first | rfl | (simp only [List.append_assoc, List.cons_append, List.nil_append]))
/-- how an expression of a lower depth is made -/
abbrev Mk := Int → List NamD → Gn → List UInt8 × Gn
abbrev Envt (env : List NamD) : T := .one (.dat (.sl 2 (env.map encNam)))
/-- an environment of at most m names, none of them long -/
structure EOk (m : Nat) (env : List NamD) : Prop where
  len : env.length ≤ m
  txt : ∀ x ∈ env, x.text.length ≤ 200
theorem EOk.mono {m n : Nat} {env : List NamD} (h : EOk m env) (hmn : m ≤ n) : EOk n env := ⟨Nat.le_trans h.len hmn, h.txt⟩
theorem EOk.snoc {m : Nat} {env : List NamD} (h : EOk m env) (x : NamD) (hx : x.text.length ≤ 200) : EOk (m + 1) (env ++ [x]) :=
  ⟨by have := h.len; rw [List.length_append, List.length_cons, List.length_nil]; omega, fun y hy => (List.mem_append.1 hy).elim (h.txt y) (fun hy => by rw [List.mem_singleton.1 hy]; exact hx)⟩
/-- the function makes what E says, for environments of at most m names -/
structure Good (c : Cst) (D : Int) (m L : Nat) (E : Mk) : Prop where
  run : ∀ sort env g, g.s.ok → EOk m env → PCB Tryd.prog 56 [Sp 1000000, I .i64 sort, I .i64 D, Envt env] (gB c g) (S (E sort env g).1) (gB c (E sort env g).2)
  ok : ∀ sort env g, g.s.ok → EOk m env → (E sort env g).2.s.ok
  len : ∀ sort env g, g.s.ok → EOk m env → (E sort env g).1.length ≤ L
theorem ok_nxt {g : Gn} (h : g.s.ok) (n : Int) : (nxt g n).s.ok := ok_next h n
def opL : List (List UInt8) := [[43], [45], [42], [100, 105, 118], [114, 101, 109]]
def putL : List (List UInt8) := [[97], [98], [34, 115, 34]]
theorem lit_len (L : List (List UInt8)) (h : ∀ x ∈ L, x.length ≤ 20) {v : Int} (hv : 0 ≤ v ∧ v < L.length) : (L.getD v.toNat []).length ≤ 20 := by
  rw [List.getD_eq_getElem?_getD, List.getElem?_eq_getElem (show v.toNat < L.length by omega)]
  exact h _ (List.getElem_mem _)
def addV (E : Mk) (env : List NamD) (g : Gn) : List UInt8 × Gn :=
  let a0 := E 0 env (nxt g 4)
  let a1 := E 0 env (nxt a0.2 5)
  ([40] ++ a0.1 ++ [32] ++ (opL.getD (drawV a0.2.s 5).toNat []) ++ [32] ++ a1.1 ++ [41], a1.2)
theorem add_c (c : Cst) (D D1 : Int) (m L : Nat) (E : Mk) (hD : IntKind.i64.wrap (D - 1) = D1) (hE : Good c D1 m L E) (hL : L ≤ 1000000) (g : Gn) (hg : g.s.ok) (env : List NamD) (he : EOk m env) (hm : m ≤ 1000) (hn : drawV g.s 4 = 0) : PCB Tryd.prog 81 [Sp 1000000, I .i64 0, I .i64 D, Envt env] (gB c g) (S (addV E env g).1) (gB c (addV E env g).2) := by
  have hmax : 10000000 ≤ maxLen := by unfold maxLen; omega
  have r0 := hE.run 0 env (nxt g 4) (ok_nxt hg 4) he
  have k0 := hE.ok 0 env (nxt g 4) (ok_nxt hg 4) he
  have l0 := hE.len 0 env (nxt g 4) (ok_nxt hg 4) he
  have hv := drawV_in (E 0 env (nxt g 4)).2.s (n := 5) (by omega)
  have hvl := lit_len opL (by decide) hv
  have r1 := hE.run 0 env (nxt (E 0 env (nxt g 4)).2 5) (ok_nxt k0 5) he
  have k1 := hE.ok 0 env (nxt (E 0 env (nxt g 4)).2 5) (ok_nxt k0 5) he
  have l1 := hE.len 0 env (nxt (E 0 env (nxt g 4)).2 5) (ok_nxt k0 5) he
  refine PCB.of_body Tryd.func81 rfl (by decide) Tryd.ntmps81 Tryd.results81 rfl rfl rfl ?_ rfl rfl
  repeat' (first | (simp only [go_sem, zA, zB, zC, zD, zE, zF, zG, reduceCtorEq, zH, zI, zJ, zK, zL, Bx.puts, hD, parWOp, atW, hn]; all_goals fail_if_success guard_target =ₛ False) | (with_reducible first | ((first | refine seqVC_stepN rfl ?_ | refine AWP.seq ?_ | refine AWP.seqR (by kernel_rfl) ?_ | refine parVC_stepN rfl ?_ | refine parEVC_stepN rfl ?_ | refine genVC_stepN rfl ?_ | refine parWVC_stepN rfl ?_); intro K hK) | ((first | refine hK _ _ _ ?_ | refine hK _ _ ?_ | refine hK _ ?_); clear hK K) | refine seqVC_nil ?_ | refine parVC_nil ?_ | refine parEVC_nil ?_ | refine genVC_nil ?_ | refine parWVC_nil ?_ | refine AWP.block ?_ | (refine AWP.cond (by with_unfolding_all rfl) ?_ ?_ <;> intro h <;> (try simp only [zM, zN] at h) <;> try exact absurd h (by decide)) | refine AWP.skip ?_ | refine AWP.ret ?_ | refine AWP.exit ?_ | (refine ⟨(by first | omega | (simp only [List.length_append, List.length_map, List.length_take, List.length_drop, List.length_cons, List.length_nil, List.length_replicate]; omega) : _ ≤ _), ?_⟩) | refine ⟨by omega, by omega, ?_⟩) | (refine ⟨1000001, _, _, _, draw_k 1000001 g.s hg 4 (by omega), rfl, ?_⟩) | ( refine ⟨_, _, _, r0, ⟨rfl, rfl, trivial⟩, rfl, rfl, ⟨trivial, rfl⟩, ?_⟩) | ( refine ⟨_, _, _, PCB.ren (draw_c (E 0 env (nxt g 4)).2.s k0 5 (by omega)) (fun _ => 1000001) rfl rfl rfl rfl rfl rfl, ⟨rfl, trivial⟩, rfl, rfl, ⟨trivial, rfl⟩, ?_⟩) | ( refine ⟨hv.1, [.str (opL.getD (drawV (E 0 env (nxt g 4)).2.s 5).toNat [])], lit_get (fun x => [C.str x]) opL [] hv, ?_⟩) | ( refine ⟨[.str (opL.getD (drawV (E 0 env (nxt g 4)).2.s 5).toNat [])], lit_get (fun x => [C.str x]) opL [] hv, ?_⟩) | ( refine ⟨_, _, _, r1, ⟨rfl, rfl, trivial⟩, rfl, rfl, ⟨trivial, rfl⟩, ?_⟩) | (with_reducible first | (refine AWP.parW (id := 5) [] 1000000 (.ptr 1000001 0) mixed (by kernel_rfl) (by with_unfolding_all exact ⟨trivial, rfl⟩) fun K hK => ?_) | refine AWP.parR mixed (by kernel_rfl) fun K hK => ?_ | refine ⟨(by kernel_rfl : depB _ _ _ = true), ?_⟩ | refine Or.inl ?_) | (clear hK K))
  all_goals (refine ⟨?_, fun x hx => hx⟩; first | rfl | (simp only [addV, List.append_assoc, List.cons_append, List.nil_append]))
def getV (E : Mk) (env : List NamD) (g : Gn) : List UInt8 × Gn :=
  let a0 := E 6 env (nxt g 4)
  ([103, 101, 116, 40] ++ a0.1 ++ [44, 32, 97, 41], a0.2)
theorem get_c (c : Cst) (D D1 : Int) (m L : Nat) (E : Mk) (hD : IntKind.i64.wrap (D - 1) = D1) (hE : Good c D1 m L E) (hL : L ≤ 1000000) (g : Gn) (hg : g.s.ok) (env : List NamD) (he : EOk m env) (hm : m ≤ 1000) (hn : drawV g.s 4 = 1) : PCB Tryd.prog 81 [Sp 1000000, I .i64 0, I .i64 D, Envt env] (gB c g) (S (getV E env g).1) (gB c (getV E env g).2) := by
  have hmax : 10000000 ≤ maxLen := by unfold maxLen; omega
  have r0 := hE.run 6 env (nxt g 4) (ok_nxt hg 4) he
  have k0 := hE.ok 6 env (nxt g 4) (ok_nxt hg 4) he
  have l0 := hE.len 6 env (nxt g 4) (ok_nxt hg 4) he
  refine PCB.of_body Tryd.func81 rfl (by decide) Tryd.ntmps81 Tryd.results81 rfl rfl rfl ?_ rfl rfl
  repeat' (first | (simp only [go_sem, zA, zB, zC, zD, zE, zF, zG, reduceCtorEq, zH, zI, zJ, zK, zL, Bx.puts, hD, hn]; all_goals fail_if_success guard_target =ₛ False) | (with_reducible first | ((first | refine seqVC_stepN rfl ?_ | refine AWP.seq ?_ | refine AWP.seqR (by kernel_rfl) ?_ | refine parVC_stepN rfl ?_ | refine parEVC_stepN rfl ?_ | refine genVC_stepN rfl ?_); intro K hK) | ((first | refine hK _ _ _ ?_ | refine hK _ _ ?_ | refine hK _ ?_); clear hK K) | refine seqVC_nil ?_ | refine parVC_nil ?_ | refine parEVC_nil ?_ | refine genVC_nil ?_ | refine AWP.block ?_ | (refine AWP.cond (by with_unfolding_all rfl) ?_ ?_ <;> intro h <;> (try simp only [zM, zN] at h) <;> try exact absurd h (by decide)) | refine AWP.skip ?_ | refine AWP.ret ?_ | refine AWP.exit ?_ | (refine ⟨(by first | omega | (simp only [List.length_append, List.length_map, List.length_take, List.length_drop, List.length_cons, List.length_nil, List.length_replicate]; omega) : _ ≤ _), ?_⟩) | refine ⟨by omega, by omega, ?_⟩) | (refine ⟨1000001, _, _, _, draw_k 1000001 g.s hg 4 (by omega), rfl, ?_⟩) | ( refine Or.inr ⟨_, _, _, r0, ⟨rfl, rfl, trivial⟩, rfl, rfl, ?_⟩) | (with_reducible first | refine AWP.parR mixed (by kernel_rfl) fun K hK => ?_ | refine ⟨(by kernel_rfl : depB _ _ _ = true), ?_⟩ | refine Or.inl ?_) | (clear hK K))
  all_goals (refine ⟨?_, fun x hx => hx⟩; first | rfl | (simp only [getV, List.append_assoc, List.cons_append, List.nil_append]))
def applyV (E : Mk) (env : List NamD) (g : Gn) : List UInt8 × Gn :=
  let a0 := E 5 env (nxt g 4)
  let a1 := E 0 env a0.2
  ([97, 112, 112, 108, 121, 40] ++ a0.1 ++ [44, 32] ++ a1.1 ++ [41], a1.2)
theorem apply_c (c : Cst) (D D1 : Int) (m L : Nat) (E : Mk) (hD : IntKind.i64.wrap (D - 1) = D1) (hE : Good c D1 m L E) (hL : L ≤ 1000000) (g : Gn) (hg : g.s.ok) (env : List NamD) (he : EOk m env) (hm : m ≤ 1000) (hn : drawV g.s 4 = 2) : PCB Tryd.prog 81 [Sp 1000000, I .i64 0, I .i64 D, Envt env] (gB c g) (S (applyV E env g).1) (gB c (applyV E env g).2) := by
  have hmax : 10000000 ≤ maxLen := by unfold maxLen; omega
  have r0 := hE.run 5 env (nxt g 4) (ok_nxt hg 4) he
  have k0 := hE.ok 5 env (nxt g 4) (ok_nxt hg 4) he
  have l0 := hE.len 5 env (nxt g 4) (ok_nxt hg 4) he
  have r1 := hE.run 0 env (E 5 env (nxt g 4)).2 k0 he
  have k1 := hE.ok 0 env (E 5 env (nxt g 4)).2 k0 he
  have l1 := hE.len 0 env (E 5 env (nxt g 4)).2 k0 he
  refine PCB.of_body Tryd.func81 rfl (by decide) Tryd.ntmps81 Tryd.results81 rfl rfl rfl ?_ rfl rfl
  repeat' (first | (simp only [go_sem, zA, zB, zC, zD, zE, zF, zG, reduceCtorEq, zH, zI, zJ, zK, zL, Bx.puts, hD, hn]; all_goals fail_if_success guard_target =ₛ False) | (with_reducible first | ((first | refine seqVC_stepN rfl ?_ | refine AWP.seq ?_ | refine AWP.seqR (by kernel_rfl) ?_ | refine parVC_stepN rfl ?_ | refine parEVC_stepN rfl ?_ | refine genVC_stepN rfl ?_); intro K hK) | ((first | refine hK _ _ _ ?_ | refine hK _ _ ?_ | refine hK _ ?_); clear hK K) | refine seqVC_nil ?_ | refine parVC_nil ?_ | refine parEVC_nil ?_ | refine genVC_nil ?_ | refine AWP.block ?_ | (refine AWP.cond (by with_unfolding_all rfl) ?_ ?_ <;> intro h <;> (try simp only [zM, zN] at h) <;> try exact absurd h (by decide)) | refine AWP.skip ?_ | refine AWP.ret ?_ | refine AWP.exit ?_ | (refine ⟨(by first | omega | (simp only [List.length_append, List.length_map, List.length_take, List.length_drop, List.length_cons, List.length_nil, List.length_replicate]; omega) : _ ≤ _), ?_⟩) | refine ⟨by omega, by omega, ?_⟩) | (refine ⟨1000001, _, _, _, draw_k 1000001 g.s hg 4 (by omega), rfl, ?_⟩) | ( refine Or.inr ⟨_, _, _, r0, ⟨rfl, rfl, trivial⟩, rfl, rfl, ?_⟩) | ( refine Or.inr ⟨_, _, _, r1, ⟨rfl, rfl, trivial⟩, rfl, rfl, ?_⟩) | (with_reducible first | refine AWP.parR mixed (by kernel_rfl) fun K hK => ?_ | refine ⟨(by kernel_rfl : depB _ _ _ = true), ?_⟩ | refine Or.inl ?_) | (clear hK K))
  all_goals (refine ⟨?_, fun x hx => hx⟩; first | rfl | (simp only [applyV, List.append_assoc, List.cons_append, List.nil_append]))
def assertV (E : Mk) (env : List NamD) (g : Gn) : List UInt8 × Gn :=
  let a0 := E 0 env (nxt g 4)
  ([97, 115, 115, 101, 114, 116, 40] ++ a0.1 ++ [32, 58, 32, 96, 105, 110, 116, 96, 41], a0.2)
theorem assert_c (c : Cst) (D D1 : Int) (m L : Nat) (E : Mk) (hD : IntKind.i64.wrap (D - 1) = D1) (hE : Good c D1 m L E) (hL : L ≤ 1000000) (g : Gn) (hg : g.s.ok) (env : List NamD) (he : EOk m env) (hm : m ≤ 1000) (hn : drawV g.s 4 = 3) : PCB Tryd.prog 81 [Sp 1000000, I .i64 0, I .i64 D, Envt env] (gB c g) (S (assertV E env g).1) (gB c (assertV E env g).2) := by
  have hmax : 10000000 ≤ maxLen := by unfold maxLen; omega
  have r0 := hE.run 0 env (nxt g 4) (ok_nxt hg 4) he
  have k0 := hE.ok 0 env (nxt g 4) (ok_nxt hg 4) he
  have l0 := hE.len 0 env (nxt g 4) (ok_nxt hg 4) he
  refine PCB.of_body Tryd.func81 rfl (by decide) Tryd.ntmps81 Tryd.results81 rfl rfl rfl ?_ rfl rfl
  repeat' (first | (simp only [go_sem, zA, zB, zC, zD, zE, zF, zG, reduceCtorEq, zH, zI, zJ, zK, zL, Bx.puts, hD, hn]; all_goals fail_if_success guard_target =ₛ False) | (with_reducible first | ((first | refine seqVC_stepN rfl ?_ | refine AWP.seq ?_ | refine AWP.seqR (by kernel_rfl) ?_ | refine parVC_stepN rfl ?_ | refine parEVC_stepN rfl ?_ | refine genVC_stepN rfl ?_); intro K hK) | ((first | refine hK _ _ _ ?_ | refine hK _ _ ?_ | refine hK _ ?_); clear hK K) | refine seqVC_nil ?_ | refine parVC_nil ?_ | refine parEVC_nil ?_ | refine genVC_nil ?_ | refine AWP.block ?_ | (refine AWP.cond (by with_unfolding_all rfl) ?_ ?_ <;> intro h <;> (try simp only [zM, zN] at h) <;> try exact absurd h (by decide)) | refine AWP.skip ?_ | refine AWP.ret ?_ | refine AWP.exit ?_ | (refine ⟨(by first | omega | (simp only [List.length_append, List.length_map, List.length_take, List.length_drop, List.length_cons, List.length_nil, List.length_replicate]; omega) : _ ≤ _), ?_⟩) | refine ⟨by omega, by omega, ?_⟩) | (refine ⟨1000001, _, _, _, draw_k 1000001 g.s hg 4 (by omega), rfl, ?_⟩) | ( refine Or.inr ⟨_, _, _, r0, ⟨rfl, rfl, trivial⟩, rfl, rfl, ?_⟩) | (with_reducible first | refine AWP.parR mixed (by kernel_rfl) fun K hK => ?_ | refine ⟨(by kernel_rfl : depB _ _ _ = true), ?_⟩ | refine Or.inl ?_) | (clear hK K))
  all_goals (refine ⟨?_, fun x hx => hx⟩; first | rfl | (simp only [assertV, List.append_assoc, List.cons_append, List.nil_append]))
def lessV (E : Mk) (env : List NamD) (g : Gn) : List UInt8 × Gn :=
  let a0 := E 0 env (nxt g 3)
  let a1 := E 0 env a0.2
  ([40] ++ a0.1 ++ [32, 60, 32] ++ a1.1 ++ [41], a1.2)
theorem less_c (c : Cst) (D D1 : Int) (m L : Nat) (E : Mk) (hD : IntKind.i64.wrap (D - 1) = D1) (hE : Good c D1 m L E) (hL : L ≤ 1000000) (g : Gn) (hg : g.s.ok) (env : List NamD) (he : EOk m env) (hm : m ≤ 1000) (hn : drawV g.s 3 = 0) : PCB Tryd.prog 81 [Sp 1000000, I .i64 1, I .i64 D, Envt env] (gB c g) (S (lessV E env g).1) (gB c (lessV E env g).2) := by
  have hmax : 10000000 ≤ maxLen := by unfold maxLen; omega
  have r0 := hE.run 0 env (nxt g 3) (ok_nxt hg 3) he
  have k0 := hE.ok 0 env (nxt g 3) (ok_nxt hg 3) he
  have l0 := hE.len 0 env (nxt g 3) (ok_nxt hg 3) he
  have r1 := hE.run 0 env (E 0 env (nxt g 3)).2 k0 he
  have k1 := hE.ok 0 env (E 0 env (nxt g 3)).2 k0 he
  have l1 := hE.len 0 env (E 0 env (nxt g 3)).2 k0 he
  refine PCB.of_body Tryd.func81 rfl (by decide) Tryd.ntmps81 Tryd.results81 rfl rfl rfl ?_ rfl rfl
  repeat' (first | (simp only [go_sem, zA, zB, zC, zD, zE, zF, zG, reduceCtorEq, zH, zI, zJ, zK, zL, Bx.puts, hD, hn]; all_goals fail_if_success guard_target =ₛ False) | (with_reducible first | ((first | refine seqVC_stepN rfl ?_ | refine AWP.seq ?_ | refine AWP.seqR (by kernel_rfl) ?_ | refine parVC_stepN rfl ?_ | refine parEVC_stepN rfl ?_ | refine genVC_stepN rfl ?_); intro K hK) | ((first | refine hK _ _ _ ?_ | refine hK _ _ ?_ | refine hK _ ?_); clear hK K) | refine seqVC_nil ?_ | refine parVC_nil ?_ | refine parEVC_nil ?_ | refine genVC_nil ?_ | refine AWP.block ?_ | (refine AWP.cond (by with_unfolding_all rfl) ?_ ?_ <;> intro h <;> (try simp only [zM, zN] at h) <;> try exact absurd h (by decide)) | refine AWP.skip ?_ | refine AWP.ret ?_ | refine AWP.exit ?_ | (refine ⟨(by first | omega | (simp only [List.length_append, List.length_map, List.length_take, List.length_drop, List.length_cons, List.length_nil, List.length_replicate]; omega) : _ ≤ _), ?_⟩) | refine ⟨by omega, by omega, ?_⟩) | (refine ⟨1000001, _, _, _, draw_k 1000001 g.s hg 3 (by omega), rfl, ?_⟩) | ( refine Or.inr ⟨_, _, _, r0, ⟨rfl, rfl, trivial⟩, rfl, rfl, ?_⟩) | ( refine Or.inr ⟨_, _, _, r1, ⟨rfl, rfl, trivial⟩, rfl, rfl, ?_⟩) | (with_reducible first | refine AWP.parR mixed (by kernel_rfl) fun K hK => ?_ | refine ⟨(by kernel_rfl : depB _ _ _ = true), ?_⟩ | refine Or.inl ?_) | (clear hK K))
  all_goals (refine ⟨?_, fun x hx => hx⟩; first | rfl | (simp only [lessV, List.append_assoc, List.cons_append, List.nil_append]))
def eqlV (E : Mk) (env : List NamD) (g : Gn) : List UInt8 × Gn :=
  let a0 := E 7 env (nxt g 3)
  let a1 := E 7 env a0.2
  ([40] ++ a0.1 ++ [32, 61, 61, 32] ++ a1.1 ++ [41], a1.2)
theorem eql_c (c : Cst) (D D1 : Int) (m L : Nat) (E : Mk) (hD : IntKind.i64.wrap (D - 1) = D1) (hE : Good c D1 m L E) (hL : L ≤ 1000000) (g : Gn) (hg : g.s.ok) (env : List NamD) (he : EOk m env) (hm : m ≤ 1000) (hn : drawV g.s 3 = 1) : PCB Tryd.prog 81 [Sp 1000000, I .i64 1, I .i64 D, Envt env] (gB c g) (S (eqlV E env g).1) (gB c (eqlV E env g).2) := by
  have hmax : 10000000 ≤ maxLen := by unfold maxLen; omega
  have r0 := hE.run 7 env (nxt g 3) (ok_nxt hg 3) he
  have k0 := hE.ok 7 env (nxt g 3) (ok_nxt hg 3) he
  have l0 := hE.len 7 env (nxt g 3) (ok_nxt hg 3) he
  have r1 := hE.run 7 env (E 7 env (nxt g 3)).2 k0 he
  have k1 := hE.ok 7 env (E 7 env (nxt g 3)).2 k0 he
  have l1 := hE.len 7 env (E 7 env (nxt g 3)).2 k0 he
  refine PCB.of_body Tryd.func81 rfl (by decide) Tryd.ntmps81 Tryd.results81 rfl rfl rfl ?_ rfl rfl
  repeat' (first | (simp only [go_sem, zA, zB, zC, zD, zE, zF, zG, reduceCtorEq, zH, zI, zJ, zK, zL, Bx.puts, hD, hn]; all_goals fail_if_success guard_target =ₛ False) | (with_reducible first | ((first | refine seqVC_stepN rfl ?_ | refine AWP.seq ?_ | refine AWP.seqR (by kernel_rfl) ?_ | refine parVC_stepN rfl ?_ | refine parEVC_stepN rfl ?_ | refine genVC_stepN rfl ?_); intro K hK) | ((first | refine hK _ _ _ ?_ | refine hK _ _ ?_ | refine hK _ ?_); clear hK K) | refine seqVC_nil ?_ | refine parVC_nil ?_ | refine parEVC_nil ?_ | refine genVC_nil ?_ | refine AWP.block ?_ | (refine AWP.cond (by with_unfolding_all rfl) ?_ ?_ <;> intro h <;> (try simp only [zM, zN] at h) <;> try exact absurd h (by decide)) | refine AWP.skip ?_ | refine AWP.ret ?_ | refine AWP.exit ?_ | (refine ⟨(by first | omega | (simp only [List.length_append, List.length_map, List.length_take, List.length_drop, List.length_cons, List.length_nil, List.length_replicate]; omega) : _ ≤ _), ?_⟩) | refine ⟨by omega, by omega, ?_⟩) | (refine ⟨1000001, _, _, _, draw_k 1000001 g.s hg 3 (by omega), rfl, ?_⟩) | ( refine Or.inr ⟨_, _, _, r0, ⟨rfl, rfl, trivial⟩, rfl, rfl, ?_⟩) | ( refine Or.inr ⟨_, _, _, r1, ⟨rfl, rfl, trivial⟩, rfl, rfl, ?_⟩) | (with_reducible first | refine AWP.parR mixed (by kernel_rfl) fun K hK => ?_ | refine ⟨(by kernel_rfl : depB _ _ _ = true), ?_⟩ | refine Or.inl ?_) | (clear hK K))
  all_goals (refine ⟨?_, fun x hx => hx⟩; first | rfl | (simp only [eqlV, List.append_assoc, List.cons_append, List.nil_append]))
def notV (E : Mk) (env : List NamD) (g : Gn) : List UInt8 × Gn :=
  let a0 := E 1 env (nxt g 3)
  ([40, 110, 111, 116, 32] ++ a0.1 ++ [41], a0.2)
theorem not_c (c : Cst) (D D1 : Int) (m L : Nat) (E : Mk) (hD : IntKind.i64.wrap (D - 1) = D1) (hE : Good c D1 m L E) (hL : L ≤ 1000000) (g : Gn) (hg : g.s.ok) (env : List NamD) (he : EOk m env) (hm : m ≤ 1000) (hn : drawV g.s 3 = 2) : PCB Tryd.prog 81 [Sp 1000000, I .i64 1, I .i64 D, Envt env] (gB c g) (S (notV E env g).1) (gB c (notV E env g).2) := by
  have hmax : 10000000 ≤ maxLen := by unfold maxLen; omega
  have r0 := hE.run 1 env (nxt g 3) (ok_nxt hg 3) he
  have k0 := hE.ok 1 env (nxt g 3) (ok_nxt hg 3) he
  have l0 := hE.len 1 env (nxt g 3) (ok_nxt hg 3) he
  refine PCB.of_body Tryd.func81 rfl (by decide) Tryd.ntmps81 Tryd.results81 rfl rfl rfl ?_ rfl rfl
  repeat' (first | (simp only [go_sem, zA, zB, zC, zD, zE, zF, zG, reduceCtorEq, zH, zI, zJ, zK, zL, Bx.puts, hD, hn]; all_goals fail_if_success guard_target =ₛ False) | (with_reducible first | ((first | refine seqVC_stepN rfl ?_ | refine AWP.seq ?_ | refine AWP.seqR (by kernel_rfl) ?_ | refine parVC_stepN rfl ?_ | refine parEVC_stepN rfl ?_ | refine genVC_stepN rfl ?_); intro K hK) | ((first | refine hK _ _ _ ?_ | refine hK _ _ ?_ | refine hK _ ?_); clear hK K) | refine seqVC_nil ?_ | refine parVC_nil ?_ | refine parEVC_nil ?_ | refine genVC_nil ?_ | refine AWP.block ?_ | (refine AWP.cond (by with_unfolding_all rfl) ?_ ?_ <;> intro h <;> (try simp only [zM, zN] at h) <;> try exact absurd h (by decide)) | refine AWP.skip ?_ | refine AWP.ret ?_ | refine AWP.exit ?_ | (refine ⟨(by first | omega | (simp only [List.length_append, List.length_map, List.length_take, List.length_drop, List.length_cons, List.length_nil, List.length_replicate]; omega) : _ ≤ _), ?_⟩) | refine ⟨by omega, by omega, ?_⟩) | (refine ⟨1000001, _, _, _, draw_k 1000001 g.s hg 3 (by omega), rfl, ?_⟩) | ( refine Or.inr ⟨_, _, _, r0, ⟨rfl, rfl, trivial⟩, rfl, rfl, ?_⟩) | (with_reducible first | refine AWP.parR mixed (by kernel_rfl) fun K hK => ?_ | refine ⟨(by kernel_rfl : depB _ _ _ = true), ?_⟩ | refine Or.inl ?_) | (clear hK K))
  all_goals (refine ⟨?_, fun x hx => hx⟩; first | rfl | (simp only [notV, List.append_assoc, List.cons_append, List.nil_append]))
def consV (E : Mk) (env : List NamD) (g : Gn) : List UInt8 × Gn :=
  let a0 := E 0 env g
  let a1 := E 3 env a0.2
  ([91] ++ a0.1 ++ [32, 124, 32] ++ a1.1 ++ [93], a1.2)
theorem cons_c (c : Cst) (D D1 : Int) (m L : Nat) (E : Mk) (hD : IntKind.i64.wrap (D - 1) = D1) (hE : Good c D1 m L E) (hL : L ≤ 1000000) (g : Gn) (hg : g.s.ok) (env : List NamD) (he : EOk m env) (hm : m ≤ 1000) : PCB Tryd.prog 81 [Sp 1000000, I .i64 3, I .i64 D, Envt env] (gB c g) (S (consV E env g).1) (gB c (consV E env g).2) := by
  have hmax : 10000000 ≤ maxLen := by unfold maxLen; omega
  have r0 := hE.run 0 env g hg he
  have k0 := hE.ok 0 env g hg he
  have l0 := hE.len 0 env g hg he
  have r1 := hE.run 3 env (E 0 env g).2 k0 he
  have k1 := hE.ok 3 env (E 0 env g).2 k0 he
  have l1 := hE.len 3 env (E 0 env g).2 k0 he
  refine PCB.of_body Tryd.func81 rfl (by decide) Tryd.ntmps81 Tryd.results81 rfl rfl rfl ?_ rfl rfl
  repeat' (first | (simp only [go_sem, zA, zB, zC, zD, zE, zF, zG, reduceCtorEq, zH, zI, zJ, zK, zL, Bx.puts, hD]; all_goals fail_if_success guard_target =ₛ False) | (with_reducible first | ((first | refine seqVC_stepN rfl ?_ | refine AWP.seq ?_ | refine AWP.seqR (by kernel_rfl) ?_ | refine parVC_stepN rfl ?_ | refine parEVC_stepN rfl ?_ | refine genVC_stepN rfl ?_); intro K hK) | ((first | refine hK _ _ _ ?_ | refine hK _ _ ?_ | refine hK _ ?_); clear hK K) | refine seqVC_nil ?_ | refine parVC_nil ?_ | refine parEVC_nil ?_ | refine genVC_nil ?_ | refine AWP.block ?_ | (refine AWP.cond (by with_unfolding_all rfl) ?_ ?_ <;> intro h <;> (try simp only [zM, zN] at h) <;> try exact absurd h (by decide)) | refine AWP.skip ?_ | refine AWP.ret ?_ | refine AWP.exit ?_ | (refine ⟨(by first | omega | (simp only [List.length_append, List.length_map, List.length_take, List.length_drop, List.length_cons, List.length_nil, List.length_replicate]; omega) : _ ≤ _), ?_⟩) | refine ⟨by omega, by omega, ?_⟩) | ( refine Or.inr ⟨_, _, _, r0, ⟨rfl, rfl, trivial⟩, rfl, rfl, ?_⟩) | ( refine Or.inr ⟨_, _, _, r1, ⟨rfl, rfl, trivial⟩, rfl, rfl, ?_⟩) | (with_reducible first | refine AWP.parR mixed (by kernel_rfl) fun K hK => ?_ | refine ⟨(by kernel_rfl : depB _ _ _ = true), ?_⟩ | refine Or.inl ?_) | (clear hK K))
  all_goals (refine ⟨?_, fun x hx => hx⟩; first | rfl | (simp only [consV, List.append_assoc, List.cons_append, List.nil_append]))
def pairV (E : Mk) (env : List NamD) (g : Gn) : List UInt8 × Gn :=
  let a0 := E 2 env g
  let a1 := E 0 env a0.2
  ([123] ++ a0.1 ++ [44, 32] ++ a1.1 ++ [125], a1.2)
theorem pair_c (c : Cst) (D D1 : Int) (m L : Nat) (E : Mk) (hD : IntKind.i64.wrap (D - 1) = D1) (hE : Good c D1 m L E) (hL : L ≤ 1000000) (g : Gn) (hg : g.s.ok) (env : List NamD) (he : EOk m env) (hm : m ≤ 1000) : PCB Tryd.prog 81 [Sp 1000000, I .i64 4, I .i64 D, Envt env] (gB c g) (S (pairV E env g).1) (gB c (pairV E env g).2) := by
  have hmax : 10000000 ≤ maxLen := by unfold maxLen; omega
  have r0 := hE.run 2 env g hg he
  have k0 := hE.ok 2 env g hg he
  have l0 := hE.len 2 env g hg he
  have r1 := hE.run 0 env (E 2 env g).2 k0 he
  have k1 := hE.ok 0 env (E 2 env g).2 k0 he
  have l1 := hE.len 0 env (E 2 env g).2 k0 he
  refine PCB.of_body Tryd.func81 rfl (by decide) Tryd.ntmps81 Tryd.results81 rfl rfl rfl ?_ rfl rfl
  repeat' (first | (simp only [go_sem, zA, zB, zC, zD, zE, zF, zG, reduceCtorEq, zH, zI, zJ, zK, zL, Bx.puts, hD]; all_goals fail_if_success guard_target =ₛ False) | (with_reducible first | ((first | refine seqVC_stepN rfl ?_ | refine AWP.seq ?_ | refine AWP.seqR (by kernel_rfl) ?_ | refine parVC_stepN rfl ?_ | refine parEVC_stepN rfl ?_ | refine genVC_stepN rfl ?_); intro K hK) | ((first | refine hK _ _ _ ?_ | refine hK _ _ ?_ | refine hK _ ?_); clear hK K) | refine seqVC_nil ?_ | refine parVC_nil ?_ | refine parEVC_nil ?_ | refine genVC_nil ?_ | refine AWP.block ?_ | (refine AWP.cond (by with_unfolding_all rfl) ?_ ?_ <;> intro h <;> (try simp only [zM, zN] at h) <;> try exact absurd h (by decide)) | refine AWP.skip ?_ | refine AWP.ret ?_ | refine AWP.exit ?_ | (refine ⟨(by first | omega | (simp only [List.length_append, List.length_map, List.length_take, List.length_drop, List.length_cons, List.length_nil, List.length_replicate]; omega) : _ ≤ _), ?_⟩) | refine ⟨by omega, by omega, ?_⟩) | ( refine Or.inr ⟨_, _, _, r0, ⟨rfl, rfl, trivial⟩, rfl, rfl, ?_⟩) | ( refine Or.inr ⟨_, _, _, r1, ⟨rfl, rfl, trivial⟩, rfl, rfl, ?_⟩) | (with_reducible first | refine AWP.parR mixed (by kernel_rfl) fun K hK => ?_ | refine ⟨(by kernel_rfl : depB _ _ _ = true), ?_⟩ | refine Or.inl ?_) | (clear hK K))
  all_goals (refine ⟨?_, fun x hx => hx⟩; first | rfl | (simp only [pairV, List.append_assoc, List.cons_append, List.nil_append]))
def putV (E : Mk) (env : List NamD) (g : Gn) : List UInt8 × Gn :=
  let a0 := E 6 env g
  let a1 := E 0 env (nxt a0.2 3)
  ([112, 117, 116, 40] ++ a0.1 ++ [44, 32] ++ (putL.getD (drawV a0.2.s 3).toNat []) ++ [44, 32] ++ a1.1 ++ [41], a1.2)
theorem put_c (c : Cst) (D D1 : Int) (m L : Nat) (E : Mk) (hD : IntKind.i64.wrap (D - 1) = D1) (hE : Good c D1 m L E) (hL : L ≤ 1000000) (g : Gn) (hg : g.s.ok) (env : List NamD) (he : EOk m env) (hm : m ≤ 1000) : PCB Tryd.prog 81 [Sp 1000000, I .i64 6, I .i64 D, Envt env] (gB c g) (S (putV E env g).1) (gB c (putV E env g).2) := by
  have hmax : 10000000 ≤ maxLen := by unfold maxLen; omega
  have r0 := hE.run 6 env g hg he
  have k0 := hE.ok 6 env g hg he
  have l0 := hE.len 6 env g hg he
  have hv := drawV_in (E 6 env g).2.s (n := 3) (by omega)
  have hvl := lit_len putL (by decide) hv
  have r1 := hE.run 0 env (nxt (E 6 env g).2 3) (ok_nxt k0 3) he
  have k1 := hE.ok 0 env (nxt (E 6 env g).2 3) (ok_nxt k0 3) he
  have l1 := hE.len 0 env (nxt (E 6 env g).2 3) (ok_nxt k0 3) he
  refine PCB.of_body Tryd.func81 rfl (by decide) Tryd.ntmps81 Tryd.results81 rfl rfl rfl ?_ rfl rfl
  repeat' (first | (simp only [go_sem, zA, zB, zC, zD, zE, zF, zG, reduceCtorEq, zH, zI, zJ, zK, zL, Bx.puts, hD, parWOp, atW]; all_goals fail_if_success guard_target =ₛ False) | (with_reducible first | ((first | refine seqVC_stepN rfl ?_ | refine AWP.seq ?_ | refine AWP.seqR (by kernel_rfl) ?_ | refine parVC_stepN rfl ?_ | refine parEVC_stepN rfl ?_ | refine genVC_stepN rfl ?_ | refine parWVC_stepN rfl ?_); intro K hK) | ((first | refine hK _ _ _ ?_ | refine hK _ _ ?_ | refine hK _ ?_); clear hK K) | refine seqVC_nil ?_ | refine parVC_nil ?_ | refine parEVC_nil ?_ | refine genVC_nil ?_ | refine parWVC_nil ?_ | refine AWP.block ?_ | (refine AWP.cond (by with_unfolding_all rfl) ?_ ?_ <;> intro h <;> (try simp only [zM, zN] at h) <;> try exact absurd h (by decide)) | refine AWP.skip ?_ | refine AWP.ret ?_ | refine AWP.exit ?_ | (refine ⟨(by first | omega | (simp only [List.length_append, List.length_map, List.length_take, List.length_drop, List.length_cons, List.length_nil, List.length_replicate]; omega) : _ ≤ _), ?_⟩) | refine ⟨by omega, by omega, ?_⟩) | ( refine ⟨_, _, _, r0, ⟨rfl, rfl, trivial⟩, rfl, rfl, ⟨trivial, rfl⟩, ?_⟩) | ( refine ⟨_, _, _, PCB.ren (draw_c (E 6 env g).2.s k0 3 (by omega)) (fun _ => 1000001) rfl rfl rfl rfl rfl rfl, ⟨rfl, trivial⟩, rfl, rfl, ⟨trivial, rfl⟩, ?_⟩) | ( refine ⟨hv.1, [.str (putL.getD (drawV (E 6 env g).2.s 3).toNat [])], lit_get (fun x => [C.str x]) putL [] hv, ?_⟩) | ( refine ⟨[.str (putL.getD (drawV (E 6 env g).2.s 3).toNat [])], lit_get (fun x => [C.str x]) putL [] hv, ?_⟩) | ( refine ⟨_, _, _, r1, ⟨rfl, rfl, trivial⟩, rfl, rfl, ⟨trivial, rfl⟩, ?_⟩) | (with_reducible first | (refine AWP.parW (id := 27) [] 1000000 (.ptr 1000001 0) mixed (by kernel_rfl) (by with_unfolding_all exact ⟨trivial, rfl⟩) fun K hK => ?_) | refine AWP.parR mixed (by kernel_rfl) fun K hK => ?_ | refine ⟨(by kernel_rfl : depB _ _ _ = true), ?_⟩ | refine Or.inl ?_) | (clear hK K))
  all_goals (refine ⟨?_, fun x hx => hx⟩; first | rfl | (simp only [putV, List.append_assoc, List.cons_append, List.nil_append]))
def thingV (E : Mk) (env : List NamD) (g : Gn) : List UInt8 × Gn :=
  let a0 := E 7 env g
  let a1 := E 7 env a0.2
  ([123] ++ a0.1 ++ [44, 32] ++ a1.1 ++ [125], a1.2)
theorem thing_c (c : Cst) (D D1 : Int) (m L : Nat) (E : Mk) (hD : IntKind.i64.wrap (D - 1) = D1) (hE : Good c D1 m L E) (hL : L ≤ 1000000) (g : Gn) (hg : g.s.ok) (env : List NamD) (he : EOk m env) (hm : m ≤ 1000) : PCB Tryd.prog 81 [Sp 1000000, I .i64 7, I .i64 D, Envt env] (gB c g) (S (thingV E env g).1) (gB c (thingV E env g).2) := by
  have hmax : 10000000 ≤ maxLen := by unfold maxLen; omega
  have r0 := hE.run 7 env g hg he
  have k0 := hE.ok 7 env g hg he
  have l0 := hE.len 7 env g hg he
  have r1 := hE.run 7 env (E 7 env g).2 k0 he
  have k1 := hE.ok 7 env (E 7 env g).2 k0 he
  have l1 := hE.len 7 env (E 7 env g).2 k0 he
  refine PCB.of_body Tryd.func81 rfl (by decide) Tryd.ntmps81 Tryd.results81 rfl rfl rfl ?_ rfl rfl
  repeat' (first | (simp only [go_sem, zA, zB, zC, zD, zE, zF, zG, reduceCtorEq, zH, zI, zJ, zK, zL, Bx.puts, hD]; all_goals fail_if_success guard_target =ₛ False) | (with_reducible first | ((first | refine seqVC_stepN rfl ?_ | refine AWP.seq ?_ | refine AWP.seqR (by kernel_rfl) ?_ | refine parVC_stepN rfl ?_ | refine parEVC_stepN rfl ?_ | refine genVC_stepN rfl ?_); intro K hK) | ((first | refine hK _ _ _ ?_ | refine hK _ _ ?_ | refine hK _ ?_); clear hK K) | refine seqVC_nil ?_ | refine parVC_nil ?_ | refine parEVC_nil ?_ | refine genVC_nil ?_ | refine AWP.block ?_ | (refine AWP.cond (by with_unfolding_all rfl) ?_ ?_ <;> intro h <;> (try simp only [zM, zN] at h) <;> try exact absurd h (by decide)) | refine AWP.skip ?_ | refine AWP.ret ?_ | refine AWP.exit ?_ | (refine ⟨(by first | omega | (simp only [List.length_append, List.length_map, List.length_take, List.length_drop, List.length_cons, List.length_nil, List.length_replicate]; omega) : _ ≤ _), ?_⟩) | refine ⟨by omega, by omega, ?_⟩) | ( refine Or.inr ⟨_, _, _, r0, ⟨rfl, rfl, trivial⟩, rfl, rfl, ?_⟩) | ( refine Or.inr ⟨_, _, _, r1, ⟨rfl, rfl, trivial⟩, rfl, rfl, ?_⟩) | (with_reducible first | refine AWP.parR mixed (by kernel_rfl) fun K hK => ?_ | refine ⟨(by kernel_rfl : depB _ _ _ = true), ?_⟩ | refine Or.inl ?_) | (clear hK K))
  all_goals (refine ⟨?_, fun x hx => hx⟩; first | rfl | (simp only [thingV, List.append_assoc, List.cons_append, List.nil_append]))
def funV (E : Mk) (env : List NamD) (g : Gn) : List UInt8 × Gn :=
  let a := E 0 (env ++ [⟨freshV g, 0⟩]) (incK g)
  ([102, 117, 110, 32, 40] ++ freshV g ++ [41, 32, 119, 104, 101, 110, 32, 105, 115, 95, 105, 110, 116, 40] ++ freshV g ++ [41, 32, 45, 62, 32] ++ a.1 ++ [32, 101, 110, 100], a.2)
/-- a step of the proof's own ahead of the region i -/
theorem atR {P : Program} {n : Nat} {l : Array Oper} {b : Bool} {σ τ : AS} {Q : Exit → AS → Prop} (i : Nat) (g : Gh n σ τ) (h : AWP P n (.region i l b) τ Q) : AWP P n (.region i l b) σ Q := AWP.gh g h
theorem nam_snoc (l : List NamD) (x : List UInt8) (n : Int) : l.map encNam ++ [[C.str x, C.int .i64 n]] = (l ++ [(⟨x, n⟩ : NamD)]).map encNam := by rw [List.map_append]; rfl
theorem fun_c (c : Cst) (D D1 : Int) (m L : Nat) (E : Mk) (hD : IntKind.i64.wrap (D - 1) = D1) (hE : Good c D1 (m + 1) L E) (hL : L ≤ 1000000) (g : Gn) (hg : g.s.ok) (env : List NamD) (he : EOk m env) (hm : m ≤ 1000) : PCB Tryd.prog 81 [Sp 1000000, I .i64 5, I .i64 D, Envt env] (gB c g) (S (funV E env g).1) (gB c (funV E env g).2) := by
  have hmax : 10000000 ≤ maxLen := by unfold maxLen; omega
  have hlf := freshV_len g
  have hx : EOk (m + 1) (env ++ [(⟨freshV g, 0⟩ : NamD)]) := he.snoc _ (by simp only; omega)
  have hlen2 := he.len
  have r0 := hE.run 0 (env ++ [⟨freshV g, 0⟩]) (incK g) hg hx
  have l0 := hE.len 0 (env ++ [⟨freshV g, 0⟩]) (incK g) hg hx
  refine PCB.of_body Tryd.func81 rfl (by decide) Tryd.ntmps81 Tryd.results81 rfl rfl rfl ?_ rfl rfl
  repeat' (first | (refine atR 25 (Gh.freeze 164 (by rfl) (by rfl) (by simp only [go_sem, zA, zB, zC, zD, zE, zF, zG, reduceCtorEq, zH, zI, zJ, zK, zL, Bx.puts, hD, nam_snoc, List.length_map, List.length_map]) (by simp only [go_sem, zA, zB, zC, zD, zE, zF, zG, reduceCtorEq, zH, zI, zJ, zK, zL, Bx.puts, hD, nam_snoc, List.length_map, List.length_map])) ?_; simp only [frE, frB, Bx.drop, go_sem, zA, zB, zC, zD, zE, zF, zG, reduceCtorEq, zH, zI, zJ, zK, zL, Bx.puts, hD, nam_snoc, List.length_map]) | (simp only [go_sem, zA, zB, zC, zD, zE, zF, zG, reduceCtorEq, zH, zI, zJ, zK, zL, Bx.puts, hD, nam_snoc, List.length_map]; all_goals fail_if_success guard_target =ₛ False) | (with_reducible first | ((first | refine seqVC_stepN rfl ?_ | refine AWP.seq ?_ | refine AWP.seqR (by kernel_rfl) ?_ | refine parVC_stepN rfl ?_ | refine parEVC_stepN rfl ?_ | refine genVC_stepN rfl ?_); intro K hK) | ((first | refine hK _ _ _ ?_ | refine hK _ _ ?_ | refine hK _ ?_); clear hK K) | refine seqVC_nil ?_ | refine parVC_nil ?_ | refine parEVC_nil ?_ | refine genVC_nil ?_ | refine AWP.block ?_ | (refine AWP.cond (by with_unfolding_all rfl) ?_ ?_ <;> intro h <;> (try simp only [zM, zN] at h) <;> try exact absurd h (by decide)) | refine AWP.skip ?_ | refine AWP.ret ?_ | refine AWP.exit ?_ | (refine ⟨(by first | omega | (simp only [List.length_append, List.length_map, List.length_take, List.length_drop, List.length_cons, List.length_nil, List.length_replicate]; omega) : _ ≤ _), ?_⟩) | refine ⟨by omega, by omega, ?_⟩) | ( refine Or.inr ⟨_, _, _, fresh_c c g, ⟨rfl, rfl, trivial⟩, rfl, rfl, ?_⟩) | ( refine Or.inr ⟨_, _, _, r0, ⟨rfl, rfl, trivial⟩, rfl, rfl, ?_⟩) | (with_reducible first | refine AWP.parR mixed (by kernel_rfl) fun K hK => ?_ | refine ⟨(by kernel_rfl : depB _ _ _ = true), ?_⟩ | refine Or.inl ?_) | (clear hK K))
  all_goals (refine ⟨?_, fun x hx => hx⟩; first | rfl | (simp only [funV, List.append_assoc, List.cons_append, List.nil_append]))
end Go.Proofs.YtogponhonjiidaaDoor
