/- A part of the proof: lemmas about the walk of the program and about plain integers and lists. No conditions beyond those that each lemma states. -/
import Derived.Test.YtogponhonjiidaaDoorTl8
set_option linter.unusedSimpArgs false
set_option linter.unusedVariables false
set_option maxRecDepth 20000
set_option maxHeartbeats 16000000
namespace Go.Proofs.YtogponhonjiidaaDoor
open Go Go.Sx
open Nat renaming reduceBEq → zA, reduceBNe → zB, reduceAdd → zC, reduceSub → zD, reduceMul → zE, reduceLeDiff → zF, reduceLT → zG, reduceEqDiff → zH
open Int renaming reduceToNat → zI, reduceLE → zJ, reduceLT → zK, reduceEq → zL
open Bool renaming not_eq_true' → zM, not_eq_false' → zN
theorem cntW_all {p : Int → Bool} : ∀ {l : List UInt8}, (∀ x ∈ l, p x.toNat = true) → cntW p l = l.length
  | [], _ => rfl
  | b :: l, h => by rw [cntW, h b List.mem_cons_self, cond_true, cntW_all fun x hx => h x (List.mem_cons_of_mem _ hx), List.length_cons]; omega
theorem skipL_non {b : UInt8} {l : List UInt8} (h : sepI b.toNat = false) (hc : decide ((b.toNat : Int) = 37) = false) : skipL (b :: l) = 0 := by rw [skipL, h, hc]; rfl
theorem skipL_32 (l : List UInt8) : skipL (32 :: l) = 1 + skipL l := by rw [skipL, show sepI ((32 : UInt8).toNat : Int) = true by decide]; rfl
theorem skipL_spaces : ∀ m : Nat, skipL (List.replicate m 32) = m
  | 0 => by rw [List.replicate_zero, skipL]
  | m + 1 => by rw [List.replicate_succ, skipL_32, skipL_spaces m]; omega
theorem scan_short (s : List UInt8) (hl : s.length ≤ 4000) : scanR s = scanV (quoV s) (encV s) s (s.length + 1) (skipTo s 0) [] := by
  unfold scanR tscanV
  rw [decide_eq_false (show ¬ (4000 : Int) < (s.length : Int) by omega)]; rfl
theorem scan_long (s : List UInt8) (hl : 4000 < s.length) : scanR s = ([], 0, 2) := by
  unfold scanR tscanV
  rw [decide_eq_true (show (4000 : Int) < (s.length : Int) by omega)]; rfl
theorem scan_one (s : List UInt8) (hl : s.length ≤ 4000) {i k : Nat} {b : UInt8} {t : Tok} (hi : skipTo s 0 = i) (hb : s[i]? = some b) (hn : nextV s i b (quoV s i) (encV s i) = ((t, 0), k)) (hk : skipTo s k = s.length) :
    scanR s = ([{ t with at_ := (i : Int) }], 0, 0) := by
  have hlt := (List.getElem?_eq_some_iff.1 hb).1
  rw [scan_short s hl, hi, scanV_step _ _ s _ i [] hb hn, decide_eq_true rfl, cond_true, hk, scanV_end _ _ s _ _ _ (Nat.le_refl _)]
  rfl
theorem scan_bad (s : List UInt8) (hl : s.length ≤ 4000) {i k : Nat} {b : UInt8} {t : Tok} {e : Int} (he : e ≠ 0) (hi : skipTo s 0 = i) (hb : s[i]? = some b) (hn : nextV s i b (quoV s i) (encV s i) = ((t, e), k)) :
    scanR s = ([], (i : Int), e) := by
  rw [scan_short s hl, hi, scanV_step _ _ s _ i [] hb hn, decide_eq_false he]; rfl
theorem lim_name (m : Nat) (h1 : 1 ≤ m) (h2 : m ≤ 1000) : scanR (32 :: List.replicate m 97) = bif decide ((16 : Int) < (m : Int)) then ([], 1, 2) else ([⟨1, List.replicate m 97, 0, 1⟩], 0, 0) := by
  obtain ⟨m, rfl⟩ : ∃ k, m = k + 1 := ⟨m - 1, by omega⟩
  generalize hs : (32 :: List.replicate (m + 1) 97 : List UInt8) = s
  have hl : s.length = m + 2 := by rw [← hs]; simp
  have hi : skipTo s 0 = 1 := by
    unfold skipTo
    rw [List.drop_zero, ← hs, skipL_32, List.replicate_succ, skipL_non (by decide) (by decide)]
  have hb : s[1]? = some 97 := by rw [← hs, List.replicate_succ]; rfl
  have hd : s.drop 2 = List.replicate m 97 := by rw [← hs, List.replicate_succ]; rfl
  have htw : toW nameI s (1 + 1) = s.length := by
    unfold toW
    rw [show 1 + 1 = 2 from rfl, hd, cntW_all (by intro x hx; rw [List.eq_of_mem_replicate hx]; decide), List.length_replicate, hl]; omega
  have htx : (97 :: spanW nameI s (1 + 1) : List UInt8) = List.replicate (m + 1) 97 := by
    rw [← text_cons (p := nameI) hb, htw, List.take_length, ← hs]; rfl
  have hn : nextV s 1 97 (quoV s 1) (encV s 1) = (wordV 1 (List.replicate (m + 1) 97), s.length) := by
    unfold nextV
    rw [show lowI ((97 : UInt8).toNat : Int) = true by decide, cond_true, htx, htw]
  unfold wordV at hn
  rw [List.length_replicate] at hn
  cases hc : decide ((16 : Int) < ((m + 1 : Nat) : Int)) with
  | true =>
    rw [hc, cond_true] at hn
    exact scan_bad s (by omega) (by decide) hi hb hn
  | false =>
    rw [hc, cond_false] at hn
    exact scan_one s (by omega) hi hb hn (skipTo_end (Nat.le_refl _))
theorem nib_no (n : Nat) (hn : n < 16) : decide ((((Sx.hexd n).toNat : Nat) : Int) = 92) = false ∧ decide ((((Sx.hexd n).toNat : Nat) : Int) = 34) = false := by
  revert n; decide
theorem qEnd_q (c : UInt8) (r : List UInt8) : qEnd (Sx.quote1 c ++ r) = (qEnd r).map (· + (Sx.quote1 c).length) := by
  have hc := UInt8.toNat_lt c
  unfold Sx.quote1
  by_cases h1 : c.toNat = 34 ∨ c.toNat = 92
  · have e : (decide (c.toNat = 34) || decide (c.toNat = 92)) = true := by simpa using h1
    rw [e, cond_true]
    simp only [List.cons_append, List.nil_append]
    rw [qEnd, show decide (((92 : UInt8).toNat : Int) = 92) = true by decide, cond_true, List.drop_succ_cons, List.drop_zero]
    rfl
  · have e : (decide (c.toNat = 34) || decide (c.toNat = 92)) = false := by simpa using h1
    have h92 : decide ((c.toNat : Int) = 92) = false := by rw [decide_eq_false_iff_not]; omega
    have h34 : decide ((c.toNat : Int) = 34) = false := by rw [decide_eq_false_iff_not]; omega
    rw [e, cond_false]
    cases decide (32 ≤ c.toNat) && decide (c.toNat ≤ 126) with
    | true =>
      simp only [cond_true, List.cons_append, List.nil_append]
      rw [qEnd, h92, h34, cond_false, cond_false]; rfl
    | false =>
      simp only [cond_false, List.cons_append, List.nil_append]
      obtain ⟨a1, a2⟩ := nib_no (c.toNat / 16) (by omega)
      obtain ⟨b1, b2⟩ := nib_no (c.toNat % 16) (by omega)
      rw [qEnd, show decide (((92 : UInt8).toNat : Int) = 92) = true by decide, cond_true, List.drop_succ_cons, List.drop_zero, qEnd, a1, a2, cond_false, cond_false, qEnd, b1, b2, cond_false, cond_false, Option.map_map, Option.map_map]
      congr 1
theorem qEnd_quote : ∀ t : List UInt8, qEnd (Sx.quoteB t ++ [34]) = some (Sx.quoteB t).length
  | [] => by
    rw [show Sx.quoteB [] ++ [34] = [34] from rfl, qEnd, show decide (((34 : UInt8).toNat : Int) = 92) = false by decide, show decide (((34 : UInt8).toNat : Int) = 34) = true by decide]; rfl
  | c :: t => by
    have ih := qEnd_quote t
    unfold Sx.quoteB at ih ⊢
    rw [List.flatMap_cons, List.append_assoc, qEnd_q, ih, List.length_append]
    simp only [Option.map_some, Option.some.injEq]; omega
theorem lim_quote (t : List UInt8) (ht : t.length ≤ 900) : scanR (32 :: Sx.quoteL t) = bif decide ((64 : Int) < (t.length : Int)) then ([], 1, 2) else ([⟨4, t, 0, 1⟩], 0, 0) := by
  generalize hs : (32 :: Sx.quoteL t : List UInt8) = s
  have hqb := quoteB_le t
  have hl : s.length = (Sx.quoteB t).length + 3 := by rw [← hs]; unfold Sx.quoteL; simp
  have hi : skipTo s 0 = 1 := by
    unfold skipTo
    rw [List.drop_zero, ← hs, skipL_32]
    unfold Sx.quoteL
    rw [skipL_non (by decide) (by decide)]
  have hb : s[1]? = some 34 := by rw [← hs]; rfl
  have hqa : qAt s (1 + 1) = some ((Sx.quoteB t).length + 2) := by
    unfold qAt
    rw [show s.drop (1 + 1) = Sx.quoteB t ++ [34] by rw [← hs]; rfl, qEnd_quote]; rfl
  have htx : (s.take ((Sx.quoteB t).length + 2 + 1)).drop 1 = Sx.quoteL t := by
    rw [List.take_of_length_le (by omega), ← hs]; rfl
  have hn : nextV s 1 34 (quoV s 1) (encV s 1) = (qTok (Sx.quoteL t), s.length) := by
    unfold nextV
    rw [show lowI ((34 : UInt8).toNat : Int) = false by decide, show uppI ((34 : UInt8).toNat : Int) = false by decide, show decide (((34 : UInt8).toNat : Int) = 95) = false by decide, show digI ((34 : UInt8).toNat : Int) = false by decide,
      show decide (((34 : UInt8).toNat : Int) = 45) = false by decide, show decide (((34 : UInt8).toNat : Int) = 34) = true by decide]
    simp only [cond_false, cond_true, Bool.false_and]
    unfold quoV
    rw [hqa]
    simp only [htx, hl]
  unfold qTok at hn
  rw [unqV_some.2 rfl] at hn
  simp only at hn
  cases hc : decide ((64 : Int) < (t.length : Int)) with
  | true =>
    rw [hc, cond_true] at hn
    exact scan_bad s (by omega) (by decide) hi hb hn
  | false =>
    rw [hc, cond_false] at hn
    exact scan_one s (by omega) hi hb hn (skipTo_end (Nat.le_refl _))
theorem lim_space (m : Nat) : scanR (List.replicate m 32) = bif decide ((4000 : Int) < (m : Int)) then ([], 0, 2) else ([], 0, 0) := by
  cases hc : decide ((4000 : Int) < (m : Int)) with
  | true => simp only [decide_eq_true_eq] at hc; exact scan_long _ (by rw [List.length_replicate]; omega)
  | false =>
    simp only [decide_eq_false_iff_not] at hc
    rw [scan_short _ (by rw [List.length_replicate]; omega), scanV_end _ _ _ _ _ _ (by unfold skipTo; rw [List.drop_zero, skipL_spaces, List.length_replicate]; omega)]; rfl
theorem mk40 : mkT Tryd.prog 40 = some (5, .u8) := by kernel_rfl
/-- a row of n bytes, the first k of them c -/
def fillR (c : UInt8) (n k : Nat) : List (List C) := (List.replicate k c).map encU8 ++ List.replicate (n - k) [.int .u8 0]
theorem fillR_len (c : UInt8) (n k : Nat) (h : k ≤ n) : (fillR c n k).length = n := by unfold fillR; simp; omega
theorem fillR_0 (c : UInt8) (n : Nat) : fillR c n 0 = List.replicate n [.int .u8 0] := by unfold fillR; simp
theorem fillR_n (c : UInt8) (n : Nat) : fillR c n n = (List.replicate n c).map encU8 := by unfold fillR; simp
theorem fillR_set (c : UInt8) (n k : Nat) (h : k < n) : (fillR c n k).set k [.int .u8 (c.toNat : Int)] = fillR c n (k + 1) := by
  unfold fillR
  rw [List.set_append_right _ _ (by simp), List.map_replicate, List.map_replicate, List.length_replicate, Nat.sub_self]
  obtain ⟨m, hm⟩ : ∃ m, n - k = m + 1 := ⟨n - k - 1, by omega⟩
  rw [hm, List.replicate_succ, List.set_cons_zero, show n - (k + 1) = m by omega, List.replicate_succ', List.append_assoc]
  rfl
theorem fillR_at (c : UInt8) (n k : Nat) (h : k < n) : (fillR c n k)[k]? = some [.int .u8 0] := by
  unfold fillR
  rw [List.getElem?_append_right (by simp), List.map_replicate, List.length_replicate, Nat.sub_self]
  obtain ⟨m, hm⟩ : ∃ m, n - k = m + 1 := ⟨n - k - 1, by omega⟩
  rw [hm, List.replicate_succ]; rfl
theorem cut1 (x : C) : cutC 1 [x] = some ([x], []) := rfl
theorem u32 : ((32 : UInt8).toNat : Int) = 32 := rfl
theorem tokenLimits_c (n : Int) (c : UInt8) : PC Tryd.prog 6 [I .i64 n, I .u8 c.toNat] (Bo true) := by
  have hr := mod_bd n 3 (by decide)
  obtain ⟨r, hr3, hrr⟩ : ∃ r : Nat, r < 3 ∧ (IntKind.u64.wrap n).tmod 3 = (r : Int) := ⟨((IntKind.u64.wrap n).tmod 3).toNat, by omega, by omega⟩
  have q1 : IntKind.i64.wrap (r : Int) = r := wrapId _ (by omega) (by omega)
  have q2 : IntKind.i64.wrap ((r : Int) - 1) = (r : Int) - 1 := by simp only [IntKind.wrap, IntKind.signed, IntKind.bits]; simp; split <;> omega
  have q3 : IntKind.i64.wrap (16 + ((r : Int) - 1)) = ((15 + r : Nat) : Int) := by rw [wrapId _ (by omega) (by omega)]; omega
  have q4 : IntKind.i64.wrap (4000 + ((r : Int) - 1)) = ((3999 + r : Nat) : Int) := by rw [wrapId _ (by omega) (by omega)]; omega
  have q5 : IntKind.i64.wrap (64 + ((r : Int) - 1)) = ((63 + r : Nat) : Int) := by rw [wrapId _ (by omega) (by omega)]; omega
  have s1 := pscan_c (32 :: List.replicate (15 + r) 97) (by simp; omega)
  have s2 := pscan_c (32 :: Sx.quoteL (List.replicate (63 + r) c)) (by
    have := quoteB_le (List.replicate (63 + r) c)
    rw [List.length_replicate] at this
    unfold Sx.quoteL; simp; omega)
  have s3 := pscan_c (List.replicate (3999 + r) 32) (by simp; omega)
  have s4 := rquote_c (List.replicate (63 + r) c) (by simp; omega)
  rw [lim_name _ (by omega) (by omega)] at s1
  rw [lim_quote _ (by simp; omega), List.length_replicate] at s2
  rw [lim_space] at s3
  have hql : (Sx.quoteL (List.replicate (63 + r) c)).length ≤ 1000 := by
    have := quoteB_le (List.replicate (63 + r) c)
    rw [List.length_replicate] at this
    unfold Sx.quoteL; simp; omega
  have hq2 := lim_quote (List.replicate (63 + r) c) (by simp; omega)
  generalize Sx.quoteL (List.replicate (63 + r) c) = Qt at s2 s4 hql hq2
  have hml1 : 1 + (15 + r) ≤ maxLen := by unfold maxLen; omega
  have hml2 : 1 + Qt.length ≤ maxLen := by unfold maxLen; omega
  have aw := awake_c
  have hd0 : decide ((r : Int) - 1 ≤ 0) = decide (r < 2) := by apply decide_eq_decide.2; omega
  have b1 : decide ((16 : Int) < ((15 + r : Nat) : Int)) = !decide (r < 2) := by rw [Bool.eq_iff_iff]; simp; omega
  have b2 : decide ((64 : Int) < ((63 + r : Nat) : Int)) = !decide (r < 2) := by rw [Bool.eq_iff_iff]; simp; omega
  have b3 : decide ((4000 : Int) < ((3999 + r : Nat) : Int)) = !decide (r < 2) := by rw [Bool.eq_iff_iff]; simp; omega
  rw [b1] at s1
  rw [b2] at s2
  rw [b3] at s3
  clear b1 b2 b3 hq2
  have fillR_len28 := fillR_len 97 (15 + r) (15 + r) (Nat.le_refl _)
  have fillR_len40 := fillR_len 32 (3999 + r) (3999 + r) (Nat.le_refl _)
  have fillR_len52 := fillR_len c (63 + r) (63 + r) (Nat.le_refl _)
  have hw3 : IntKind.u64.wrap 3 = 3 := by decide
  refine PCB.of_body Tryd.func6 rfl (by decide) Tryd.ntmps6 Tryd.results6 rfl rfl rfl ?_ rfl rfl
  repeat' (first | (simp only [go_sem, zA, zB, zC, zD, zE, zF, zG, reduceCtorEq, zH, zI, zJ, zK, zL, hrr, q1, q2, q3, q4, q5, mk40, Int.toNat_natCast, List.length_replicate]; all_goals fail_if_success guard_target =ₛ False) | (with_reducible first | ((first | refine seqVC_stepN rfl ?_ | refine seqVC_stepG rfl (by with_unfolding_all rfl) ?_ | refine AWP.seq ?_ | refine AWP.seqR (by kernel_rfl) ?_ | refine parVC_stepN rfl ?_ | refine parVC_stepG rfl (by with_unfolding_all rfl) ?_ | refine parEVC_stepN rfl ?_ | refine parEVC_stepG rfl (by with_unfolding_all rfl) ?_ | refine genVC_stepN rfl ?_ | refine genVC_stepG rfl (by with_unfolding_all rfl) ?_); intro K hK) | ((first | refine hK _ _ _ ?_ | refine hK _ _ ?_ | refine hK _ ?_); clear hK K) | refine seqVC_nil ?_ | refine parVC_nil ?_ | refine parEVC_nil ?_ | refine genVC_nil ?_ | refine AWP.block ?_ | (refine AWP.cond (by with_unfolding_all rfl) ?_ ?_ <;> intro h <;> (try simp only [zM, zN] at h) <;> try exact absurd h (by decide)) | refine AWP.skip ?_ | refine AWP.ret ?_ | refine AWP.exit ?_ | (refine ⟨fun h => ?_, fun h => ?_⟩ <;> (try simp only [zM, zN] at h) <;> try simp only [h]) | refine ⟨by decide, ?_⟩ | refine ⟨by omega, ?_⟩ | refine ⟨by omega, by omega, ?_⟩ | refine AWP.parR mixed (by kernel_rfl) fun K hK => ?_ | refine ⟨(by kernel_rfl : depB _ _ _ = true), ?_⟩ | refine Or.inl ?_) | (clear hK K))
  refine AWP.loopF (X := Nat) (fun k => [(31, I .i64 (k : Nat))]) (fun k => [(28, .row 1 (fillR 97 (15 + r) k))]) [1, 5, 6, 30] [] (fun k => k ≤ 15 + r) (fun k => 15 + r - k) (0) (by simp only [go_sem, zA, zB, zC, zD, zE, zF, zG, reduceCtorEq, zH, zI, zJ, zK, zL, fillR_0]; exact Gh.to [] (by repeat (first | exact trivial | refine ⟨rfl, ?_⟩ | refine ⟨by (simp only [go_sem, zA, zB, zC, zD, zE, zF, zG, reduceCtorEq, zH, zI, zJ, zK, zL, List.length_append, List.length_map, List.length_cons, List.length_nil, Nat.zero_add]) <;> rfl, ?_⟩)) (by repeat (first | exact trivial | refine ⟨rfl, ?_⟩ | refine ⟨by (simp only [go_sem, zA, zB, zC, zD, zE, zF, zG, reduceCtorEq, zH, zI, zJ, zK, zL, List.length_append, List.length_map, List.length_cons, List.length_nil, Nat.zero_add]) <;> rfl, ?_⟩)) rfl rfl rfl) ?_ ?_
  · exact Nat.zero_le _
  · rintro k hk
    simp only [go_sem, zA, zB, zC, zD, zE, zF, zG, reduceCtorEq, zH, zI, zJ, zK, zL]
    by_cases hlt : k < 15 + r
    · have hd : decide ((k : Int) < ((15 + r : Nat) : Int)) = true := by rw [decide_eq_true_eq]; omega
      have hw := wk64 hlt (show 15 + r ≤ 1000000000000 by omega)
      have hst : (fillR 97 (15 + r) k).set k [.int .u8 97] = fillR 97 (15 + r) (k + 1) := fillR_set 97 (15 + r) k hlt
      have hat := fillR_at 97 (15 + r) k hlt
      have hfl := fillR_len 97 (15 + r) k (by omega)
      repeat' (first | (simp only [go_sem, zA, zB, zC, zD, zE, zF, zG, reduceCtorEq, zH, zI, zJ, zK, zL, hd, hw, hst, cut1, hfl, Int.toNat_natCast]; all_goals fail_if_success guard_target =ₛ False) | (with_reducible first | ((first | refine seqVC_stepN rfl ?_ | refine seqVC_stepG rfl (by with_unfolding_all rfl) ?_ | refine AWP.seq ?_ | refine AWP.seqR (by kernel_rfl) ?_ | refine parVC_stepN rfl ?_ | refine parVC_stepG rfl (by with_unfolding_all rfl) ?_ | refine parEVC_stepN rfl ?_ | refine parEVC_stepG rfl (by with_unfolding_all rfl) ?_ | refine genVC_stepN rfl ?_ | refine genVC_stepG rfl (by with_unfolding_all rfl) ?_); intro K hK) | ((first | refine hK _ _ _ ?_ | refine hK _ _ ?_ | refine hK _ ?_); clear hK K) | refine seqVC_nil ?_ | refine parVC_nil ?_ | refine parEVC_nil ?_ | refine genVC_nil ?_ | refine AWP.block ?_ | (refine AWP.cond (by with_unfolding_all rfl) ?_ ?_ <;> intro h <;> (try simp only [zM, zN] at h) <;> try exact absurd h (by decide)) | refine AWP.skip ?_ | refine AWP.ret ?_ | refine AWP.exit ?_ | (refine ⟨fun h => ?_, fun h => ?_⟩ <;> (try simp only [zM, zN] at h) <;> try simp only [h]) | refine ⟨_, hat, ?_⟩ | refine ⟨(by omega : _ ≤ _), ?_⟩ | refine ⟨(by omega : _ < _), ?_⟩ | refine AWP.parR mixed (by kernel_rfl) fun K hK => ?_ | refine ⟨(by kernel_rfl : depB _ _ _ = true), ?_⟩ | refine Or.inl ?_) | (clear hK K))
      all_goals (refine ⟨k + 1, by omega, by omega, Gh.to [] (by repeat (first | exact trivial | refine ⟨rfl, ?_⟩ | refine ⟨by (simp only [go_sem, zA, zB, zC, zD, zE, zF, zG, reduceCtorEq, zH, zI, zJ, zK, zL, List.length_append, List.length_map, List.length_cons, List.length_nil, Nat.zero_add]) <;> rfl, ?_⟩)) (by repeat (first | exact trivial | refine ⟨rfl, ?_⟩ | refine ⟨by (simp only [go_sem, zA, zB, zC, zD, zE, zF, zG, reduceCtorEq, zH, zI, zJ, zK, zL, List.length_append, List.length_map, List.length_cons, List.length_nil, Nat.zero_add]) <;> rfl, ?_⟩)) rfl rfl rfl⟩)
    · obtain rfl : k = 15 + r := by omega
      have hd : decide (((15 + r : Nat) : Int) < ((15 + r : Nat) : Int)) = false := by rw [decide_eq_false_iff_not]; omega
      repeat' (first | (simp only [go_sem, zA, zB, zC, zD, zE, zF, zG, reduceCtorEq, zH, zI, zJ, zK, zL, hd, hrr, q1, q2, q3, q4, q5, mk40, Int.toNat_natCast, List.length_replicate]; all_goals fail_if_success guard_target =ₛ False) | (with_reducible first | ((first | refine seqVC_stepN rfl ?_ | refine seqVC_stepG rfl (by with_unfolding_all rfl) ?_ | refine AWP.seq ?_ | refine AWP.seqR (by kernel_rfl) ?_ | refine parVC_stepN rfl ?_ | refine parVC_stepG rfl (by with_unfolding_all rfl) ?_ | refine parEVC_stepN rfl ?_ | refine parEVC_stepG rfl (by with_unfolding_all rfl) ?_ | refine genVC_stepN rfl ?_ | refine genVC_stepG rfl (by with_unfolding_all rfl) ?_); intro K hK) | ((first | refine hK _ _ _ ?_ | refine hK _ _ ?_ | refine hK _ ?_); clear hK K) | refine seqVC_nil ?_ | refine parVC_nil ?_ | refine parEVC_nil ?_ | refine genVC_nil ?_ | refine AWP.block ?_ | (refine AWP.cond (by with_unfolding_all rfl) ?_ ?_ <;> intro h <;> (try simp only [zM, zN] at h) <;> try exact absurd h (by decide)) | refine AWP.skip ?_ | refine AWP.ret ?_ | refine AWP.exit ?_ | (refine ⟨fun h => ?_, fun h => ?_⟩ <;> (try simp only [zM, zN] at h) <;> try simp only [h]) | refine ⟨by decide, ?_⟩ | refine ⟨(by omega : _ ≤ _), ?_⟩ | refine ⟨(by omega : _ ≤ _), (by omega : _ ≤ _), ?_⟩ | refine ⟨(by omega : _ < _), ?_⟩ | refine AWP.parR mixed (by kernel_rfl) fun K hK => ?_ | refine ⟨(by kernel_rfl : depB _ _ _ = true), ?_⟩ | refine Or.inl ?_) | (clear hK K))
      refine AWP.loopF (X := Nat) (fun k => [(43, I .i64 (k : Nat))]) (fun k => [(40, .row 1 (fillR 32 (3999 + r) k)), (28, .row 1 (fillR 97 (15 + r) (15 + r)))]) [1, 5, 6, 8, 42] [] (fun k => k ≤ 3999 + r) (fun k => 3999 + r - k) (0) (by simp only [go_sem, zA, zB, zC, zD, zE, zF, zG, reduceCtorEq, zH, zI, zJ, zK, zL, fillR_0]; exact Gh.to [] (by repeat (first | exact trivial | refine ⟨rfl, ?_⟩ | refine ⟨by (simp only [go_sem, zA, zB, zC, zD, zE, zF, zG, reduceCtorEq, zH, zI, zJ, zK, zL, List.length_append, List.length_map, List.length_cons, List.length_nil, Nat.zero_add]) <;> rfl, ?_⟩)) (by repeat (first | exact trivial | refine ⟨rfl, ?_⟩ | refine ⟨by (simp only [go_sem, zA, zB, zC, zD, zE, zF, zG, reduceCtorEq, zH, zI, zJ, zK, zL, List.length_append, List.length_map, List.length_cons, List.length_nil, Nat.zero_add]) <;> rfl, ?_⟩)) rfl rfl rfl) ?_ ?_
      · exact Nat.zero_le _
      · rintro k hk
        simp only [go_sem, zA, zB, zC, zD, zE, zF, zG, reduceCtorEq, zH, zI, zJ, zK, zL]
        by_cases hlt : k < 3999 + r
        · have hd : decide ((k : Int) < ((3999 + r : Nat) : Int)) = true := by rw [decide_eq_true_eq]; omega
          have hw := wk64 hlt (show 3999 + r ≤ 1000000000000 by omega)
          have hst : (fillR 32 (3999 + r) k).set k [.int .u8 32] = fillR 32 (3999 + r) (k + 1) := fillR_set 32 (3999 + r) k hlt
          have hat := fillR_at 32 (3999 + r) k hlt
          have hfl := fillR_len 32 (3999 + r) k (by omega)
          repeat' (first | (simp only [go_sem, zA, zB, zC, zD, zE, zF, zG, reduceCtorEq, zH, zI, zJ, zK, zL, hd, hw, hst, cut1, hfl, Int.toNat_natCast]; all_goals fail_if_success guard_target =ₛ False) | (with_reducible first | ((first | refine seqVC_stepN rfl ?_ | refine seqVC_stepG rfl (by with_unfolding_all rfl) ?_ | refine AWP.seq ?_ | refine AWP.seqR (by kernel_rfl) ?_ | refine parVC_stepN rfl ?_ | refine parVC_stepG rfl (by with_unfolding_all rfl) ?_ | refine parEVC_stepN rfl ?_ | refine parEVC_stepG rfl (by with_unfolding_all rfl) ?_ | refine genVC_stepN rfl ?_ | refine genVC_stepG rfl (by with_unfolding_all rfl) ?_); intro K hK) | ((first | refine hK _ _ _ ?_ | refine hK _ _ ?_ | refine hK _ ?_); clear hK K) | refine seqVC_nil ?_ | refine parVC_nil ?_ | refine parEVC_nil ?_ | refine genVC_nil ?_ | refine AWP.block ?_ | (refine AWP.cond (by with_unfolding_all rfl) ?_ ?_ <;> intro h <;> (try simp only [zM, zN] at h) <;> try exact absurd h (by decide)) | refine AWP.skip ?_ | refine AWP.ret ?_ | refine AWP.exit ?_ | (refine ⟨fun h => ?_, fun h => ?_⟩ <;> (try simp only [zM, zN] at h) <;> try simp only [h]) | refine ⟨_, hat, ?_⟩ | refine ⟨(by omega : _ ≤ _), ?_⟩ | refine ⟨(by omega : _ < _), ?_⟩ | refine AWP.parR mixed (by kernel_rfl) fun K hK => ?_ | refine ⟨(by kernel_rfl : depB _ _ _ = true), ?_⟩ | refine Or.inl ?_) | (clear hK K))
          all_goals (refine ⟨k + 1, by omega, by omega, Gh.to [] (by repeat (first | exact trivial | refine ⟨rfl, ?_⟩ | refine ⟨by (simp only [go_sem, zA, zB, zC, zD, zE, zF, zG, reduceCtorEq, zH, zI, zJ, zK, zL, List.length_append, List.length_map, List.length_cons, List.length_nil, Nat.zero_add]) <;> rfl, ?_⟩)) (by repeat (first | exact trivial | refine ⟨rfl, ?_⟩ | refine ⟨by (simp only [go_sem, zA, zB, zC, zD, zE, zF, zG, reduceCtorEq, zH, zI, zJ, zK, zL, List.length_append, List.length_map, List.length_cons, List.length_nil, Nat.zero_add]) <;> rfl, ?_⟩)) rfl rfl rfl⟩)
        · obtain rfl : k = 3999 + r := by omega
          have hd : decide (((3999 + r : Nat) : Int) < ((3999 + r : Nat) : Int)) = false := by rw [decide_eq_false_iff_not]; omega
          repeat' (first | (simp only [go_sem, zA, zB, zC, zD, zE, zF, zG, reduceCtorEq, zH, zI, zJ, zK, zL, hd, hrr, q1, q2, q3, q4, q5, mk40, Int.toNat_natCast, List.length_replicate]; all_goals fail_if_success guard_target =ₛ False) | (with_reducible first | ((first | refine seqVC_stepN rfl ?_ | refine seqVC_stepG rfl (by with_unfolding_all rfl) ?_ | refine AWP.seq ?_ | refine AWP.seqR (by kernel_rfl) ?_ | refine parVC_stepN rfl ?_ | refine parVC_stepG rfl (by with_unfolding_all rfl) ?_ | refine parEVC_stepN rfl ?_ | refine parEVC_stepG rfl (by with_unfolding_all rfl) ?_ | refine genVC_stepN rfl ?_ | refine genVC_stepG rfl (by with_unfolding_all rfl) ?_); intro K hK) | ((first | refine hK _ _ _ ?_ | refine hK _ _ ?_ | refine hK _ ?_); clear hK K) | refine seqVC_nil ?_ | refine parVC_nil ?_ | refine parEVC_nil ?_ | refine genVC_nil ?_ | refine AWP.block ?_ | (refine AWP.cond (by with_unfolding_all rfl) ?_ ?_ <;> intro h <;> (try simp only [zM, zN] at h) <;> try exact absurd h (by decide)) | refine AWP.skip ?_ | refine AWP.ret ?_ | refine AWP.exit ?_ | (refine ⟨fun h => ?_, fun h => ?_⟩ <;> (try simp only [zM, zN] at h) <;> try simp only [h]) | refine ⟨by decide, ?_⟩ | refine ⟨(by omega : _ ≤ _), ?_⟩ | refine ⟨(by omega : _ ≤ _), (by omega : _ ≤ _), ?_⟩ | refine ⟨(by omega : _ < _), ?_⟩ | refine AWP.parR mixed (by kernel_rfl) fun K hK => ?_ | refine ⟨(by kernel_rfl : depB _ _ _ = true), ?_⟩ | refine Or.inl ?_) | (clear hK K))
          refine AWP.loopF (X := Nat) (fun k => [(55, I .i64 (k : Nat))]) (fun k => [(52, .row 1 (fillR c (63 + r) k)), (28, .row 1 (fillR 97 (15 + r) (15 + r))), (40, .row 1 (fillR 32 (3999 + r) (3999 + r)))]) [1, 5, 6, 8, 10, 54] [] (fun k => k ≤ 63 + r) (fun k => 63 + r - k) (0) (by simp only [go_sem, zA, zB, zC, zD, zE, zF, zG, reduceCtorEq, zH, zI, zJ, zK, zL, fillR_0]; exact Gh.to [] (by repeat (first | exact trivial | refine ⟨rfl, ?_⟩ | refine ⟨by (simp only [go_sem, zA, zB, zC, zD, zE, zF, zG, reduceCtorEq, zH, zI, zJ, zK, zL, List.length_append, List.length_map, List.length_cons, List.length_nil, Nat.zero_add]) <;> rfl, ?_⟩)) (by repeat (first | exact trivial | refine ⟨rfl, ?_⟩ | refine ⟨by (simp only [go_sem, zA, zB, zC, zD, zE, zF, zG, reduceCtorEq, zH, zI, zJ, zK, zL, List.length_append, List.length_map, List.length_cons, List.length_nil, Nat.zero_add]) <;> rfl, ?_⟩)) rfl rfl rfl) ?_ ?_
          · exact Nat.zero_le _
          · rintro k hk
            simp only [go_sem, zA, zB, zC, zD, zE, zF, zG, reduceCtorEq, zH, zI, zJ, zK, zL]
            by_cases hlt : k < 63 + r
            · have hd : decide ((k : Int) < ((63 + r : Nat) : Int)) = true := by rw [decide_eq_true_eq]; omega
              have hw := wk64 hlt (show 63 + r ≤ 1000000000000 by omega)
              have hst : (fillR c (63 + r) k).set k [.int .u8 (c.toNat : Int)] = fillR c (63 + r) (k + 1) := fillR_set c (63 + r) k hlt
              have hat := fillR_at c (63 + r) k hlt
              have hfl := fillR_len c (63 + r) k (by omega)
              repeat' (first | (simp only [go_sem, zA, zB, zC, zD, zE, zF, zG, reduceCtorEq, zH, zI, zJ, zK, zL, hd, hw, hst, cut1, hfl, Int.toNat_natCast]; all_goals fail_if_success guard_target =ₛ False) | (with_reducible first | ((first | refine seqVC_stepN rfl ?_ | refine seqVC_stepG rfl (by with_unfolding_all rfl) ?_ | refine AWP.seq ?_ | refine AWP.seqR (by kernel_rfl) ?_ | refine parVC_stepN rfl ?_ | refine parVC_stepG rfl (by with_unfolding_all rfl) ?_ | refine parEVC_stepN rfl ?_ | refine parEVC_stepG rfl (by with_unfolding_all rfl) ?_ | refine genVC_stepN rfl ?_ | refine genVC_stepG rfl (by with_unfolding_all rfl) ?_); intro K hK) | ((first | refine hK _ _ _ ?_ | refine hK _ _ ?_ | refine hK _ ?_); clear hK K) | refine seqVC_nil ?_ | refine parVC_nil ?_ | refine parEVC_nil ?_ | refine genVC_nil ?_ | refine AWP.block ?_ | (refine AWP.cond (by with_unfolding_all rfl) ?_ ?_ <;> intro h <;> (try simp only [zM, zN] at h) <;> try exact absurd h (by decide)) | refine AWP.skip ?_ | refine AWP.ret ?_ | refine AWP.exit ?_ | (refine ⟨fun h => ?_, fun h => ?_⟩ <;> (try simp only [zM, zN] at h) <;> try simp only [h]) | refine ⟨_, hat, ?_⟩ | refine ⟨(by omega : _ ≤ _), ?_⟩ | refine ⟨(by omega : _ < _), ?_⟩ | refine AWP.parR mixed (by kernel_rfl) fun K hK => ?_ | refine ⟨(by kernel_rfl : depB _ _ _ = true), ?_⟩ | refine Or.inl ?_) | (clear hK K))
              all_goals (refine ⟨k + 1, by omega, by omega, Gh.to [] (by repeat (first | exact trivial | refine ⟨rfl, ?_⟩ | refine ⟨by (simp only [go_sem, zA, zB, zC, zD, zE, zF, zG, reduceCtorEq, zH, zI, zJ, zK, zL, List.length_append, List.length_map, List.length_cons, List.length_nil, Nat.zero_add]) <;> rfl, ?_⟩)) (by repeat (first | exact trivial | refine ⟨rfl, ?_⟩ | refine ⟨by (simp only [go_sem, zA, zB, zC, zD, zE, zF, zG, reduceCtorEq, zH, zI, zJ, zK, zL, List.length_append, List.length_map, List.length_cons, List.length_nil, Nat.zero_add]) <;> rfl, ?_⟩)) rfl rfl rfl⟩)
            · obtain rfl : k = 63 + r := by omega
              have hd : decide (((63 + r : Nat) : Int) < ((63 + r : Nat) : Int)) = false := by rw [decide_eq_false_iff_not]; omega
              cases hr2 : decide (r < 2) with
              | true =>
                rw [hr2] at s1 s2 s3 hd0
                simp only [Bool.not_true, cond_false, List.map_cons, List.map_nil, encTok] at s1 s2 s3
                repeat' (first | (simp only [go_sem, zA, zB, zC, zD, zE, zF, zG, reduceCtorEq, zH, zI, zJ, zK, zL, hd, hrr, q1, q2, fillR_n, fillR_len28, fillR_len40, fillR_len52, List.length_map, List.length_replicate, List.cons_append, List.nil_append, hd0, encTok, List.length_cons, List.length_nil]; all_goals fail_if_success guard_target =ₛ False) | (with_reducible first | ((first | refine seqVC_stepN rfl ?_ | refine seqVC_stepG rfl (by with_unfolding_all rfl) ?_ | refine AWP.seq ?_ | refine AWP.seqR (by kernel_rfl) ?_ | refine parVC_stepN rfl ?_ | refine parVC_stepG rfl (by with_unfolding_all rfl) ?_ | refine parEVC_stepN rfl ?_ | refine parEVC_stepG rfl (by with_unfolding_all rfl) ?_ | refine genVC_stepN rfl ?_ | refine genVC_stepG rfl (by with_unfolding_all rfl) ?_); intro K hK) | ((first | refine hK _ _ _ ?_ | refine hK _ _ ?_ | refine hK _ ?_); clear hK K) | refine seqVC_nil ?_ | refine parVC_nil ?_ | refine parEVC_nil ?_ | refine genVC_nil ?_ | refine AWP.block ?_ | (refine AWP.cond (by with_unfolding_all rfl) ?_ ?_ <;> intro h <;> (try simp only [zM, zN] at h) <;> try exact absurd h (by decide)) | refine AWP.skip ?_ | refine AWP.ret ?_ | refine AWP.exit ?_ | (refine ⟨fun h => ?_, fun h => ?_⟩ <;> (try simp only [zM, zN] at h) <;> try simp only [h]) | refine ⟨_, s1, ?_⟩ | refine ⟨_, s2, ?_⟩ | refine ⟨_, s3, ?_⟩ | refine ⟨_, s4, ?_⟩ | refine ⟨_, aw, ?_⟩ | refine ⟨hml1, ?_⟩ | refine ⟨hml2, ?_⟩ | refine ⟨by omega, _, rfl, ?_⟩ | refine ⟨_, rfl, ?_⟩ | refine AWP.parR mixed (by kernel_rfl) fun K hK => ?_ | refine ⟨(by kernel_rfl : depB _ _ _ = true), ?_⟩ | refine Or.inl ?_) | (clear hK K))
                all_goals (first | exact fun _ h => absurd h List.not_mem_nil | refine fin0 ?_)
                all_goals rfl
              | false =>
                rw [hr2] at s1 s2 s3 hd0
                simp only [Bool.not_false, cond_true, List.map_nil] at s1 s2 s3
                repeat' (first | (simp only [go_sem, zA, zB, zC, zD, zE, zF, zG, reduceCtorEq, zH, zI, zJ, zK, zL, hd, hrr, q1, q2, fillR_n, fillR_len28, fillR_len40, fillR_len52, List.length_map, List.length_replicate, List.cons_append, List.nil_append, hd0]; all_goals fail_if_success guard_target =ₛ False) | (with_reducible first | ((first | refine seqVC_stepN rfl ?_ | refine seqVC_stepG rfl (by with_unfolding_all rfl) ?_ | refine AWP.seq ?_ | refine AWP.seqR (by kernel_rfl) ?_ | refine parVC_stepN rfl ?_ | refine parVC_stepG rfl (by with_unfolding_all rfl) ?_ | refine parEVC_stepN rfl ?_ | refine parEVC_stepG rfl (by with_unfolding_all rfl) ?_ | refine genVC_stepN rfl ?_ | refine genVC_stepG rfl (by with_unfolding_all rfl) ?_); intro K hK) | ((first | refine hK _ _ _ ?_ | refine hK _ _ ?_ | refine hK _ ?_); clear hK K) | refine seqVC_nil ?_ | refine parVC_nil ?_ | refine parEVC_nil ?_ | refine genVC_nil ?_ | refine AWP.block ?_ | (refine AWP.cond (by with_unfolding_all rfl) ?_ ?_ <;> intro h <;> (try simp only [zM, zN] at h) <;> try exact absurd h (by decide)) | refine AWP.skip ?_ | refine AWP.ret ?_ | refine AWP.exit ?_ | (refine ⟨fun h => ?_, fun h => ?_⟩ <;> (try simp only [zM, zN] at h) <;> try simp only [h]) | refine ⟨_, s1, ?_⟩ | refine ⟨_, s2, ?_⟩ | refine ⟨_, s3, ?_⟩ | refine ⟨_, s4, ?_⟩ | refine ⟨_, aw, ?_⟩ | refine ⟨hml1, ?_⟩ | refine ⟨hml2, ?_⟩ | refine AWP.parR mixed (by kernel_rfl) fun K hK => ?_ | refine ⟨(by kernel_rfl : depB _ _ _ = true), ?_⟩ | refine Or.inl ?_) | (clear hK K))
                all_goals (first | exact fun _ h => absurd h List.not_mem_nil | refine fin0 ?_)
                all_goals rfl
end Go.Proofs.YtogponhonjiidaaDoor
