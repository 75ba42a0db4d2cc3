/- A part of the proof: lemmas about the walk of the program and about plain integers and lists. No conditions beyond those that each lemma states. -/
import Derived.Test.YtogponhonjiidaaDoorTp10
set_option linter.unusedSimpArgs false
set_option linter.unusedVariables false
set_option maxRecDepth 20000
set_option maxHeartbeats 16000000
namespace Go.Proofs.YtogponhonjiidaaDoor
open Go Go.Sx
open Nat renaming reduceBEq → zA, reduceBNe → zB, reduceAdd → zC, reduceSub → zD, reduceMul → zE, reduceLeDiff → zF, reduceLT → zG, reduceEqDiff → zH
open Int renaming reduceToNat → zI, reduceLE → zJ, reduceLT → zK, reduceEq → zL
open Bool renaming not_eq_true' → zM, not_eq_false' → zN
theorem low_not_upp {n : Int} (h : lowI n = true) : uppI n = false := by
  simp only [lowI, uppI, Bool.and_eq_true, decide_eq_true_eq] at h ⊢
  rw [Bool.and_eq_false_iff]; simp only [decide_eq_false_iff_not]; omega
theorem one_c (s : List UInt8) (hs : s.length ≤ 100000000) (i : Nat) (b : UInt8) (hb : s[i]? = some b) : OneOk s i (nextV s i b (quoV s i) (encV s i)) := by
  have hi : i < s.length := (List.getElem?_eq_some_iff.1 hb).1
  unfold nextV
  cases hl : lowI b.toNat with
  | true =>
    have hu := low_not_upp hl
    have h95 : decide ((b.toNat : Int) = 95) = false := by simp only [lowI, Bool.and_eq_true, decide_eq_true_eq] at hl; rw [decide_eq_false_iff_not]; omega
    have h := one_word s (by omega) i b hb h95 (by rw [hl]; rfl) 1 (by rw [hu]; rfl)
    rw [show wordI b = nameI by unfold wordI; rw [hu]; rfl, text_cons hb] at h
    exact h
  | false =>
  cases hu : uppI b.toNat with
  | true =>
    have h95 : decide ((b.toNat : Int) = 95) = false := by simp only [uppI, Bool.and_eq_true, decide_eq_true_eq] at hu; rw [decide_eq_false_iff_not]; omega
    have h := one_word s (by omega) i b hb h95 (by rw [hu]; simp) 2 (by rw [hu]; rfl)
    rw [show wordI b = varI by unfold wordI; rw [hu]; rfl, text_cons hb] at h
    exact h
  | false =>
  cases h95 : decide ((b.toNat : Int) = 95) with
  | true => exact one_under s (by omega) i b hb h95
  | false =>
  have hsl : (spanW digI s (i + 1)).length ≤ 100000000 := by
    rw [spanW_eq, List.length_take, List.length_drop]; omega
  cases hd : digI b.toNat with
  | true =>
    have ha : allDig (b :: spanW digI s (i + 1)) := by
      intro x hx
      rcases List.mem_cons.1 hx with rfl | hx
      · exact hd
      · exact spanW_all digI s (i + 1) x hx
    have hnum := rnumber_p b (spanW digI s (i + 1)) ha (by rw [List.length_cons]; omega)
    rw [← text_cons hb] at hnum
    have h := one_num s (by omega) i b hb h95 hl hu (by rw [hd]; rfl) _ _ hnum
    simp only [cond_false, cond_true]
    rw [← text_cons hb]
    exact h
  | false =>
  cases h45 : decide ((b.toNat : Int) = 45) && nextDig s i with
  | true =>
    obtain ⟨h1, h2⟩ := Bool.and_eq_true_iff.1 h45
    have hb45 : b = 45 := by apply UInt8.toNat_inj.1; simp only [decide_eq_true_eq] at h1; show b.toNat = 45; omega
    obtain ⟨c, hc, hcd⟩ : ∃ c, s[i + 1]? = some c ∧ digI c.toNat = true := by
      unfold nextDig at h2
      cases hc : s[i + 1]? with
      | none => rw [hc] at h2; cases h2
      | some c => rw [hc] at h2; exact ⟨c, rfl, h2⟩
    have hne := spanW_ne hc hcd
    have ha := spanW_all digI s (i + 1)
    have ht := text_cons (p := digI) hb
    generalize spanW digI s (i + 1) = sp at hne ha ht hsl
    obtain ⟨x, r, rfl⟩ : ∃ x r, sp = x :: r := by cases sp with | nil => exact absurd rfl hne | cons x r => exact ⟨x, r, rfl⟩
    have hnum := rnumber_n x r ha (by omega)
    rw [hb45] at ht
    rw [← ht] at hnum
    exact one_num s (by omega) i b hb h95 hl hu (by rw [h45]; simp) _ _ hnum
  | false =>
  cases h34 : decide ((b.toNat : Int) = 34) with
  | true => exact one_quote s hs i b hb h95 hl hu hd (by simp only [decide_eq_true_eq] at h34; rw [decide_eq_false_iff_not]; omega) h34
  | false =>
  cases h96 : decide ((b.toNat : Int) = 96) with
  | true => exact one_enc s hs i b hb h95 hl hu hd (by simp only [decide_eq_true_eq] at h96; rw [decide_eq_false_iff_not]; omega) h34 h96
  | false => exact one_sign s hs i b hb h95 hl hu hd h45 h34 h96
theorem fwd_quo (s : List UInt8) : Fwd s (quoV s) := by
  intro k hk h
  unfold quoV at h ⊢
  cases hq : qAt s (k + 1) with
  | none => rw [hq] at h; exact absurd (show (5 : Int) = 0 from h) (by decide)
  | some j =>
    have := qAt_bd hq
    simp only
    omega
theorem fwd_enc (s : List UInt8) : Fwd s (encV s) := by
  intro k hk h
  have hge := toW_ge (p := noBq) (s := s) (k := k + 1)
  rw [encV_eq s k hk] at h ⊢
  cases hf : decide (toW noBq s (k + 1) < s.length) with
  | false => rw [hf] at h; exact absurd (show (5 : Int) = 0 from h) (by decide)
  | true =>
    simp only [decide_eq_true_eq] at hf
    simp only [cond_true]
    omega
/-- what both scanners give -/
def scanR (s : List UInt8) : List Tok × Int × Int := tscanV (quoV s) (encV s) s
theorem pscan_c (s : List UInt8) (hs : s.length ≤ 100000000) : PC Tryd.prog 13 [S s] (ScR (scanR s)) :=
  tscan_c s (by omega) _ _ (fwd_quo s) (fwd_enc s) (fun i b hb _ => quoted_c s (by omega) i (List.getElem?_eq_some_iff.1 hb).1) (fun i b hb _ => enclosed_c s (by omega) i (List.getElem?_eq_some_iff.1 hb).1)
theorem rscan_c (s : List UInt8) (hs : s.length ≤ 100000000) : PC Tryd.prog 21 [S s] (ScR (scanR s)) := by
  have h0 := rskip_c s (by omega) 0 (Nat.zero_le _)
  have hk0 := skipTo_le (s := s) (k := 0) (Nat.zero_le _)
  unfold scanR tscanV
  generalize skipTo s 0 = k0 at h0 hk0 ⊢
  cases hlim : decide ((4000 : Int) < (s.length : Int)) with
  | true =>
    refine PCB.of_body Tryd.func21 rfl (by decide) Tryd.ntmps21 Tryd.results21 rfl rfl rfl ?_ rfl rfl
    repeat' (first | (simp only [go_sem, zA, zB, zC, zD, zE, zF, zG, reduceCtorEq, zH, zI, zJ, zK, zL, hlim]; all_goals fail_if_success guard_target =ₛ False) | (with_reducible first | ((first | refine seqVC_stepN rfl ?_ | refine AWP.seq ?_ | refine AWP.seqR (by kernel_rfl) ?_); intro K hK) | ((first | refine hK _ _ _ ?_ | refine hK _ _ ?_ | refine hK _ ?_); clear hK K) | refine seqVC_nil ?_ | refine AWP.block ?_ | (refine AWP.cond (by with_unfolding_all rfl) ?_ ?_ <;> intro h <;> (try simp only [zM, zN] at h) <;> try exact absurd h (by decide)) | refine AWP.skip ?_ | refine AWP.ret ?_ | refine AWP.exit ?_ | refine Or.inl ?_) | (clear hK K))
    all_goals (first | exact fun _ h => absurd h List.not_mem_nil | refine fin0 ?_)
    all_goals rfl
  | false =>
  rw [cond_false]
  refine PCB.of_body Tryd.func21 rfl (by decide) Tryd.ntmps21 Tryd.results21 rfl rfl rfl ?_ rfl rfl
  repeat' (first | (simp only [go_sem, zA, zB, zC, zD, zE, zF, zG, reduceCtorEq, zH, zI, zJ, zK, zL, hlim]; all_goals fail_if_success guard_target =ₛ False) | (with_reducible first | ((first | refine seqVC_stepN rfl ?_ | refine AWP.seq ?_ | refine AWP.seqR (by kernel_rfl) ?_); intro K hK) | ((first | refine hK _ _ _ ?_ | refine hK _ _ ?_ | refine hK _ ?_); clear hK K) | refine seqVC_nil ?_ | refine AWP.block ?_ | (refine AWP.cond (by with_unfolding_all rfl) ?_ ?_ <;> intro h <;> (try simp only [zM, zN] at h) <;> try exact absurd h (by decide)) | refine AWP.skip ?_ | refine AWP.ret ?_ | refine AWP.exit ?_ | refine ⟨_, h0, ?_⟩ | refine Or.inl ?_) | (clear hK K))
  refine AWP.gh (Gh.nilrow 5 900 rfl rfl rfl (by simp [Bx.fresh, Cell.freshs, Cell.fresh])) ?_
  refine AWP.loopF (X := Nat × Nat × List Tok) (fun x => [(5, .one (.own 900 x.2.2.length)), (6, I .i64 (x.2.1 : Nat))]) (fun x => [(900, .row 4 (x.2.2.map encTok))]) [0] [] (fun x => x.2.1 ≤ s.length ∧ s.length < x.1 + x.2.1 ∧ x.2.2.length ≤ x.2.1 ∧ scanV (quoV s) (encV s) s (s.length + 1) k0 [] = scanV (quoV s) (encV s) s x.1 x.2.1 x.2.2) (fun x => x.1) ((s.length + 1, k0, [])) (by simp only [go_sem, zA, zB, zC, zD, zE, zF, zG, reduceCtorEq, zH, zI, zJ, zK, zL]; exact Gh.to [] (by repeat (first | exact trivial | refine ⟨rfl, ?_⟩ | refine ⟨by (simp only [go_sem, zA, zB, zC, zD, zE, zF, zG, reduceCtorEq, zH, zI, zJ, zK, zL, List.length_append, List.length_map, List.length_cons, List.length_nil, Nat.zero_add]) <;> rfl, ?_⟩)) (by repeat (first | exact trivial | refine ⟨rfl, ?_⟩ | refine ⟨by (simp only [go_sem, zA, zB, zC, zD, zE, zF, zG, reduceCtorEq, zH, zI, zJ, zK, zL, List.length_append, List.length_map, List.length_cons, List.length_nil, Nat.zero_add]) <;> rfl, ?_⟩)) rfl rfl rfl) ?_ ?_
  · exact ⟨hk0, by simp only; omega, Nat.zero_le _, rfl⟩
  rintro ⟨n, k, acc⟩ ⟨hkl, hn, hal, hok⟩
  simp only at hkl hn hal hok
  simp only [go_sem, zA, zB, zC, zD, zE, zF, zG, reduceCtorEq, zH, zI, zJ, zK, zL]
  by_cases hlt : k < s.length
  · obtain ⟨b, hb⟩ := byte_at hlt
    have hd : decide ((k : Int) < (s.length : Int)) = true := by rw [decide_eq_true_eq]; omega
    obtain ⟨t', kk, hone, heq⟩ := one_c s hs k b hb
    obtain ⟨n, rfl⟩ : ∃ m, n = m + 1 := ⟨n - 1, by omega⟩
    have hbd := nextV_bd (fwd_quo s) (fwd_enc s) (b := b) hlt
    have hst := fun t e k2 h => scanV_step (quoV s) (encV s) s n k acc hb (t := t) (e := e) (k2 := k2) h
    generalize nextV s k b (quoV s k) (encV s k) = r at hone heq hst hbd
    obtain ⟨⟨t, e⟩, k2⟩ := r
    have hst := hst t e k2 rfl
    simp only at hone heq hbd
    rw [hst] at hok
    cases hz : decide (e = 0) with
    | false =>
      rw [hz, cond_false] at hok
      repeat' (first | (simp only [go_sem, zA, zB, zC, zD, zE, zF, zG, reduceCtorEq, zH, zI, zJ, zK, zL, hd, hz, tok_eta, Bool.not_false]; all_goals fail_if_success guard_target =ₛ False) | (with_reducible first | ((first | refine seqVC_stepN rfl ?_ | refine AWP.seq ?_ | refine AWP.seqR (by kernel_rfl) ?_); intro K hK) | ((first | refine hK _ _ _ ?_ | refine hK _ _ ?_ | refine hK _ ?_); clear hK K) | refine seqVC_nil ?_ | refine AWP.block ?_ | (refine AWP.cond (by with_unfolding_all rfl) ?_ ?_ <;> intro h <;> (try simp only [zM, zN] at h) <;> try exact absurd h (by decide)) | refine AWP.skip ?_ | refine AWP.ret ?_ | refine AWP.exit ?_ | refine ⟨_, hone, ?_⟩ | refine Or.inl ?_) | (clear hK K))
      rw [hok]
      all_goals (first | exact fun _ h => absurd h List.not_mem_nil | refine fin0 ?_)
      all_goals rfl
    | true =>
      rw [hz, cond_true] at hok
      obtain ⟨ht, rfl⟩ := heq (by simpa using hz)
      obtain ⟨hb1, hb2⟩ := hbd (by simpa using hz)
      have hsk := rskip_c s (by omega) kk hb2
      have hk2 := skipTo_le hb2
      have hk3 := skipTo_ge (s := s) (k := kk)
      subst ht
      repeat' (first | (simp only [go_sem, zA, zB, zC, zD, zE, zF, zG, reduceCtorEq, zH, zI, zJ, zK, zL, hd, hz, tok_eta, tok_snoc, List.length_map, Bool.not_true]; all_goals fail_if_success guard_target =ₛ False) | (with_reducible first | ((first | refine seqVC_stepN rfl ?_ | refine AWP.seq ?_ | refine AWP.seqR (by kernel_rfl) ?_); intro K hK) | ((first | refine hK _ _ _ ?_ | refine hK _ _ ?_ | refine hK _ ?_); clear hK K) | refine seqVC_nil ?_ | refine AWP.block ?_ | (refine AWP.cond (by with_unfolding_all rfl) ?_ ?_ <;> intro h <;> (try simp only [zM, zN] at h) <;> try exact absurd h (by decide)) | refine AWP.skip ?_ | refine AWP.ret ?_ | refine AWP.exit ?_ | refine ⟨_, hone, ?_⟩ | refine ⟨_, hsk, ?_⟩ | (refine ⟨(by first | omega | (simp only [List.length_append, List.length_map, List.length_take, List.length_drop, List.length_cons, List.length_nil, List.length_replicate]; omega) : _ ≤ _), ?_⟩) | refine ⟨by omega, by omega, ?_⟩ | refine Or.inl ?_) | (clear hK K))
      all_goals (refine ⟨(n, skipTo s kk, acc ++ [{ t with at_ := k }]), by simp only; omega, ⟨by simp only; omega, by simp only; omega, by simp only [List.length_append, List.length_cons, List.length_nil]; omega, hok⟩, Gh.to [(900, 36)] (by repeat (first | exact trivial | refine ⟨rfl, ?_⟩ | refine ⟨by (simp only [go_sem, zA, zB, zC, zD, zE, zF, zG, reduceCtorEq, zH, zI, zJ, zK, zL, List.length_append, List.length_map, List.length_cons, List.length_nil, Nat.zero_add]) <;> rfl, ?_⟩)) (by repeat (first | exact trivial | refine ⟨rfl, ?_⟩ | refine ⟨by (simp only [go_sem, zA, zB, zC, zD, zE, zF, zG, reduceCtorEq, zH, zI, zJ, zK, zL, List.length_append, List.length_map, List.length_cons, List.length_nil, Nat.zero_add]) <;> rfl, ?_⟩)) rfl rfl rfl⟩)
  · have hd : decide ((k : Int) < (s.length : Int)) = false := by rw [decide_eq_false_iff_not]; omega
    rw [scanV_end (quoV s) (encV s) s n k acc (by omega)] at hok
    refine AWP.gh (Gh.freeze 900 rfl rfl (by simp only [go_sem, zA, zB, zC, zD, zE, zF, zG, reduceCtorEq, zH, zI, zJ, zK, zL, List.length_map]) (by simp only [go_sem, zA, zB, zC, zD, zE, zF, zG, reduceCtorEq, zH, zI, zJ, zK, zL, List.length_map])) ?_
    simp only [go_sem, zA, zB, zC, zD, zE, zF, zG, reduceCtorEq, zH, zI, zJ, zK, zL, List.length_map]
    repeat' (first | (simp only [go_sem, zA, zB, zC, zD, zE, zF, zG, reduceCtorEq, zH, zI, zJ, zK, zL, hd]; all_goals fail_if_success guard_target =ₛ False) | (with_reducible first | ((first | refine seqVC_stepN rfl ?_ | refine AWP.seq ?_ | refine AWP.seqR (by kernel_rfl) ?_); intro K hK) | ((first | refine hK _ _ _ ?_ | refine hK _ _ ?_ | refine hK _ ?_); clear hK K) | refine seqVC_nil ?_ | refine AWP.block ?_ | (refine AWP.cond (by with_unfolding_all rfl) ?_ ?_ <;> intro h <;> (try simp only [zM, zN] at h) <;> try exact absurd h (by decide)) | refine AWP.skip ?_ | refine AWP.ret ?_ | refine AWP.exit ?_ | refine Or.inl ?_) | (clear hK K))
    rw [hok]
    all_goals (first | exact fun _ h => absurd h List.not_mem_nil | refine fin0 ?_)
    all_goals rfl
/-- a token, its position left out if so asked -/
def er (plain : Bool) (t : Tok) : Tok := bif plain then { t with at_ := 0 } else t
theorem same_c (a b : List Tok) (plain : Bool) (ha : a.length ≤ 1000000000) (hab : a.map (er plain) = b.map (er plain)) :
    PC Tryd.prog 15 [.one (.dat (.sl 4 (a.map encTok))), .one (.dat (.sl 4 (b.map encTok))), Bo plain] (Bo true) := by
  have hlen : a.length = b.length := by have := congrArg List.length hab; simpa using this
  have hz : decide ((a.length : Int) = (b.length : Int)) = true := by rw [decide_eq_true_eq]; omega
  refine PCB.of_body Tryd.func15 rfl (by decide) Tryd.ntmps15 Tryd.results15 rfl rfl rfl ?_ rfl rfl
  repeat' (first | (simp only [go_sem, zA, zB, zC, zD, zE, zF, zG, reduceCtorEq, zH, zI, zJ, zK, zL, List.length_map, hz]; all_goals fail_if_success guard_target =ₛ False) | (with_reducible first | ((first | refine seqVC_stepN rfl ?_ | refine AWP.seq ?_ | refine AWP.seqR (by kernel_rfl) ?_ | refine parVC_stepN rfl ?_ | refine parEVC_stepN rfl ?_ | refine genVC_stepN rfl ?_); intro K hK) | ((first | refine hK _ _ _ ?_ | refine hK _ _ ?_ | refine hK _ ?_); clear hK K) | refine seqVC_nil ?_ | refine parVC_nil ?_ | refine parEVC_nil ?_ | refine genVC_nil ?_ | refine AWP.block ?_ | (refine AWP.cond (by with_unfolding_all rfl) ?_ ?_ <;> intro h <;> (try simp only [zM, zN] at h) <;> try exact absurd h (by decide)) | refine AWP.skip ?_ | refine AWP.ret ?_ | refine AWP.exit ?_ | (refine AWP.segP (id := 6) 8 mixed (by kernel_rfl) fun K hK => ?_; simp only [List.take_succ_cons, List.take_zero, List.drop_succ_cons, List.drop_zero]) | refine AWP.parR mixed (by kernel_rfl) fun K hK => ?_ | refine ⟨(by kernel_rfl : depB _ _ _ = true), ?_⟩ | refine Or.inl ?_) | (clear hK K))
  refine AWP.len 15 rfl fun hlen0 => ?_
  (try rw [List.length_map] at hlen0)
  refine AWP.range (S := Unit) (a) encTok (fun k u => (17, I .i64 (k : Nat)) :: []) (fun k u => []) [0, 1, 2, 16] [] (fun k u => True) (()) (by simp only [go_sem, zA, zB, zC, zD, zE, zF, zG, reduceCtorEq, zH, zI, zJ, zK, zL]; exact Gh.to [] (by repeat (first | exact trivial | refine ⟨rfl, ?_⟩ | refine ⟨by (simp only [go_sem, zA, zB, zC, zD, zE, zF, zG, reduceCtorEq, zH, zI, zJ, zK, zL, List.length_append, List.length_map, List.length_cons, List.length_nil, Nat.zero_add]) <;> rfl, ?_⟩)) (by repeat (first | exact trivial | refine ⟨rfl, ?_⟩ | refine ⟨by (simp only [go_sem, zA, zB, zC, zD, zE, zF, zG, reduceCtorEq, zH, zI, zJ, zK, zL, List.length_append, List.length_map, List.length_cons, List.length_nil, Nat.zero_add]) <;> rfl, ?_⟩)) rfl rfl rfl) ?_ ?_ ?_
  · trivial
  · intro k u x hlt hx hx' hbb hok
    simp only [go_sem, zA, zB, zC, zD, zE, zF, zG, reduceCtorEq, zH, zI, zJ, zK, zL]
    obtain ⟨y, hy⟩ : ∃ y, b[k]? = some y := ⟨b[k]'(by omega), List.getElem?_eq_getElem (by omega)⟩
    have hy' : (b.map encTok)[k]? = some (encTok y) := by rw [List.getElem?_map, hy]; rfl
    have hxy : er plain x = er plain y := by
      have := congrArg (fun l => l[k]?) hab
      simp only [List.getElem?_map, hx, hy, Option.map_some, Option.some.injEq] at this
      exact this
    cases plain with
    | false =>
      simp only [er, cond_false] at hxy
      subst hxy
      repeat' (first | (simp only [go_sem, zA, zB, zC, zD, zE, zF, zG, reduceCtorEq, zH, zI, zJ, zK, zL, List.length_map, hbb, encTok]; all_goals fail_if_success guard_target =ₛ False) | (with_reducible first | ((first | refine seqVC_stepN rfl ?_ | refine AWP.seq ?_ | refine AWP.seqR (by kernel_rfl) ?_ | refine parVC_stepN rfl ?_ | refine parEVC_stepN rfl ?_ | refine genVC_stepN rfl ?_ | refine genMVC_stepN rfl ?_); intro K hK) | ((first | refine hK _ _ _ ?_ | refine hK _ _ ?_ | refine hK _ ?_); clear hK K) | refine seqVC_nil ?_ | refine parVC_nil ?_ | refine parEVC_nil ?_ | refine genVC_nil ?_ | refine genMVC_nil ?_ | refine AWP.block ?_ | (refine AWP.cond (by with_unfolding_all rfl) ?_ ?_ <;> intro h <;> (try simp only [zM, zN] at h) <;> try exact absurd h (by decide)) | refine AWP.skip ?_ | refine AWP.ret ?_ | refine AWP.exit ?_ | refine ⟨by omega, encTok x, hx', ?_⟩ | refine ⟨encTok x, hx', ?_⟩ | refine ⟨by omega, encTok x, hy', ?_⟩ | refine ⟨encTok x, hy', ?_⟩ | (refine AWP.genMT (id := 6) [8,9] 10 mixed (by kernel_rfl) fun K hK => ?_; simp only [List.take_succ_cons, List.take_zero, List.drop_succ_cons, List.drop_zero]) | refine AWP.parR mixed (by kernel_rfl) fun K hK => ?_ | refine ⟨(by kernel_rfl : depB _ _ _ = true), ?_⟩ | refine Or.inl ?_) | (clear hK K))
      all_goals (rw [wrap_succ hlt hlen0])
      all_goals first | exact ⟨(), trivial, Gh.to [] (by repeat (first | exact trivial | refine ⟨rfl, ?_⟩ | refine ⟨by (simp only [go_sem, zA, zB, zC, zD, zE, zF, zG, reduceCtorEq, zH, zI, zJ, zK, zL, List.length_append, List.length_map, List.length_cons, List.length_nil, Nat.zero_add]) <;> rfl, ?_⟩)) (by repeat (first | exact trivial | refine ⟨rfl, ?_⟩ | refine ⟨by (simp only [go_sem, zA, zB, zC, zD, zE, zF, zG, reduceCtorEq, zH, zI, zJ, zK, zL, List.length_append, List.length_map, List.length_cons, List.length_nil, Nat.zero_add]) <;> rfl, ?_⟩)) rfl rfl rfl⟩ | exact ⟨(), Gh.to [] (by repeat (first | exact trivial | refine ⟨rfl, ?_⟩ | refine ⟨by (simp only [go_sem, zA, zB, zC, zD, zE, zF, zG, reduceCtorEq, zH, zI, zJ, zK, zL, List.length_append, List.length_map, List.length_cons, List.length_nil, Nat.zero_add]) <;> rfl, ?_⟩)) (by repeat (first | exact trivial | refine ⟨rfl, ?_⟩ | refine ⟨by (simp only [go_sem, zA, zB, zC, zD, zE, zF, zG, reduceCtorEq, zH, zI, zJ, zK, zL, List.length_append, List.length_map, List.length_cons, List.length_nil, Nat.zero_add]) <;> rfl, ?_⟩)) rfl rfl rfl⟩ | exact Gh.to [] (by repeat (first | exact trivial | refine ⟨rfl, ?_⟩ | refine ⟨by (simp only [go_sem, zA, zB, zC, zD, zE, zF, zG, reduceCtorEq, zH, zI, zJ, zK, zL, List.length_append, List.length_map, List.length_cons, List.length_nil, Nat.zero_add]) <;> rfl, ?_⟩)) (by repeat (first | exact trivial | refine ⟨rfl, ?_⟩ | refine ⟨by (simp only [go_sem, zA, zB, zC, zD, zE, zF, zG, reduceCtorEq, zH, zI, zJ, zK, zL, List.length_append, List.length_map, List.length_cons, List.length_nil, Nat.zero_add]) <;> rfl, ?_⟩)) rfl rfl rfl
    | true =>
      obtain ⟨k1, t1, n1, a1⟩ := x
      obtain ⟨k2, t2, n2, a2⟩ := y
      simp only [er, cond_true, Tok.mk.injEq, and_true] at hxy
      obtain ⟨rfl, rfl, rfl⟩ := hxy
      repeat' (first | (simp only [go_sem, zA, zB, zC, zD, zE, zF, zG, reduceCtorEq, zH, zI, zJ, zK, zL, List.length_map, hbb, encTok]; all_goals fail_if_success guard_target =ₛ False) | (with_reducible first | ((first | refine seqVC_stepN rfl ?_ | refine AWP.seq ?_ | refine AWP.seqR (by kernel_rfl) ?_ | refine parVC_stepN rfl ?_ | refine parEVC_stepN rfl ?_ | refine genVC_stepN rfl ?_ | refine genMVC_stepN rfl ?_); intro K hK) | ((first | refine hK _ _ _ ?_ | refine hK _ _ ?_ | refine hK _ ?_); clear hK K) | refine seqVC_nil ?_ | refine parVC_nil ?_ | refine parEVC_nil ?_ | refine genVC_nil ?_ | refine genMVC_nil ?_ | refine AWP.block ?_ | (refine AWP.cond (by with_unfolding_all rfl) ?_ ?_ <;> intro h <;> (try simp only [zM, zN] at h) <;> try exact absurd h (by decide)) | refine AWP.skip ?_ | refine AWP.ret ?_ | refine AWP.exit ?_ | refine ⟨by omega, _, hx', ?_⟩ | refine ⟨_, hx', ?_⟩ | refine ⟨by omega, _, hy', ?_⟩ | refine ⟨_, hy', ?_⟩ | (refine AWP.genMT (id := 6) [8,9] 10 mixed (by kernel_rfl) fun K hK => ?_; simp only [List.take_succ_cons, List.take_zero, List.drop_succ_cons, List.drop_zero]) | refine AWP.parR mixed (by kernel_rfl) fun K hK => ?_ | refine ⟨(by kernel_rfl : depB _ _ _ = true), ?_⟩ | refine Or.inl ?_) | (clear hK K))
      all_goals (rw [wrap_succ hlt hlen0])
      all_goals first | exact ⟨(), trivial, Gh.to [] (by repeat (first | exact trivial | refine ⟨rfl, ?_⟩ | refine ⟨by (simp only [go_sem, zA, zB, zC, zD, zE, zF, zG, reduceCtorEq, zH, zI, zJ, zK, zL, List.length_append, List.length_map, List.length_cons, List.length_nil, Nat.zero_add]) <;> rfl, ?_⟩)) (by repeat (first | exact trivial | refine ⟨rfl, ?_⟩ | refine ⟨by (simp only [go_sem, zA, zB, zC, zD, zE, zF, zG, reduceCtorEq, zH, zI, zJ, zK, zL, List.length_append, List.length_map, List.length_cons, List.length_nil, Nat.zero_add]) <;> rfl, ?_⟩)) rfl rfl rfl⟩ | exact ⟨(), Gh.to [] (by repeat (first | exact trivial | refine ⟨rfl, ?_⟩ | refine ⟨by (simp only [go_sem, zA, zB, zC, zD, zE, zF, zG, reduceCtorEq, zH, zI, zJ, zK, zL, List.length_append, List.length_map, List.length_cons, List.length_nil, Nat.zero_add]) <;> rfl, ?_⟩)) (by repeat (first | exact trivial | refine ⟨rfl, ?_⟩ | refine ⟨by (simp only [go_sem, zA, zB, zC, zD, zE, zF, zG, reduceCtorEq, zH, zI, zJ, zK, zL, List.length_append, List.length_map, List.length_cons, List.length_nil, Nat.zero_add]) <;> rfl, ?_⟩)) rfl rfl rfl⟩ | exact Gh.to [] (by repeat (first | exact trivial | refine ⟨rfl, ?_⟩ | refine ⟨by (simp only [go_sem, zA, zB, zC, zD, zE, zF, zG, reduceCtorEq, zH, zI, zJ, zK, zL, List.length_append, List.length_map, List.length_cons, List.length_nil, Nat.zero_add]) <;> rfl, ?_⟩)) (by repeat (first | exact trivial | refine ⟨rfl, ?_⟩ | refine ⟨by (simp only [go_sem, zA, zB, zC, zD, zE, zF, zG, reduceCtorEq, zH, zI, zJ, zK, zL, List.length_append, List.length_map, List.length_cons, List.length_nil, Nat.zero_add]) <;> rfl, ?_⟩)) rfl rfl rfl
  · intro u hbb hok
    simp only [go_sem, zA, zB, zC, zD, zE, zF, zG, reduceCtorEq, zH, zI, zJ, zK, zL]
    repeat' (first | (simp only [go_sem, zA, zB, zC, zD, zE, zF, zG, reduceCtorEq, zH, zI, zJ, zK, zL, List.length_map, hbb]; all_goals fail_if_success guard_target =ₛ False) | (with_reducible first | ((first | refine seqVC_stepN rfl ?_ | refine AWP.seq ?_ | refine AWP.seqR (by kernel_rfl) ?_ | refine parVC_stepN rfl ?_ | refine parEVC_stepN rfl ?_ | refine genVC_stepN rfl ?_); intro K hK) | ((first | refine hK _ _ _ ?_ | refine hK _ _ ?_ | refine hK _ ?_); clear hK K) | refine seqVC_nil ?_ | refine parVC_nil ?_ | refine parEVC_nil ?_ | refine genVC_nil ?_ | refine AWP.block ?_ | (refine AWP.cond (by with_unfolding_all rfl) ?_ ?_ <;> intro h <;> (try simp only [zM, zN] at h) <;> try exact absurd h (by decide)) | refine AWP.skip ?_ | refine AWP.ret ?_ | refine AWP.exit ?_ | (refine AWP.segP (id := 6) 8 mixed (by kernel_rfl) fun K hK => ?_; simp only [List.take_succ_cons, List.take_zero, List.drop_succ_cons, List.drop_zero]) | refine AWP.parR mixed (by kernel_rfl) fun K hK => ?_ | refine ⟨(by kernel_rfl : depB _ _ _ = true), ?_⟩ | refine Or.inl ?_) | (clear hK K))
    all_goals (first | exact fun _ h => absurd h List.not_mem_nil | refine fin0 ?_)
    all_goals rfl
theorem scanV_len (RQ RE : Nat → (Tok × Int) × Nat) (s : List UInt8) : ∀ (n k : Nat) (acc : List Tok), (scanV RQ RE s n k acc).1.length ≤ acc.length + n
  | 0, k, acc => by simp [scanV]
  | n + 1, k, acc => by
    unfold scanV
    cases s[k]? with
    | none => simp only; omega
    | some b =>
      simp only
      cases decide ((nextV s k b (RQ k) (RE k)).1.2 = 0) with
      | true =>
        have := scanV_len RQ RE s n (skipTo s (nextV s k b (RQ k) (RE k)).2) (acc ++ [{ (nextV s k b (RQ k) (RE k)).1.1 with at_ := k }])
        simp only [cond_true]
        simp only [List.length_append, List.length_cons, List.length_nil] at this
        omega
      | false => simp
theorem scanR_len (s : List UInt8) (hs : s.length ≤ 100000000) : (scanR s).1.length ≤ 1000000000 := by
  unfold scanR tscanV
  cases decide ((4000 : Int) < (s.length : Int)) with
  | true => simp
  | false =>
    have := scanV_len (quoV s) (encV s) s (s.length + 1) (skipTo s 0) []
    simp only [cond_false, List.length_nil] at this ⊢
    omega
theorem scans_c (s : List UInt8) (hs : s.length ≤ 100000000) : PC Tryd.prog 9 [S s] (Bo true) := by
  have h1 := pscan_c s hs
  have h2 := rscan_c s hs
  have hl : (scanR s).1.length ≤ 1000000000 := scanR_len s hs
  generalize scanR s = r at h1 h2 hl
  obtain ⟨l, k, e⟩ := r
  have h3 := same_c l l false hl rfl
  unfold ScR at h1 h2
  dsimp only at h1 h2
  refine PCB.of_body Tryd.func9 rfl (by decide) Tryd.ntmps9 Tryd.results9 rfl rfl rfl ?_ rfl rfl
  repeat' (first | (simp only [go_sem, zA, zB, zC, zD, zE, zF, zG, reduceCtorEq, zH, zI, zJ, zK, zL]; all_goals fail_if_success guard_target =ₛ False) | (with_reducible first | ((first | refine seqVC_stepN rfl ?_ | refine seqVC_stepG rfl (by with_unfolding_all rfl) ?_ | refine AWP.seq ?_ | refine AWP.seqR (by kernel_rfl) ?_); intro K hK) | ((first | refine hK _ _ _ ?_ | refine hK _ _ ?_ | refine hK _ ?_); clear hK K) | refine seqVC_nil ?_ | refine AWP.block ?_ | (refine AWP.cond (by with_unfolding_all rfl) ?_ ?_ <;> intro h <;> (try simp only [zM, zN] at h) <;> try exact absurd h (by decide)) | refine AWP.skip ?_ | refine AWP.ret ?_ | refine AWP.exit ?_ | (refine ⟨fun h => ?_, fun h => ?_⟩ <;> (try simp only [zM, zN] at h) <;> try simp only [h]) | refine ⟨_, h1, ?_⟩ | refine ⟨_, h2, ?_⟩ | refine ⟨_, h3, ?_⟩ | refine Or.inl ?_) | (clear hK K))
  all_goals (first | exact fun _ h => absurd h List.not_mem_nil | refine fin0 ?_)
  all_goals rfl
def pieceL : List (List UInt8) := [[45], [48], [55], [48, 48], [45, 48], [57, 50, 50, 51, 51, 55, 50, 48, 51, 54, 56, 53, 52, 55, 55, 53, 56, 48, 55], [57, 50, 50, 51, 51, 55, 50, 48, 51, 54, 56, 53, 52, 55, 55, 53, 56, 48, 56], [45, 57, 50, 50, 51, 51, 55, 50, 48, 51, 54, 56, 53, 52, 55, 55, 53, 56, 48, 56], [45, 57, 50, 50, 51, 51, 55, 50, 48, 51, 54, 56, 53, 52, 55, 55, 53, 56, 48, 57], [97], [90], [95], [97, 95, 49], [97, 98, 99, 100, 101, 102, 103, 104, 105, 106, 107, 108, 109, 110, 111, 112], [97, 98, 99, 100, 101, 102, 103, 104, 105, 106, 107, 108, 109, 110, 111, 112, 113], [34], [34, 120, 34], [34, 92, 120, 48, 97, 34], [34, 92, 120, 52, 49, 34], [92], [96], [96, 105, 110, 116, 96], [37], [10], [32], [45, 62], [61], [61, 62], [61, 61], [61, 60], [60], [62], [35, 123], [35], [123], [125], [40], [41], [46], [59], [58], [124], [47], [38], [44], [43], [42], [0], [255]]
theorem pieceL_len : ∀ x ∈ pieceL, x.length ≤ 20 := by decide
def encI (n : Int) : List C := [.int .i64 n]
theorem mod_bd (n m : Int) (hm : 0 < m) : 0 ≤ (IntKind.u64.wrap n).tmod m ∧ (IntKind.u64.wrap n).tmod m < m := by
  have : 0 ≤ IntKind.u64.wrap n := by
    have h4 := Int.emod_nonneg n (show (2 : Int) ^ IntKind.u64.bits ≠ 0 by decide)
    have e : IntKind.u64.wrap n = n % 2 ^ IntKind.u64.bits := by simp [IntKind.wrap, IntKind.signed]
    rw [e]; exact h4
  exact ⟨Int.tmod_nonneg _ this, Int.tmod_lt_of_pos _ hm⟩
theorem pieces_c (l : List Int) : ∃ s : List UInt8, s.length ≤ 500 ∧ PC Tryd.prog 10 [.one (.dat (.sl 1 (l.map encI)))] (S s) := by
  -- the text after k numbers
  let pc : Int → List UInt8 := fun n => (pieceL[((IntKind.u64.wrap n).tmod 49).toNat]?).getD []
  have hpc : ∀ n, ∃ x, pieceL[((IntKind.u64.wrap n).tmod 49).toNat]? = some x ∧ pc n = x ∧ x.length ≤ 20 := by
    intro n
    have hb := mod_bd n 49 (by decide)
    have : ((IntKind.u64.wrap n).tmod 49).toNat < pieceL.length := by
      have h9 : pieceL.length = 49 := rfl
      have h2 := hb.2
      rw [h9]; omega
    refine ⟨_, List.getElem?_eq_getElem this, ?_, pieceL_len _ (List.getElem_mem this)⟩
    simp only [pc, List.getElem?_eq_getElem this, Option.getD_some]
  let tx : Nat → List UInt8 := fun k => ((l.take (min k 25)).flatMap pc)
  have htx : ∀ k n, l[k]? = some n → k < 25 → tx (k + 1) = tx k ++ pc n := by
    intro k n hn hk
    simp only [tx]
    rw [show min (k + 1) 25 = k + 1 by omega, show min k 25 = k by omega, List.take_add_one, hn, List.flatMap_append]
    simp
  have htl : ∀ m : List Int, (m.flatMap pc).length ≤ 20 * m.length := by
    intro m
    induction m with
    | nil => simp
    | cons n m ih =>
      obtain ⟨x, _, h1, h2⟩ := hpc n
      rw [List.flatMap_cons, List.length_append, h1, List.length_cons]; omega
  have htk : ∀ k, (tx k).length ≤ 500 := by
    intro k
    have h1 := htl (l.take (min k 25))
    rw [List.length_take] at h1
    show ((l.take (min k 25)).flatMap pc).length ≤ 500
    omega
  refine ⟨tx l.length, htk _, ?_⟩
  have htx0 : tx 0 = [] := by simp [tx]
  have hge : ∀ k, 25 ≤ k → tx (k + 1) = tx k := by
    intro k hk
    simp only [tx]
    rw [show min (k + 1) 25 = 25 by omega, show min k 25 = 25 by omega]
  clear_value tx
  refine PCB.of_body Tryd.func10 rfl (by decide) Tryd.ntmps10 Tryd.results10 rfl rfl rfl ?_ rfl rfl
  repeat' (first | (simp only [go_sem, zA, zB, zC, zD, zE, zF, zG, reduceCtorEq, zH, zI, zJ, zK, zL, List.length_map]; all_goals fail_if_success guard_target =ₛ False) | (with_reducible first | ((first | refine seqVC_stepN rfl ?_ | refine AWP.seq ?_ | refine AWP.seqR (by kernel_rfl) ?_); intro K hK) | ((first | refine hK _ _ _ ?_ | refine hK _ _ ?_ | refine hK _ ?_); clear hK K) | refine seqVC_nil ?_ | refine AWP.block ?_ | (refine AWP.cond (by with_unfolding_all rfl) ?_ ?_ <;> intro h <;> (try simp only [zM, zN] at h) <;> try exact absurd h (by decide)) | refine AWP.skip ?_ | refine AWP.ret ?_ | refine AWP.exit ?_ | refine Or.inl ?_) | (clear hK K))
  refine AWP.len 8 rfl fun hlen0 => ?_
  (try rw [List.length_map] at hlen0)
  refine AWP.range (S := Unit) (l) encI (fun k u => (10, I .i64 (k : Nat)) :: [(4, S (tx k))]) (fun k u => []) [3, 8, 9] [] (fun k u => True) (()) (by simp only [go_sem, zA, zB, zC, zD, zE, zF, zG, reduceCtorEq, zH, zI, zJ, zK, zL, htx0]; exact Gh.to [] (by repeat (first | exact trivial | refine ⟨rfl, ?_⟩ | refine ⟨by (simp only [go_sem, zA, zB, zC, zD, zE, zF, zG, reduceCtorEq, zH, zI, zJ, zK, zL, List.length_append, List.length_map, List.length_cons, List.length_nil, Nat.zero_add]) <;> rfl, ?_⟩)) (by repeat (first | exact trivial | refine ⟨rfl, ?_⟩ | refine ⟨by (simp only [go_sem, zA, zB, zC, zD, zE, zF, zG, reduceCtorEq, zH, zI, zJ, zK, zL, List.length_append, List.length_map, List.length_cons, List.length_nil, Nat.zero_add]) <;> rfl, ?_⟩)) rfl rfl rfl) ?_ ?_ ?_
  · trivial
  · intro k u n hlt hx hx' hbb hok
    simp only [go_sem, zA, zB, zC, zD, zE, zF, zG, reduceCtorEq, zH, zI, zJ, zK, zL]
    obtain ⟨x, hxp, hpn, hxl⟩ := hpc n
    have hb := mod_bd n 49 (by decide)
    have hxe : (pieceL.map encStr)[((IntKind.u64.wrap n).tmod 49).toNat]? = some (encStr x) := by rw [List.getElem?_map, hxp]; rfl
    simp only [pieceL, List.map_cons, List.map_nil, encStr] at hxe
    by_cases h25 : k < 25
    · have hd : decide ((k : Int) < 25) = true := by rw [decide_eq_true_eq]; omega
      have h1 := htx k n hx h25
      rw [hpn] at h1
      have hml : (tx k).length + x.length ≤ maxLen := by have := htk k; unfold maxLen; omega
      have h49 : IntKind.u64.wrap 49 = 49 := by decide
      repeat' (first | (simp only [go_sem, zA, zB, zC, zD, zE, zF, zG, reduceCtorEq, zH, zI, zJ, zK, zL, List.length_map, hbb, hd, encI, h49, List.length_cons, List.length_nil]; all_goals fail_if_success guard_target =ₛ False) | (with_reducible first | ((first | refine seqVC_stepN rfl ?_ | refine AWP.seq ?_ | refine AWP.seqR (by kernel_rfl) ?_); intro K hK) | ((first | refine hK _ _ _ ?_ | refine hK _ _ ?_ | refine hK _ ?_); clear hK K) | refine seqVC_nil ?_ | refine AWP.block ?_ | (refine AWP.cond (by with_unfolding_all rfl) ?_ ?_ <;> intro h <;> (try simp only [zM, zN] at h) <;> try exact absurd h (by decide)) | refine AWP.skip ?_ | refine AWP.ret ?_ | refine AWP.exit ?_ | refine ⟨by omega, encI n, hx', ?_⟩ | refine ⟨encI n, hx', ?_⟩ | refine ⟨by decide, ?_⟩ | refine ⟨hml, ?_⟩) | ( refine ⟨hb.1, _, hxe, ?_⟩) | (with_reducible first | refine Or.inl ?_) | (clear hK K))
      all_goals (rw [wrap_succ hlt hlen0, h1])
      all_goals first | exact ⟨(), trivial, Gh.to [] (by repeat (first | exact trivial | refine ⟨rfl, ?_⟩ | refine ⟨by (simp only [go_sem, zA, zB, zC, zD, zE, zF, zG, reduceCtorEq, zH, zI, zJ, zK, zL, List.length_append, List.length_map, List.length_cons, List.length_nil, Nat.zero_add]) <;> rfl, ?_⟩)) (by repeat (first | exact trivial | refine ⟨rfl, ?_⟩ | refine ⟨by (simp only [go_sem, zA, zB, zC, zD, zE, zF, zG, reduceCtorEq, zH, zI, zJ, zK, zL, List.length_append, List.length_map, List.length_cons, List.length_nil, Nat.zero_add]) <;> rfl, ?_⟩)) rfl rfl rfl⟩ | exact ⟨(), Gh.to [] (by repeat (first | exact trivial | refine ⟨rfl, ?_⟩ | refine ⟨by (simp only [go_sem, zA, zB, zC, zD, zE, zF, zG, reduceCtorEq, zH, zI, zJ, zK, zL, List.length_append, List.length_map, List.length_cons, List.length_nil, Nat.zero_add]) <;> rfl, ?_⟩)) (by repeat (first | exact trivial | refine ⟨rfl, ?_⟩ | refine ⟨by (simp only [go_sem, zA, zB, zC, zD, zE, zF, zG, reduceCtorEq, zH, zI, zJ, zK, zL, List.length_append, List.length_map, List.length_cons, List.length_nil, Nat.zero_add]) <;> rfl, ?_⟩)) rfl rfl rfl⟩ | exact Gh.to [] (by repeat (first | exact trivial | refine ⟨rfl, ?_⟩ | refine ⟨by (simp only [go_sem, zA, zB, zC, zD, zE, zF, zG, reduceCtorEq, zH, zI, zJ, zK, zL, List.length_append, List.length_map, List.length_cons, List.length_nil, Nat.zero_add]) <;> rfl, ?_⟩)) (by repeat (first | exact trivial | refine ⟨rfl, ?_⟩ | refine ⟨by (simp only [go_sem, zA, zB, zC, zD, zE, zF, zG, reduceCtorEq, zH, zI, zJ, zK, zL, List.length_append, List.length_map, List.length_cons, List.length_nil, Nat.zero_add]) <;> rfl, ?_⟩)) rfl rfl rfl
    · have hd : decide ((k : Int) < 25) = false := by rw [decide_eq_false_iff_not]; omega
      have h1 := hge k (by omega)
      repeat' (first | (simp only [go_sem, zA, zB, zC, zD, zE, zF, zG, reduceCtorEq, zH, zI, zJ, zK, zL, List.length_map, hbb, hd, encI]; all_goals fail_if_success guard_target =ₛ False) | (with_reducible first | ((first | refine seqVC_stepN rfl ?_ | refine AWP.seq ?_ | refine AWP.seqR (by kernel_rfl) ?_); intro K hK) | ((first | refine hK _ _ _ ?_ | refine hK _ _ ?_ | refine hK _ ?_); clear hK K) | refine seqVC_nil ?_ | refine AWP.block ?_ | (refine AWP.cond (by with_unfolding_all rfl) ?_ ?_ <;> intro h <;> (try simp only [zM, zN] at h) <;> try exact absurd h (by decide)) | refine AWP.skip ?_ | refine AWP.ret ?_ | refine AWP.exit ?_ | refine ⟨by omega, encI n, hx', ?_⟩ | refine ⟨encI n, hx', ?_⟩ | refine Or.inl ?_) | (clear hK K))
      all_goals (rw [wrap_succ hlt hlen0, h1])
      all_goals first | exact ⟨(), trivial, Gh.to [] (by repeat (first | exact trivial | refine ⟨rfl, ?_⟩ | refine ⟨by (simp only [go_sem, zA, zB, zC, zD, zE, zF, zG, reduceCtorEq, zH, zI, zJ, zK, zL, List.length_append, List.length_map, List.length_cons, List.length_nil, Nat.zero_add]) <;> rfl, ?_⟩)) (by repeat (first | exact trivial | refine ⟨rfl, ?_⟩ | refine ⟨by (simp only [go_sem, zA, zB, zC, zD, zE, zF, zG, reduceCtorEq, zH, zI, zJ, zK, zL, List.length_append, List.length_map, List.length_cons, List.length_nil, Nat.zero_add]) <;> rfl, ?_⟩)) rfl rfl rfl⟩ | exact ⟨(), Gh.to [] (by repeat (first | exact trivial | refine ⟨rfl, ?_⟩ | refine ⟨by (simp only [go_sem, zA, zB, zC, zD, zE, zF, zG, reduceCtorEq, zH, zI, zJ, zK, zL, List.length_append, List.length_map, List.length_cons, List.length_nil, Nat.zero_add]) <;> rfl, ?_⟩)) (by repeat (first | exact trivial | refine ⟨rfl, ?_⟩ | refine ⟨by (simp only [go_sem, zA, zB, zC, zD, zE, zF, zG, reduceCtorEq, zH, zI, zJ, zK, zL, List.length_append, List.length_map, List.length_cons, List.length_nil, Nat.zero_add]) <;> rfl, ?_⟩)) rfl rfl rfl⟩ | exact Gh.to [] (by repeat (first | exact trivial | refine ⟨rfl, ?_⟩ | refine ⟨by (simp only [go_sem, zA, zB, zC, zD, zE, zF, zG, reduceCtorEq, zH, zI, zJ, zK, zL, List.length_append, List.length_map, List.length_cons, List.length_nil, Nat.zero_add]) <;> rfl, ?_⟩)) (by repeat (first | exact trivial | refine ⟨rfl, ?_⟩ | refine ⟨by (simp only [go_sem, zA, zB, zC, zD, zE, zF, zG, reduceCtorEq, zH, zI, zJ, zK, zL, List.length_append, List.length_map, List.length_cons, List.length_nil, Nat.zero_add]) <;> rfl, ?_⟩)) rfl rfl rfl
  · intro u hbb hok
    simp only [go_sem, zA, zB, zC, zD, zE, zF, zG, reduceCtorEq, zH, zI, zJ, zK, zL]
    repeat' (first | (simp only [go_sem, zA, zB, zC, zD, zE, zF, zG, reduceCtorEq, zH, zI, zJ, zK, zL, List.length_map, hbb]; all_goals fail_if_success guard_target =ₛ False) | (with_reducible first | ((first | refine seqVC_stepN rfl ?_ | refine AWP.seq ?_ | refine AWP.seqR (by kernel_rfl) ?_); intro K hK) | ((first | refine hK _ _ _ ?_ | refine hK _ _ ?_ | refine hK _ ?_); clear hK K) | refine seqVC_nil ?_ | refine AWP.block ?_ | (refine AWP.cond (by with_unfolding_all rfl) ?_ ?_ <;> intro h <;> (try simp only [zM, zN] at h) <;> try exact absurd h (by decide)) | refine AWP.skip ?_ | refine AWP.ret ?_ | refine AWP.exit ?_ | refine Or.inl ?_) | (clear hK K))
    all_goals (first | exact fun _ h => absurd h List.not_mem_nil | refine fin0 ?_)
    all_goals rfl
theorem tokenPieces_c (l : List Int) : PC Tryd.prog 3 [.one (.dat (.sl 1 (l.map encI)))] (Bo true) := by
  obtain ⟨s, hs, h1⟩ := pieces_c l
  have h2 := scans_c s (by omega)
  have h3 := awake_c
  refine PCB.of_body Tryd.func3 rfl (by decide) Tryd.ntmps3 Tryd.results3 rfl rfl rfl ?_ rfl rfl
  repeat' (first | (simp only [go_sem, zA, zB, zC, zD, zE, zF, zG, reduceCtorEq, zH, zI, zJ, zK, zL]; all_goals fail_if_success guard_target =ₛ False) | (with_reducible first | ((first | refine seqVC_stepN rfl ?_ | refine seqVC_stepG rfl (by with_unfolding_all rfl) ?_ | refine AWP.seq ?_ | refine AWP.seqR (by kernel_rfl) ?_); intro K hK) | ((first | refine hK _ _ _ ?_ | refine hK _ _ ?_ | refine hK _ ?_); clear hK K) | refine seqVC_nil ?_ | refine AWP.block ?_ | (refine AWP.cond (by with_unfolding_all rfl) ?_ ?_ <;> intro h <;> (try simp only [zM, zN] at h) <;> try exact absurd h (by decide)) | refine AWP.skip ?_ | refine AWP.ret ?_ | refine AWP.exit ?_ | (refine ⟨fun h => ?_, fun h => ?_⟩ <;> (try simp only [zM, zN] at h) <;> try simp only [h]) | refine ⟨_, h1, ?_⟩ | refine ⟨_, h2, ?_⟩ | refine ⟨_, h3, ?_⟩ | refine Or.inl ?_) | (clear hK K))
  all_goals (first | exact fun _ h => absurd h List.not_mem_nil | refine fin0 ?_)
  all_goals rfl
end Go.Proofs.YtogponhonjiidaaDoor
