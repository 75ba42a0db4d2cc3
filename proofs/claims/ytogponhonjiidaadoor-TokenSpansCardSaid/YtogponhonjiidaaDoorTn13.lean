/- A part of the proof: lemmas about the walk of the program and about plain integers and lists. No conditions beyond those that each lemma states. -/
import Derived.Test.YtogponhonjiidaaDoorTn12
import Derived.Shelf.Strings.OnBuilder
import Derived.Test.YtogponhonjiidaaDoorProg
import Derived.Test.YtogponhonjiidaaDoorTn8
set_option linter.unusedSimpArgs false
set_option linter.unusedVariables false
set_option maxRecDepth 20000
set_option maxHeartbeats 16000000
namespace Go.Proofs.YtogponhonjiidaaDoor
open Go Go.Sx
open Nat renaming reduceBEq → zA, reduceBNe → zB, reduceAdd → zC, reduceSub → zD, reduceMul → zE, reduceLeDiff → zF, reduceLT → zG, reduceEqDiff → zH
open Int renaming reduceToNat → zI, reduceLE → zJ, reduceLT → zK, reduceEq → zL
open Bool renaming not_eq_true' → zM, not_eq_false' → zN
def noBq (n : Int) : Bool := !decide (n = 96)
theorem noBq_eq (b : UInt8) : noBq b.toNat = !decide (b = 96) := by
  unfold noBq
  congr 1
  apply decide_eq_decide.2
  constructor
  · intro h; apply UInt8.toNat_inj.1; show b.toNat = 96; omega
  · rintro rfl; rfl
theorem index_bq : ∀ l : List UInt8, Lib.index l [96] = if cntW noBq l < l.length then ((cntW noBq l : Nat) : Int) else -1
  | [] => by simp [Lib.index, cntW]
  | b :: l => by
    have ih := index_bq l
    unfold Lib.index cntW
    rw [noBq_eq, List.length_cons]
    by_cases hb : b = 96
    · subst hb; simp [List.isPrefixOf]
    · have h1 : List.isPrefixOf [96] (b :: l) = false := by simp [List.isPrefixOf, beq_eq_false_iff_ne]; exact fun e => hb e.symm
      rw [h1, decide_eq_false hb, Bool.not_false, cond_true, ih]
      by_cases hc : cntW noBq l < l.length
      · rw [if_pos hc, if_pos (show 1 + cntW noBq l < l.length + 1 by omega)]
        have : (((cntW noBq l : Nat) : Int) == -1) = false := by first | (simp; done) | (simp; omega)
        rw [this]
        simp only [Bool.false_eq_true, if_false]
        omega
      · rw [if_neg hc, if_neg (show ¬ 1 + cntW noBq l < l.length + 1 by omega)]
        simp
theorem encV_eq (s : List UInt8) (i : Nat) (hi : i < s.length) : encV s i = bif decide (toW noBq s (i + 1) < s.length) then ((⟨5, (s.take (toW noBq s (i + 1))).drop (i + 1), 0, 0⟩, 0), toW noBq s (i + 1) + 1) else ((zeroTok, 5), i) := by
  have hl : (s.drop (i + 1)).length = s.length - (i + 1) := List.length_drop
  have hle := cntW_le noBq (s.drop (i + 1))
  have hx := index_bq (s.drop (i + 1))
  unfold encV Lib.cut
  have htw : toW noBq s (i + 1) = i + 1 + cntW noBq (s.drop (i + 1)) := rfl
  rw [hl] at hx hle
  rw [htw]
  by_cases hc : cntW noBq (s.drop (i + 1)) < s.length - (i + 1)
  · rw [if_pos hc] at hx
    have h0 : (0 : Int) ≤ Lib.index (s.drop (i + 1)) [96] := by rw [hx]; omega
    rw [if_pos h0, hx, decide_eq_true (show i + 1 + cntW noBq (s.drop (i + 1)) < s.length by omega)]
    have e1 : (s.drop (i + 1)).take (cntW noBq (s.drop (i + 1))) = (s.take (i + 1 + cntW noBq (s.drop (i + 1)))).drop (i + 1) := by rw [List.drop_take]; congr 1; omega
    have e2 : ((s.drop (i + 1)).take (cntW noBq (s.drop (i + 1)))).length = cntW noBq (s.drop (i + 1)) := by rw [List.length_take, hl]; omega
    simp only [cond_true, Int.toNat_natCast, e2]
    rw [e1]
    congr 1
    omega
  · rw [if_neg hc] at hx
    have h0 : ¬ (0 : Int) ≤ Lib.index (s.drop (i + 1)) [96] := by rw [hx]; decide
    rw [if_neg h0, decide_eq_false (show ¬ i + 1 + cntW noBq (s.drop (i + 1)) < s.length by omega)]
    rfl
/-- the tokens from k on, behind acc: tokens, place of a fault, code -/
def scanV (RQ RE : Nat → (Tok × Int) × Nat) (s : List UInt8) : Nat → Nat → List Tok → List Tok × Int × Int
  | 0, k, acc => (acc, 0, 0)
  | n + 1, k, acc => match s[k]? with
    | none => (acc, 0, 0)
    | some b => bif decide ((nextV s k b (RQ k) (RE k)).1.2 = 0)
        then scanV RQ RE s n (skipTo s (nextV s k b (RQ k) (RE k)).2) (acc ++ [{ (nextV s k b (RQ k) (RE k)).1.1 with at_ := k }])
        else ([], k, (nextV s k b (RQ k) (RE k)).1.2)
theorem findS_some {t x : List UInt8} : ∀ {l : List (List UInt8)}, findS t l = some x → x ∈ l ∧ Lib.hasPrefix t x = true
  | [], h => by cases h
  | y :: l, h => by
    rw [findS] at h
    cases hz : Lib.hasPrefix t y with
    | true => rw [hz, cond_true] at h; cases h; exact ⟨List.mem_cons_self, hz⟩
    | false => rw [hz, cond_false] at h; obtain ⟨h1, h2⟩ := findS_some h; exact ⟨List.mem_cons_of_mem _ h1, h2⟩
theorem signV_bd {t : List UInt8} (h : (signV t).1.2 = 0) : 0 < (signV t).2 ∧ (signV t).2 ≤ t.length := by
  unfold signV at h ⊢
  cases hf : findS t signL with
  | none => rw [hf] at h; exact absurd h (by decide)
  | some x =>
    obtain ⟨h1, h2⟩ := findS_some hf
    refine ⟨?_, prefix_len h2⟩
    have : ∀ y ∈ signL, 0 < y.length := by decide
    exact this x h1
/-- what quotes and backquotes begin ends behind its beginning -/
def Fwd (s : List UInt8) (RQ : Nat → (Tok × Int) × Nat) : Prop := ∀ k, k < s.length → (RQ k).1.2 = 0 → k < (RQ k).2 ∧ (RQ k).2 ≤ s.length
theorem nextV_bd {RQ RE : Nat → (Tok × Int) × Nat} {s : List UInt8} (hQ : Fwd s RQ) (hE : Fwd s RE) {k : Nat} {b : UInt8} (hk : k < s.length) (h : (nextV s k b (RQ k) (RE k)).1.2 = 0) :
    k < (nextV s k b (RQ k) (RE k)).2 ∧ (nextV s k b (RQ k) (RE k)).2 ≤ s.length := by
  have g : ∀ p, k < toW p s (k + 1) ∧ toW p s (k + 1) ≤ s.length := fun p => ⟨toW_ge (p := p) (s := s) (k := k + 1), toW_le (by omega)⟩
  revert h
  unfold nextV
  cases lowI b.toNat with
  | true => exact fun _ => g _
  | false =>
  cases uppI b.toNat with
  | true => exact fun _ => g _
  | false =>
  cases decide ((b.toNat : Int) = 95) with
  | true => intro _; simp only [cond_true, cond_false]; omega
  | false =>
  cases digI b.toNat with
  | true => exact fun _ => g _
  | false =>
  cases decide ((b.toNat : Int) = 45) && nextDig s k with
  | true => exact fun _ => g _
  | false =>
  cases decide ((b.toNat : Int) = 34) with
  | true => exact fun h => hQ k hk h
  | false =>
  cases decide ((b.toNat : Int) = 96) with
  | true => exact fun h => hE k hk h
  | false =>
    intro h
    have := signV_bd (t := s.drop k) h
    rw [List.length_drop] at this
    simp only [cond_false]
    omega
theorem scanV_step (RQ RE : Nat → (Tok × Int) × Nat) (s : List UInt8) (n k : Nat) (acc : List Tok) {b : UInt8} (hb : s[k]? = some b) {t : Tok} {e : Int} {k2 : Nat} (hr : nextV s k b (RQ k) (RE k) = ((t, e), k2)) :
    scanV RQ RE s (n + 1) k acc = bif decide (e = 0) then scanV RQ RE s n (skipTo s k2) (acc ++ [{ t with at_ := k }]) else ([], k, e) := by
  simp only [scanV, hb, hr]
theorem scanV_end (RQ RE : Nat → (Tok × Int) × Nat) (s : List UInt8) (n k : Nat) (acc : List Tok) (hk : s.length ≤ k) : scanV RQ RE s n k acc = (acc, 0, 0) := by
  cases n with
  | zero => rfl
  | succ n => simp only [scanV, List.getElem?_eq_none hk]
theorem tok_snoc (l : List Tok) (t : Tok) (k : Nat) : l.map encTok ++ [[.int .i64 t.kind, .str t.text, .int .i64 t.num, .int .i64 (k : Int)]] = (l ++ [{ t with at_ := (k : Int) }]).map encTok := by
  rw [List.map_append]; rfl
theorem wscan_c (s : List UInt8) (hs : s.length ≤ 1000000000) (RQ RE : Nat → (Tok × Int) × Nat) (hQ : Fwd s RQ) (hE : Fwd s RE)
    (hq : ∀ i b, s[i]? = some b → decide ((b.toNat : Int) = 34) = true → PCB Tryd.prog 65 [Scp pin] [(pin, scB s i)] (TkR (RQ i).1) [(pin, scB s (RQ i).2)])
    (he : ∀ i b, s[i]? = some b → decide ((b.toNat : Int) = 96) = true → PCB Tryd.prog 66 [Scp pin] [(pin, scB s i)] (TkR (RE i).1) [(pin, scB s (RE i).2)]) :
    PC Tryd.prog 25 [S s] (.tup [.one (.dat (.sl 4 ((scanV RQ RE s (s.length + 1) (skipTo s 0) []).1.map encTok))), I .i64 (scanV RQ RE s (s.length + 1) (skipTo s 0) []).2.1, I .i64 (scanV RQ RE s (s.length + 1) (skipTo s 0) []).2.2]) := by
  have h0 := PCBk.mk 12 (wskip_c s (by omega) 0 (Nat.zero_le _))
  have hk0 := skipTo_le (s := s) (k := 0) (Nat.zero_le _)
  generalize skipTo s 0 = k0 at h0 hk0 ⊢
  refine PCB.of_body Tryd.func25 rfl (by decide) Tryd.ntmps25 Tryd.results25 rfl rfl rfl ?_ rfl rfl
  repeat' (first | (simp only [go_sem, zA, zB, zC, zD, zE, zF, zG, reduceCtorEq, zH, zI, zJ, zK, zL]; all_goals fail_if_success guard_target =ₛ False) | (with_reducible first | ((first | refine seqVC_stepN rfl ?_ | refine AWP.seq ?_ | refine AWP.seqR (by kernel_rfl) ?_); intro K hK) | ((first | refine hK _ _ _ ?_ | refine hK _ _ ?_ | refine hK _ ?_); clear hK K) | refine seqVC_nil ?_ | refine AWP.block ?_ | (refine AWP.cond (by with_unfolding_all rfl) ?_ ?_ <;> intro h <;> (try simp only [zM, zN] at h) <;> try exact absurd h (by decide)) | refine AWP.skip ?_ | refine AWP.ret ?_ | refine AWP.exit ?_) | (refine ⟨12, _, _, _, h0, rfl, ?_⟩) | (with_reducible first | refine Or.inl ?_) | (clear hK K))
  refine AWP.gh (Gh.nilrow 6 900 rfl rfl rfl (by simp [Bx.fresh, Cell.freshs, Cell.fresh])) ?_
  refine AWP.loopF (X := Nat × Nat × List Tok) (fun x => [(6, .one (.own 900 x.2.2.length))]) (fun x => [(12, scB s x.2.1), (900, .row 4 (x.2.2.map encTok))]) [0, 5] [] (fun x => x.2.1 ≤ s.length ∧ s.length < x.1 + x.2.1 ∧ x.2.2.length ≤ x.2.1 ∧ scanV RQ RE s (s.length + 1) k0 [] = scanV RQ RE s x.1 x.2.1 x.2.2) (fun x => x.1) ((s.length + 1, k0, [])) (by simp only [go_sem, zA, zB, zC, zD, zE, zF, zG, reduceCtorEq, zH, zI, zJ, zK, zL]; exact Gh.to [] (by repeat (first | exact trivial | refine ⟨rfl, ?_⟩ | refine ⟨by (simp only [go_sem, zA, zB, zC, zD, zE, zF, zG, reduceCtorEq, zH, zI, zJ, zK, zL, List.length_append, List.length_map, List.length_cons, List.length_nil, Nat.zero_add]) <;> rfl, ?_⟩)) (by repeat (first | exact trivial | refine ⟨rfl, ?_⟩ | refine ⟨by (simp only [go_sem, zA, zB, zC, zD, zE, zF, zG, reduceCtorEq, zH, zI, zJ, zK, zL, List.length_append, List.length_map, List.length_cons, List.length_nil, Nat.zero_add]) <;> rfl, ?_⟩)) rfl rfl rfl) ?_ ?_
  · exact ⟨hk0, by simp only; omega, Nat.zero_le _, rfl⟩
  rintro ⟨n, k, acc⟩ ⟨hkl, hn, hal, hok⟩
  simp only at hkl hn hal hok
  simp only [go_sem, zA, zB, zC, zD, zE, zF, zG, reduceCtorEq, zH, zI, zJ, zK, zL]
  by_cases hlt : k < s.length
  · obtain ⟨b, hb⟩ := byte_at hlt
    have hd : decide ((k : Int) < (s.length : Int)) = true := by rw [decide_eq_true_eq]; omega
    have hnx := PCBk.mk 12 (next_c s hs k b hb (RQ k) (RE k) (hq k b hb) (he k b hb))
    obtain ⟨n, rfl⟩ : ∃ m, n = m + 1 := ⟨n - 1, by omega⟩
    have hbd := nextV_bd hQ hE (b := b) hlt
    have hst := fun t e k2 h => scanV_step RQ RE s n k acc hb (t := t) (e := e) (k2 := k2) h
    generalize nextV s k b (RQ k) (RE k) = r at hnx hst hbd
    obtain ⟨⟨t, e⟩, k2⟩ := r
    have hst := hst t e k2 rfl
    simp only at hnx hbd
    rw [hst] at hok
    cases hz : decide (e = 0) with
    | false =>
      rw [hz, cond_false] at hok
      repeat' (first | (simp only [go_sem, zA, zB, zC, zD, zE, zF, zG, reduceCtorEq, zH, zI, zJ, zK, zL, hd, hz, tok_eta, Bool.not_false]; all_goals fail_if_success guard_target =ₛ False) | (with_reducible first | ((first | refine seqVC_stepN rfl ?_ | refine AWP.seq ?_ | refine AWP.seqR (by kernel_rfl) ?_); intro K hK) | ((first | refine hK _ _ _ ?_ | refine hK _ _ ?_ | refine hK _ ?_); clear hK K) | refine seqVC_nil ?_ | refine AWP.block ?_ | (refine AWP.cond (by with_unfolding_all rfl) ?_ ?_ <;> intro h <;> (try simp only [zM, zN] at h) <;> try exact absurd h (by decide)) | refine AWP.skip ?_ | refine AWP.ret ?_ | refine AWP.exit ?_) | (refine ⟨12, _, _, _, hnx, rfl, ?_⟩) | (with_reducible first | refine Or.inl ?_) | (clear hK K))
      rw [hok]
      all_goals (first | exact fun _ h => absurd h List.not_mem_nil | refine fin0 ?_)
      all_goals rfl
    | true =>
      rw [hz, cond_true] at hok
      obtain ⟨hb1, hb2⟩ := hbd (by simpa using hz)
      have hsk := PCBk.mk 12 (wskip_c s (by omega) k2 hb2)
      have hk2 := skipTo_le hb2
      have hk3 := skipTo_ge (s := s) (k := k2)
      repeat' (first | (simp only [go_sem, zA, zB, zC, zD, zE, zF, zG, reduceCtorEq, zH, zI, zJ, zK, zL, hd, hz, tok_eta, tok_snoc, List.length_map, Bool.not_true]; all_goals fail_if_success guard_target =ₛ False) | (with_reducible first | ((first | refine seqVC_stepN rfl ?_ | refine AWP.seq ?_ | refine AWP.seqR (by kernel_rfl) ?_); intro K hK) | ((first | refine hK _ _ _ ?_ | refine hK _ _ ?_ | refine hK _ ?_); clear hK K) | refine seqVC_nil ?_ | refine AWP.block ?_ | (refine AWP.cond (by with_unfolding_all rfl) ?_ ?_ <;> intro h <;> (try simp only [zM, zN] at h) <;> try exact absurd h (by decide)) | refine AWP.skip ?_ | refine AWP.ret ?_ | refine AWP.exit ?_ | (refine ⟨(by first | omega | (simp only [List.length_append, List.length_map, List.length_take, List.length_drop, List.length_cons, List.length_nil, List.length_replicate]; omega) : _ ≤ _), ?_⟩) | refine ⟨by omega, by omega, ?_⟩) | (refine ⟨12, _, _, _, hnx, rfl, ?_⟩) | (refine ⟨12, _, _, _, hsk, rfl, ?_⟩) | (with_reducible first | refine Or.inl ?_) | (clear hK K))
      all_goals (refine ⟨(n, skipTo s k2, acc ++ [{ t with at_ := k }]), by simp only; omega, ⟨by simp only; omega, by simp only; omega, by simp only [List.length_append, List.length_cons, List.length_nil]; omega, hok⟩, Gh.to [(900, 42)] (by repeat (first | exact trivial | refine ⟨rfl, ?_⟩ | refine ⟨by (simp only [go_sem, zA, zB, zC, zD, zE, zF, zG, reduceCtorEq, zH, zI, zJ, zK, zL, List.length_append, List.length_map, List.length_cons, List.length_nil, Nat.zero_add]) <;> rfl, ?_⟩)) (by repeat (first | exact trivial | refine ⟨rfl, ?_⟩ | refine ⟨by (simp only [go_sem, zA, zB, zC, zD, zE, zF, zG, reduceCtorEq, zH, zI, zJ, zK, zL, List.length_append, List.length_map, List.length_cons, List.length_nil, Nat.zero_add]) <;> rfl, ?_⟩)) rfl rfl rfl⟩)
  · have hd : decide ((k : Int) < (s.length : Int)) = false := by rw [decide_eq_false_iff_not]; omega
    rw [scanV_end RQ RE s n k acc (by omega)] at hok
    refine AWP.gh (Gh.freeze 900 rfl rfl (by simp only [go_sem, zA, zB, zC, zD, zE, zF, zG, reduceCtorEq, zH, zI, zJ, zK, zL, List.length_map]) (by simp only [go_sem, zA, zB, zC, zD, zE, zF, zG, reduceCtorEq, zH, zI, zJ, zK, zL, List.length_map])) ?_
    simp only [go_sem, zA, zB, zC, zD, zE, zF, zG, reduceCtorEq, zH, zI, zJ, zK, zL, List.length_map]
    repeat' (first | (simp only [go_sem, zA, zB, zC, zD, zE, zF, zG, reduceCtorEq, zH, zI, zJ, zK, zL, hd]; all_goals fail_if_success guard_target =ₛ False) | (with_reducible first | ((first | refine seqVC_stepN rfl ?_ | refine AWP.seq ?_ | refine AWP.seqR (by kernel_rfl) ?_); intro K hK) | ((first | refine hK _ _ _ ?_ | refine hK _ _ ?_ | refine hK _ ?_); clear hK K) | refine seqVC_nil ?_ | refine AWP.block ?_ | (refine AWP.cond (by with_unfolding_all rfl) ?_ ?_ <;> intro h <;> (try simp only [zM, zN] at h) <;> try exact absurd h (by decide)) | refine AWP.skip ?_ | refine AWP.ret ?_ | refine AWP.exit ?_ | refine Or.inl ?_) | (clear hK K))
    rw [hok]
    all_goals (first | exact fun _ h => absurd h List.not_mem_nil | refine fin0 ?_)
    all_goals rfl
abbrev ScR (r : List Tok × Int × Int) : T := .tup [.one (.dat (.sl 4 (r.1.map encTok))), I .i64 r.2.1, I .i64 r.2.2]
def tscanV (RQ RE : Nat → (Tok × Int) × Nat) (s : List UInt8) : List Tok × Int × Int :=
  bif decide ((4000 : Int) < (s.length : Int)) then ([], 0, 2) else scanV RQ RE s (s.length + 1) (skipTo s 0) []
theorem tscan_c (s : List UInt8) (hs : s.length ≤ 1000000000) (RQ RE : Nat → (Tok × Int) × Nat) (hQ : Fwd s RQ) (hE : Fwd s RE)
    (hq : ∀ i b, s[i]? = some b → decide ((b.toNat : Int) = 34) = true → PCB Tryd.prog 65 [Scp pin] [(pin, scB s i)] (TkR (RQ i).1) [(pin, scB s (RQ i).2)])
    (he : ∀ i b, s[i]? = some b → decide ((b.toNat : Int) = 96) = true → PCB Tryd.prog 66 [Scp pin] [(pin, scB s i)] (TkR (RE i).1) [(pin, scB s (RE i).2)]) :
    PC Tryd.prog 13 [S s] (ScR (tscanV RQ RE s)) := by
  have h1 := wscan_c s hs RQ RE hQ hE hq he
  unfold tscanV
  generalize scanV RQ RE s (s.length + 1) (skipTo s 0) [] = r at h1 ⊢
  cases h0 : decide ((4000 : Int) < (s.length : Int))
  ·
    refine PCB.of_body Tryd.func13 rfl (by decide) Tryd.ntmps13 Tryd.results13 rfl rfl rfl ?_ rfl rfl
    repeat' (first | (simp only [go_sem, zA, zB, zC, zD, zE, zF, zG, reduceCtorEq, zH, zI, zJ, zK, zL, h0]; all_goals fail_if_success guard_target =ₛ False) | (with_reducible first | ((first | refine seqVC_stepN rfl ?_ | refine AWP.seq ?_ | refine AWP.seqR (by kernel_rfl) ?_); intro K hK) | ((first | refine hK _ _ _ ?_ | refine hK _ _ ?_ | refine hK _ ?_); clear hK K) | refine seqVC_nil ?_ | refine AWP.block ?_ | (refine AWP.cond (by with_unfolding_all rfl) ?_ ?_ <;> intro h <;> (try simp only [zM, zN] at h) <;> try exact absurd h (by decide)) | refine AWP.skip ?_ | refine AWP.ret ?_ | refine AWP.exit ?_ | refine ⟨_, h1, ?_⟩ | refine Or.inl ?_) | (clear hK K))
    all_goals (first | exact fun _ h => absurd h List.not_mem_nil | refine fin0 ?_)
    all_goals rfl
  ·
    refine PCB.of_body Tryd.func13 rfl (by decide) Tryd.ntmps13 Tryd.results13 rfl rfl rfl ?_ rfl rfl
    repeat' (first | (simp only [go_sem, zA, zB, zC, zD, zE, zF, zG, reduceCtorEq, zH, zI, zJ, zK, zL, h0]; all_goals fail_if_success guard_target =ₛ False) | (with_reducible first | ((first | refine seqVC_stepN rfl ?_ | refine AWP.seq ?_ | refine AWP.seqR (by kernel_rfl) ?_); intro K hK) | ((first | refine hK _ _ _ ?_ | refine hK _ _ ?_ | refine hK _ ?_); clear hK K) | refine seqVC_nil ?_ | refine AWP.block ?_ | (refine AWP.cond (by with_unfolding_all rfl) ?_ ?_ <;> intro h <;> (try simp only [zM, zN] at h) <;> try exact absurd h (by decide)) | refine AWP.skip ?_ | refine AWP.ret ?_ | refine AWP.exit ?_ | refine Or.inl ?_) | (clear hK K))
    all_goals (first | exact fun _ h => absurd h List.not_mem_nil | refine fin0 ?_)
    all_goals rfl
/-- the bytes of the sample -/
def sampS : List UInt8 := [102, 40, 88, 41, 32, 45, 62, 32, 45, 49, 46]
def noV : Nat → (Tok × Int) × Nat := fun _ => ((zeroTok, 5), 0)
def sampT : List Tok := [⟨1, [102], 0, 0⟩, ⟨6, [40], 0, 1⟩, ⟨2, [88], 0, 2⟩, ⟨6, [41], 0, 3⟩, ⟨6, [45, 62], 0, 5⟩, ⟨3, [], -1, 8⟩, ⟨6, [46], 0, 10⟩]
theorem samp_no : ∀ b ∈ sampS, decide ((b.toNat : Int) = 34) = false ∧ decide ((b.toNat : Int) = 96) = false := by decide
theorem sk (k m : Nat) (h : skipL (sampS.drop k) = m) : skipTo sampS k = k + m := by unfold skipTo; rw [h]
theorem samp_v : tscanV noV noV sampS = (sampT, 0, 0) := by
  have e0 : skipTo sampS 0 = 0 := sk 0 0 (by simp [sampS, skipL, sepI])
  have e1 : skipTo sampS 1 = 1 := sk 1 0 (by simp [sampS, skipL, sepI])
  have e2 : skipTo sampS 2 = 2 := sk 2 0 (by simp [sampS, skipL, sepI])
  have e3 : skipTo sampS 3 = 3 := sk 3 0 (by simp [sampS, skipL, sepI])
  have e4 : skipTo sampS 4 = 5 := sk 4 1 (by simp [sampS, skipL, sepI])
  have e7 : skipTo sampS 7 = 8 := sk 7 1 (by simp [sampS, skipL, sepI])
  have e10 : skipTo sampS 10 = 10 := sk 10 0 (by simp [sampS, skipL, sepI])
  have e11 : skipTo sampS 11 = 11 := sk 11 0 (by simp [sampS, skipL, sepI])
  have st : ∀ (n k : Nat) (acc : List Tok) (b : UInt8) (t : Tok) (k2 : Nat), sampS[k]? = some b → nextV sampS k b (noV k) (noV k) = ((t, 0), k2) → scanV noV noV sampS (n + 1) k acc = scanV noV noV sampS n (skipTo sampS k2) (acc ++ [{ t with at_ := k }]) := fun n k acc b t k2 hb hr => by
    rw [scanV_step noV noV sampS n k acc hb hr]; rfl
  show scanV noV noV sampS 12 (skipTo sampS 0) [] = _
  rw [e0, st 11 0 _ 102 ⟨1, [102], 0, 0⟩ 1 rfl (by decide +kernel), e1, st 10 1 _ 40 ⟨6, [40], 0, 0⟩ 2 rfl (by decide +kernel), e2, st 9 2 _ 88 ⟨2, [88], 0, 0⟩ 3 rfl (by decide +kernel), e3, st 8 3 _ 41 ⟨6, [41], 0, 0⟩ 4 rfl (by decide +kernel), e4,
    st 7 5 _ 45 ⟨6, [45, 62], 0, 0⟩ 7 rfl (by decide +kernel), e7, st 6 8 _ 45 ⟨3, [], -1, 0⟩ 10 rfl (by decide +kernel), e10, st 5 10 _ 46 ⟨6, [46], 0, 0⟩ 11 rfl (by decide +kernel), e11, scanV_end noV noV sampS 5 11 _ (by decide)]
  rfl
theorem fwd_no (s : List UInt8) : Fwd s noV := fun k _ h => absurd (show (5 : Int) = 0 from h) (by decide)
theorem samp_c : PC Tryd.prog 13 [S sampS] (ScR (sampT, 0, 0)) := by
  have h := tscan_c sampS (by decide) noV noV (fwd_no _) (fwd_no _)
    (fun i b hb h => by have := (samp_no b (List.mem_of_getElem? hb)).1; rw [h] at this; cases this)
    (fun i b hb h => by have := (samp_no b (List.mem_of_getElem? hb)).2; rw [h] at this; cases this)
  rwa [samp_v] at h
theorem awake_c : PC Tryd.prog 11 [] (Bo true) := by
  have h1 := samp_c
  have h2 := reserved_c [99, 97, 115, 101]
  rw [show (resW.any fun x => decide (x = [99, 97, 115, 101])) = true by decide] at h2
  have h3 := reserved_c [102]
  rw [show (resW.any fun x => decide (x = [102])) = false by decide] at h3
  unfold sampS sampT at h1
  refine PCB.of_body Tryd.func11 rfl (by decide) Tryd.ntmps11 Tryd.results11 rfl rfl rfl ?_ rfl rfl
  repeat' (first | (simp only [go_sem, zA, zB, zC, zD, zE, zF, zG, reduceCtorEq, zH, zI, zJ, zK, zL, List.map_cons, List.map_nil, encTok]; all_goals fail_if_success guard_target =ₛ False) | (with_reducible first | ((first | refine seqVC_stepN rfl ?_ | refine seqVC_stepG rfl (by with_unfolding_all rfl) ?_ | refine AWP.seq ?_ | refine AWP.seqR (by kernel_rfl) ?_); intro K hK) | ((first | refine hK _ _ _ ?_ | refine hK _ _ ?_ | refine hK _ ?_); clear hK K) | refine seqVC_nil ?_ | refine AWP.block ?_ | (refine AWP.cond (by with_unfolding_all rfl) ?_ ?_ <;> intro h <;> (try simp only [zM, zN] at h) <;> try exact absurd h (by decide)) | refine AWP.skip ?_ | refine AWP.ret ?_ | refine AWP.exit ?_ | (refine ⟨fun h => ?_, fun h => ?_⟩ <;> (try simp only [zM, zN] at h) <;> try simp only [h]) | refine ⟨_, h1, ?_⟩ | refine ⟨_, h2, ?_⟩ | refine ⟨_, h3, ?_⟩ | refine ⟨by omega, _, rfl, ?_⟩ | refine Or.inl ?_) | (clear hK K))
  all_goals (first | exact fun _ h => absurd h List.not_mem_nil | refine fin0 ?_)
  all_goals rfl
theorem fwd_quo (s : List UInt8) : Fwd s (quoV s) := by
  intro k hk h
  unfold quoV at h ⊢
  cases hq : qAt s (k + 1) with
  | none => rw [hq] at h; exact absurd (show (5 : Int) = 0 from h) (by decide)
  | some j =>
    have := qAt_bd hq
    simp only
    omega
theorem fwd_enc (s : List UInt8) : Fwd s (encV s) := by
  intro k hk h
  have hge := toW_ge (p := noBq) (s := s) (k := k + 1)
  rw [encV_eq s k hk] at h ⊢
  cases hf : decide (toW noBq s (k + 1) < s.length) with
  | false => rw [hf] at h; exact absurd (show (5 : Int) = 0 from h) (by decide)
  | true =>
    simp only [decide_eq_true_eq] at hf
    simp only [cond_true]
    omega
/-- what both scanners give -/
def scanR (s : List UInt8) : List Tok × Int × Int := tscanV (quoV s) (encV s) s
theorem pscan_c (s : List UInt8) (hs : s.length ≤ 100000000) : PC Tryd.prog 13 [S s] (ScR (scanR s)) :=
  tscan_c s (by omega) _ _ (fwd_quo s) (fwd_enc s) (fun i b hb _ => quoted_c s (by omega) i (List.getElem?_eq_some_iff.1 hb).1) (fun i b hb _ => enclosed_c s (by omega) i (List.getElem?_eq_some_iff.1 hb).1)
/-- a token, its position left out if so asked -/
def er (plain : Bool) (t : Tok) : Tok := bif plain then { t with at_ := 0 } else t
def pieceL : List (List UInt8) := [[45], [48], [55], [48, 48], [45, 48], [57, 50, 50, 51, 51, 55, 50, 48, 51, 54, 56, 53, 52, 55, 55, 53, 56, 48, 55], [57, 50, 50, 51, 51, 55, 50, 48, 51, 54, 56, 53, 52, 55, 55, 53, 56, 48, 56], [45, 57, 50, 50, 51, 51, 55, 50, 48, 51, 54, 56, 53, 52, 55, 55, 53, 56, 48, 56], [45, 57, 50, 50, 51, 51, 55, 50, 48, 51, 54, 56, 53, 52, 55, 55, 53, 56, 48, 57], [97], [90], [95], [97, 95, 49], [97, 98, 99, 100, 101, 102, 103, 104, 105, 106, 107, 108, 109, 110, 111, 112], [97, 98, 99, 100, 101, 102, 103, 104, 105, 106, 107, 108, 109, 110, 111, 112, 113], [34], [34, 120, 34], [34, 92, 120, 48, 97, 34], [34, 92, 120, 52, 49, 34], [92], [96], [96, 105, 110, 116, 96], [37], [10], [32], [45, 62], [61], [61, 62], [61, 61], [61, 60], [60], [62], [35, 123], [35], [123], [125], [40], [41], [46], [59], [58], [124], [47], [38], [44], [43], [42], [0], [255]]
theorem pieceL_len : ∀ x ∈ pieceL, x.length ≤ 20 := by decide
def encI (n : Int) : List C := [.int .i64 n]
theorem mod_bd (n m : Int) (hm : 0 < m) : 0 ≤ (IntKind.u64.wrap n).tmod m ∧ (IntKind.u64.wrap n).tmod m < m := by
  have : 0 ≤ IntKind.u64.wrap n := by
    have h4 := Int.emod_nonneg n (show (2 : Int) ^ IntKind.u64.bits ≠ 0 by decide)
    have e : IntKind.u64.wrap n = n % 2 ^ IntKind.u64.bits := by simp [IntKind.wrap, IntKind.signed]
    rw [e]; exact h4
  exact ⟨Int.tmod_nonneg _ this, Int.tmod_lt_of_pos _ hm⟩
theorem pieces_c (l : List Int) : ∃ s : List UInt8, s.length ≤ 500 ∧ PC Tryd.prog 10 [.one (.dat (.sl 1 (l.map encI)))] (S s) := by
  -- the text after k numbers
  let pc : Int → List UInt8 := fun n => (pieceL[((IntKind.u64.wrap n).tmod 49).toNat]?).getD []
  have hpc : ∀ n, ∃ x, pieceL[((IntKind.u64.wrap n).tmod 49).toNat]? = some x ∧ pc n = x ∧ x.length ≤ 20 := by
    intro n
    have hb := mod_bd n 49 (by decide)
    have : ((IntKind.u64.wrap n).tmod 49).toNat < pieceL.length := by
      have h9 : pieceL.length = 49 := rfl
      have h2 := hb.2
      rw [h9]; omega
    refine ⟨_, List.getElem?_eq_getElem this, ?_, pieceL_len _ (List.getElem_mem this)⟩
    simp only [pc, List.getElem?_eq_getElem this, Option.getD_some]
  let tx : Nat → List UInt8 := fun k => ((l.take (min k 25)).flatMap pc)
  have htx : ∀ k n, l[k]? = some n → k < 25 → tx (k + 1) = tx k ++ pc n := by
    intro k n hn hk
    simp only [tx]
    rw [show min (k + 1) 25 = k + 1 by omega, show min k 25 = k by omega, List.take_add_one, hn, List.flatMap_append]
    simp
  have htl : ∀ m : List Int, (m.flatMap pc).length ≤ 20 * m.length := by
    intro m
    induction m with
    | nil => simp
    | cons n m ih =>
      obtain ⟨x, _, h1, h2⟩ := hpc n
      rw [List.flatMap_cons, List.length_append, h1, List.length_cons]; omega
  have htk : ∀ k, (tx k).length ≤ 500 := by
    intro k
    have h1 := htl (l.take (min k 25))
    rw [List.length_take] at h1
    show ((l.take (min k 25)).flatMap pc).length ≤ 500
    omega
  refine ⟨tx l.length, htk _, ?_⟩
  have htx0 : tx 0 = [] := by simp [tx]
  have hge : ∀ k, 25 ≤ k → tx (k + 1) = tx k := by
    intro k hk
    simp only [tx]
    rw [show min (k + 1) 25 = 25 by omega, show min k 25 = 25 by omega]
  clear_value tx
  refine PCB.of_body Tryd.func10 rfl (by decide) Tryd.ntmps10 Tryd.results10 rfl rfl rfl ?_ rfl rfl
  repeat' (first | (simp only [go_sem, zA, zB, zC, zD, zE, zF, zG, reduceCtorEq, zH, zI, zJ, zK, zL, List.length_map]; all_goals fail_if_success guard_target =ₛ False) | (with_reducible first | ((first | refine seqVC_stepN rfl ?_ | refine AWP.seq ?_ | refine AWP.seqR (by kernel_rfl) ?_); intro K hK) | ((first | refine hK _ _ _ ?_ | refine hK _ _ ?_ | refine hK _ ?_); clear hK K) | refine seqVC_nil ?_ | refine AWP.block ?_ | (refine AWP.cond (by with_unfolding_all rfl) ?_ ?_ <;> intro h <;> (try simp only [zM, zN] at h) <;> try exact absurd h (by decide)) | refine AWP.skip ?_ | refine AWP.ret ?_ | refine AWP.exit ?_ | refine Or.inl ?_) | (clear hK K))
  refine AWP.len 8 rfl fun hlen0 => ?_
  (try rw [List.length_map] at hlen0)
  refine AWP.range (S := Unit) (l) encI (fun k u => (10, I .i64 (k : Nat)) :: [(4, S (tx k))]) (fun k u => []) [3, 8, 9] [] (fun k u => True) (()) (by simp only [go_sem, zA, zB, zC, zD, zE, zF, zG, reduceCtorEq, zH, zI, zJ, zK, zL, htx0]; exact Gh.to [] (by repeat (first | exact trivial | refine ⟨rfl, ?_⟩ | refine ⟨by (simp only [go_sem, zA, zB, zC, zD, zE, zF, zG, reduceCtorEq, zH, zI, zJ, zK, zL, List.length_append, List.length_map, List.length_cons, List.length_nil, Nat.zero_add]) <;> rfl, ?_⟩)) (by repeat (first | exact trivial | refine ⟨rfl, ?_⟩ | refine ⟨by (simp only [go_sem, zA, zB, zC, zD, zE, zF, zG, reduceCtorEq, zH, zI, zJ, zK, zL, List.length_append, List.length_map, List.length_cons, List.length_nil, Nat.zero_add]) <;> rfl, ?_⟩)) rfl rfl rfl) ?_ ?_ ?_
  · trivial
  · intro k u n hlt hx hx' hbb hok
    simp only [go_sem, zA, zB, zC, zD, zE, zF, zG, reduceCtorEq, zH, zI, zJ, zK, zL]
    obtain ⟨x, hxp, hpn, hxl⟩ := hpc n
    have hb := mod_bd n 49 (by decide)
    have hxe : (pieceL.map encStr)[((IntKind.u64.wrap n).tmod 49).toNat]? = some (encStr x) := by rw [List.getElem?_map, hxp]; rfl
    simp only [pieceL, List.map_cons, List.map_nil, encStr] at hxe
    by_cases h25 : k < 25
    · have hd : decide ((k : Int) < 25) = true := by rw [decide_eq_true_eq]; omega
      have h1 := htx k n hx h25
      rw [hpn] at h1
      have hml : (tx k).length + x.length ≤ maxLen := by have := htk k; unfold maxLen; omega
      have h49 : IntKind.u64.wrap 49 = 49 := by decide
      repeat' (first | (simp only [go_sem, zA, zB, zC, zD, zE, zF, zG, reduceCtorEq, zH, zI, zJ, zK, zL, List.length_map, hbb, hd, encI, h49, List.length_cons, List.length_nil]; all_goals fail_if_success guard_target =ₛ False) | (with_reducible first | ((first | refine seqVC_stepN rfl ?_ | refine AWP.seq ?_ | refine AWP.seqR (by kernel_rfl) ?_); intro K hK) | ((first | refine hK _ _ _ ?_ | refine hK _ _ ?_ | refine hK _ ?_); clear hK K) | refine seqVC_nil ?_ | refine AWP.block ?_ | (refine AWP.cond (by with_unfolding_all rfl) ?_ ?_ <;> intro h <;> (try simp only [zM, zN] at h) <;> try exact absurd h (by decide)) | refine AWP.skip ?_ | refine AWP.ret ?_ | refine AWP.exit ?_ | refine ⟨by omega, encI n, hx', ?_⟩ | refine ⟨encI n, hx', ?_⟩ | refine ⟨by decide, ?_⟩ | refine ⟨hml, ?_⟩) | ( refine ⟨hb.1, _, hxe, ?_⟩) | (with_reducible first | refine Or.inl ?_) | (clear hK K))
      all_goals (rw [wrap_succ hlt hlen0, h1])
      all_goals first | exact ⟨(), trivial, Gh.to [] (by repeat (first | exact trivial | refine ⟨rfl, ?_⟩ | refine ⟨by (simp only [go_sem, zA, zB, zC, zD, zE, zF, zG, reduceCtorEq, zH, zI, zJ, zK, zL, List.length_append, List.length_map, List.length_cons, List.length_nil, Nat.zero_add]) <;> rfl, ?_⟩)) (by repeat (first | exact trivial | refine ⟨rfl, ?_⟩ | refine ⟨by (simp only [go_sem, zA, zB, zC, zD, zE, zF, zG, reduceCtorEq, zH, zI, zJ, zK, zL, List.length_append, List.length_map, List.length_cons, List.length_nil, Nat.zero_add]) <;> rfl, ?_⟩)) rfl rfl rfl⟩ | exact ⟨(), Gh.to [] (by repeat (first | exact trivial | refine ⟨rfl, ?_⟩ | refine ⟨by (simp only [go_sem, zA, zB, zC, zD, zE, zF, zG, reduceCtorEq, zH, zI, zJ, zK, zL, List.length_append, List.length_map, List.length_cons, List.length_nil, Nat.zero_add]) <;> rfl, ?_⟩)) (by repeat (first | exact trivial | refine ⟨rfl, ?_⟩ | refine ⟨by (simp only [go_sem, zA, zB, zC, zD, zE, zF, zG, reduceCtorEq, zH, zI, zJ, zK, zL, List.length_append, List.length_map, List.length_cons, List.length_nil, Nat.zero_add]) <;> rfl, ?_⟩)) rfl rfl rfl⟩ | exact Gh.to [] (by repeat (first | exact trivial | refine ⟨rfl, ?_⟩ | refine ⟨by (simp only [go_sem, zA, zB, zC, zD, zE, zF, zG, reduceCtorEq, zH, zI, zJ, zK, zL, List.length_append, List.length_map, List.length_cons, List.length_nil, Nat.zero_add]) <;> rfl, ?_⟩)) (by repeat (first | exact trivial | refine ⟨rfl, ?_⟩ | refine ⟨by (simp only [go_sem, zA, zB, zC, zD, zE, zF, zG, reduceCtorEq, zH, zI, zJ, zK, zL, List.length_append, List.length_map, List.length_cons, List.length_nil, Nat.zero_add]) <;> rfl, ?_⟩)) rfl rfl rfl
    · have hd : decide ((k : Int) < 25) = false := by rw [decide_eq_false_iff_not]; omega
      have h1 := hge k (by omega)
      repeat' (first | (simp only [go_sem, zA, zB, zC, zD, zE, zF, zG, reduceCtorEq, zH, zI, zJ, zK, zL, List.length_map, hbb, hd, encI]; all_goals fail_if_success guard_target =ₛ False) | (with_reducible first | ((first | refine seqVC_stepN rfl ?_ | refine AWP.seq ?_ | refine AWP.seqR (by kernel_rfl) ?_); intro K hK) | ((first | refine hK _ _ _ ?_ | refine hK _ _ ?_ | refine hK _ ?_); clear hK K) | refine seqVC_nil ?_ | refine AWP.block ?_ | (refine AWP.cond (by with_unfolding_all rfl) ?_ ?_ <;> intro h <;> (try simp only [zM, zN] at h) <;> try exact absurd h (by decide)) | refine AWP.skip ?_ | refine AWP.ret ?_ | refine AWP.exit ?_ | refine ⟨by omega, encI n, hx', ?_⟩ | refine ⟨encI n, hx', ?_⟩ | refine Or.inl ?_) | (clear hK K))
      all_goals (rw [wrap_succ hlt hlen0, h1])
      all_goals first | exact ⟨(), trivial, Gh.to [] (by repeat (first | exact trivial | refine ⟨rfl, ?_⟩ | refine ⟨by (simp only [go_sem, zA, zB, zC, zD, zE, zF, zG, reduceCtorEq, zH, zI, zJ, zK, zL, List.length_append, List.length_map, List.length_cons, List.length_nil, Nat.zero_add]) <;> rfl, ?_⟩)) (by repeat (first | exact trivial | refine ⟨rfl, ?_⟩ | refine ⟨by (simp only [go_sem, zA, zB, zC, zD, zE, zF, zG, reduceCtorEq, zH, zI, zJ, zK, zL, List.length_append, List.length_map, List.length_cons, List.length_nil, Nat.zero_add]) <;> rfl, ?_⟩)) rfl rfl rfl⟩ | exact ⟨(), Gh.to [] (by repeat (first | exact trivial | refine ⟨rfl, ?_⟩ | refine ⟨by (simp only [go_sem, zA, zB, zC, zD, zE, zF, zG, reduceCtorEq, zH, zI, zJ, zK, zL, List.length_append, List.length_map, List.length_cons, List.length_nil, Nat.zero_add]) <;> rfl, ?_⟩)) (by repeat (first | exact trivial | refine ⟨rfl, ?_⟩ | refine ⟨by (simp only [go_sem, zA, zB, zC, zD, zE, zF, zG, reduceCtorEq, zH, zI, zJ, zK, zL, List.length_append, List.length_map, List.length_cons, List.length_nil, Nat.zero_add]) <;> rfl, ?_⟩)) rfl rfl rfl⟩ | exact Gh.to [] (by repeat (first | exact trivial | refine ⟨rfl, ?_⟩ | refine ⟨by (simp only [go_sem, zA, zB, zC, zD, zE, zF, zG, reduceCtorEq, zH, zI, zJ, zK, zL, List.length_append, List.length_map, List.length_cons, List.length_nil, Nat.zero_add]) <;> rfl, ?_⟩)) (by repeat (first | exact trivial | refine ⟨rfl, ?_⟩ | refine ⟨by (simp only [go_sem, zA, zB, zC, zD, zE, zF, zG, reduceCtorEq, zH, zI, zJ, zK, zL, List.length_append, List.length_map, List.length_cons, List.length_nil, Nat.zero_add]) <;> rfl, ?_⟩)) rfl rfl rfl
  · intro u hbb hok
    simp only [go_sem, zA, zB, zC, zD, zE, zF, zG, reduceCtorEq, zH, zI, zJ, zK, zL]
    repeat' (first | (simp only [go_sem, zA, zB, zC, zD, zE, zF, zG, reduceCtorEq, zH, zI, zJ, zK, zL, List.length_map, hbb]; all_goals fail_if_success guard_target =ₛ False) | (with_reducible first | ((first | refine seqVC_stepN rfl ?_ | refine AWP.seq ?_ | refine AWP.seqR (by kernel_rfl) ?_); intro K hK) | ((first | refine hK _ _ _ ?_ | refine hK _ _ ?_ | refine hK _ ?_); clear hK K) | refine seqVC_nil ?_ | refine AWP.block ?_ | (refine AWP.cond (by with_unfolding_all rfl) ?_ ?_ <;> intro h <;> (try simp only [zM, zN] at h) <;> try exact absurd h (by decide)) | refine AWP.skip ?_ | refine AWP.ret ?_ | refine AWP.exit ?_ | refine Or.inl ?_) | (clear hK K))
    all_goals (first | exact fun _ h => absurd h List.not_mem_nil | refine fin0 ?_)
    all_goals rfl
theorem skipL_non {b : UInt8} {l : List UInt8} (h : sepI b.toNat = false) (hc : decide ((b.toNat : Int) = 37) = false) : skipL (b :: l) = 0 := by rw [skipL, h, hc]; rfl
theorem scan_short (s : List UInt8) (hl : s.length ≤ 4000) : scanR s = scanV (quoV s) (encV s) s (s.length + 1) (skipTo s 0) [] := by
  unfold scanR tscanV
  rw [decide_eq_false (show ¬ (4000 : Int) < (s.length : Int) by omega)]; rfl
theorem scan_long (s : List UInt8) (hl : 4000 < s.length) : scanR s = ([], 0, 2) := by
  unfold scanR tscanV
  rw [decide_eq_true (show (4000 : Int) < (s.length : Int) by omega)]; rfl
end Go.Proofs.YtogponhonjiidaaDoor


set_option linter.unusedSimpArgs false
set_option linter.unusedVariables false
set_option maxRecDepth 20000
set_option maxHeartbeats 16000000
namespace Go.Proofs.YtogponhonjiidaaDoor
open Go Go.Sx
open Nat renaming reduceBEq → zA, reduceBNe → zB, reduceAdd → zC, reduceSub → zD, reduceMul → zE, reduceLeDiff → zF, reduceLT → zG, reduceEqDiff → zH
open Int renaming reduceToNat → zI, reduceLE → zJ, reduceLT → zK, reduceEq → zL
open Bool renaming not_eq_true' → zM, not_eq_false' → zN
/-- a token's text -/
def txtV (t : Tok) : List UInt8 :=
  bif decide (t.kind = 1) || (decide (t.kind = 2) || decide (t.kind = 6)) then t.text
  else bif decide (t.kind = 3) then Lib.itoa t.num
  else bif decide (t.kind = 4) then Sx.quoteL t.text
  else bif decide (t.kind = 5) then 96 :: (t.text ++ [96])
  else []
/-- a token as an argument gives it -/
def TokOk (t : Tok) : Prop := -9223372036854775808 ≤ t.num ∧ t.num ≤ 9223372036854775807 ∧ t.text.length ≤ 10000000
end Go.Proofs.YtogponhonjiidaaDoor
set_option linter.unusedSimpArgs false
set_option linter.unusedVariables false
set_option maxRecDepth 20000
namespace Go.Proofs.YtogponhonjiidaaDoor
open Go Go.Sx
open Nat renaming reduceBEq → zA, reduceBNe → zB, reduceAdd → zC, reduceSub → zD, reduceMul → zE, reduceLeDiff → zF, reduceLT → zG, reduceEqDiff → zH
open Int renaming reduceToNat → zI, reduceLE → zJ, reduceLT → zK, reduceEq → zL
open Bool renaming not_eq_true' → zM, not_eq_false' → zN
def headDig (l : List UInt8) : Bool := match l with
  | c :: _ => digI c.toNat
  | [] => false
/-- the token at the head: the token, its code, how many bytes -/
def lexL (b : UInt8) (l : List UInt8) : (Tok × Int) × Nat :=
  bif lowI b.toNat then (wordV 1 (b :: l.take (cntW nameI l)), 1 + cntW nameI l)
  else bif uppI b.toNat then (wordV 2 (b :: l.take (cntW varI l)), 1 + cntW varI l)
  else bif decide ((b.toNat : Int) = 95) then ((⟨2, [95], 0, 0⟩, 0), 1)
  else bif digI b.toNat then (numT false (b :: l.take (cntW digI l)), 1 + cntW digI l)
  else bif decide ((b.toNat : Int) = 45) && headDig l then (numT true (l.take (cntW digI l)), 1 + cntW digI l)
  else bif decide ((b.toNat : Int) = 34) then (match qEnd l with
    | none => ((zeroTok, 5), 0)
    | some x => (qTok (b :: l.take (x + 1)), x + 2))
  else bif decide ((b.toNat : Int) = 96) then (bif decide (cntW noBq l < l.length) then ((⟨5, l.take (cntW noBq l), 0, 0⟩, 0), cntW noBq l + 2) else ((zeroTok, 5), 0))
  else signV (b :: l)
theorem nextV_lex (s : List UInt8) (i : Nat) (b : UInt8) (l : List UInt8) (h : s.drop i = b :: l) :
    nextV s i b (quoV s i) (encV s i) = ((lexL b l).1, i + (lexL b l).2) := by
  have hi : i < s.length := by
    have := congrArg List.length h
    rw [List.length_drop, List.length_cons] at this; omega
  have hd : s.drop (i + 1) = l := by rw [← List.drop_drop, h]; rfl
  have hsp : ∀ p, spanW p s (i + 1) = l.take (cntW p l) := fun p => by rw [spanW_eq, hd]
  have htw : ∀ p, toW p s (i + 1) = i + (1 + cntW p l) := fun p => by unfold toW; rw [hd]; omega
  have hnd : nextDig s i = headDig l := by
    unfold nextDig headDig
    have : s[i + 1]? = l[0]? := by rw [← hd, List.getElem?_drop]
    rw [this]
    cases l <;> rfl
  unfold nextV lexL
  simp only [hsp, htw, hnd, h]
  cases lowI b.toNat with
  | true => rfl
  | false =>
  cases uppI b.toNat with
  | true => rfl
  | false =>
  cases decide ((b.toNat : Int) = 95) with
  | true => rfl
  | false =>
  cases digI b.toNat with
  | true => rfl
  | false =>
  cases decide ((b.toNat : Int) = 45) && headDig l with
  | true => rfl
  | false =>
  cases decide ((b.toNat : Int) = 34) with
  | true =>
    simp only [cond_true, cond_false]
    unfold quoV qAt
    rw [hd]
    cases hq : qEnd l with
    | none => rfl
    | some x =>
      simp only [Option.map_some]
      have e : (s.take (x + (i + 1) + 1)).drop i = b :: l.take (x + 1) := by
        rw [List.drop_take, show x + (i + 1) + 1 - i = x + 1 + 1 by omega, h]; rfl
      rw [e]
      have : x + (i + 1) + 1 = i + (x + 2) := by omega
      rw [this]
  | false =>
  cases decide ((b.toNat : Int) = 96) with
  | true =>
    simp only [cond_true, cond_false]
    rw [encV_eq s i hi, htw]
    have hll : l.length = s.length - (i + 1) := by rw [← hd, List.length_drop]
    have hle := cntW_le noBq l
    by_cases hc : cntW noBq l < l.length
    · rw [decide_eq_true hc, decide_eq_true (show i + (1 + cntW noBq l) < s.length by omega)]
      have e : (s.take (i + (1 + cntW noBq l))).drop (i + 1) = l.take (cntW noBq l) := by
        rw [List.drop_take, hd, show i + (1 + cntW noBq l) - (i + 1) = cntW noBq l by omega]
      rw [e]
      simp only [cond_true]
      have : i + (1 + cntW noBq l) + 1 = i + (cntW noBq l + 2) := by omega
      rw [this]
    · rw [decide_eq_false hc, decide_eq_false (show ¬ i + (1 + cntW noBq l) < s.length by omega)]
      rfl
  | false => rfl
/-- what may follow a token: nothing, a separator, a note -/
def Calm (z : List UInt8) : Prop := ∀ c z', z = c :: z' → sepI c.toNat = true ∨ c = 37
theorem calm_cls {c : UInt8} (h : sepI c.toNat = true ∨ c = 37) : nameI c.toNat = false ∧ varI c.toNat = false ∧ digI c.toNat = false := by
  have hc : c.toNat = 9 ∨ c.toNat = 10 ∨ c.toNat = 13 ∨ c.toNat = 32 ∨ c.toNat = 37 := by
    rcases h with h | rfl
    · unfold sepI at h
      simp only [Bool.or_eq_true, decide_eq_true_eq] at h
      omega
    · exact .inr (.inr (.inr (.inr rfl)))
  rcases hc with h | h | h | h | h <;> rw [h] <;> decide
theorem cntW_app {p : Int → Bool} : ∀ {u z : List UInt8}, (∀ x ∈ u, p x.toNat = true) → (∀ c z', z = c :: z' → p c.toNat = false) → cntW p (u ++ z) = u.length
  | [], z, _, hz => by
    cases z with
    | nil => rfl
    | cons c z' => rw [List.nil_append, cntW, hz c z' rfl]; rfl
  | b :: u, z, hu, hz => by
    rw [List.cons_append, cntW, hu b List.mem_cons_self, cond_true, cntW_app (fun x hx => hu x (List.mem_cons_of_mem _ hx)) hz, List.length_cons]; omega
theorem take_app {u z : List UInt8} : (u ++ z).take u.length = u := by simp
theorem take_len_cnt (p : Int → Bool) (l : List UInt8) : (l.take (cntW p l)).length = cntW p l := by
  rw [List.length_take]; have := cntW_le p l; omega
theorem cntW_calm {p : Int → Bool} (l z : List UInt8) (hz : Calm z) (hp : ∀ c : UInt8, (sepI c.toNat = true ∨ c = 37) → p c.toNat = false) : cntW p (l.take (cntW p l) ++ z) = cntW p l ∧ (l.take (cntW p l) ++ z).take (cntW p l) = l.take (cntW p l) := by
  have h := cntW_app (p := p) (u := l.take (cntW p l)) (z := z) (take_cnt p l) (fun c z' e => hp c (hz c z' e))
  rw [take_len_cnt] at h
  refine ⟨h, ?_⟩
  have := take_app (u := l.take (cntW p l)) (z := z)
  rwa [take_len_cnt] at this
theorem qEnd_take : ∀ (n : Nat) (l : List UInt8), l.length ≤ n → ∀ x, qEnd l = some x → ∀ z, qEnd (l.take (x + 1) ++ z) = some x
  | n, [], _, x, h, z => by rw [qEnd] at h; cases h
  | 0, c :: l, hn, x, h, z => by simp at hn
  | n + 1, c :: l, hn, x, h, z => by
    have hn' : l.length ≤ n := by simpa using hn
    rw [qEnd] at h
    cases h92 : decide ((c.toNat : Int) = 92) with
    | true =>
      rw [h92, cond_true] at h
      obtain ⟨y, hy, rfl⟩ := Option.map_eq_some_iff.1 h
      cases l with
      | nil => rw [List.drop_nil, qEnd] at hy; cases hy
      | cons d l =>
        rw [List.drop_succ_cons, List.drop_zero] at hy
        have ih := qEnd_take n l (by simp at hn'; omega) y hy z
        rw [show y + 2 + 1 = (y + 1) + 1 + 1 by omega, List.take_succ_cons, List.take_succ_cons, List.cons_append, List.cons_append, qEnd, h92, cond_true, List.drop_succ_cons, List.drop_zero, ih]; rfl
    | false =>
      rw [h92, cond_false] at h
      cases h34 : decide ((c.toNat : Int) = 34) with
      | true =>
        rw [h34, cond_true] at h
        cases h
        rw [List.take_succ_cons, List.take_zero, List.cons_append, qEnd, h92, h34]; rfl
      | false =>
        rw [h34, cond_false] at h
        obtain ⟨y, hy, rfl⟩ := Option.map_eq_some_iff.1 h
        have ih := qEnd_take n l hn' y hy z
        rw [List.take_succ_cons, List.cons_append, qEnd, h92, h34, cond_false, cond_false, ih]; rfl
theorem qEnd_lt' {l : List UInt8} {x : Nat} (h : qEnd l = some x) : x < l.length := qEnd_lt _ _ h
theorem dig_dec : ∀ (l : List UInt8), allDig l → ∀ acc, 1 ≤ acc → Lib.decDigits (decA acc l) = Lib.decDigits acc ++ l
  | [], _, acc, _ => by rw [decA, List.append_nil]
  | b :: l, hd, acc, ha => by
    obtain ⟨h1, h2⟩ := dig_bd (hd b List.mem_cons_self)
    obtain ⟨v, hv⟩ : ∃ v, v = b.toNat - 48 := ⟨_, rfl⟩
    rw [decA_cons, ← hv, dig_dec l (fun x hx => hd x (List.mem_cons_of_mem _ hx)) _ (by omega), dig_step (show ¬ acc * 10 + v < 10 by omega)]
    rw [show (acc * 10 + v) / 10 = acc by omega, show (acc * 10 + v) % 10 = v by omega]
    have hb : UInt8.ofNat (48 + v) = b := by rw [show 48 + v = b.toNat by omega, UInt8.ofNat_toNat]
    rw [hb, List.append_assoc]; rfl
theorem dig_canon {b : UInt8} {l : List UInt8} (hd : allDig (b :: l)) (hb : b ≠ 48) : 1 ≤ decA 0 (b :: l) ∧ Lib.decDigits (decA 0 (b :: l)) = b :: l := by
  obtain ⟨h1, h2⟩ := dig_bd (hd b List.mem_cons_self)
  have hb' : b.toNat ≠ 48 := fun e => hb (UInt8.toNat_inj.1 e)
  obtain ⟨v, hv⟩ : ∃ v, v = b.toNat - 48 := ⟨_, rfl⟩
  have e : decA 0 (b :: l) = decA v l := by rw [decA_cons, ← hv, Nat.zero_mul, Nat.zero_add]
  have hge := decA_ge l v
  refine ⟨by rw [e]; omega, ?_⟩
  rw [e, dig_dec l (fun x hx => hd x (List.mem_cons_of_mem _ hx)) v (by omega), Lib.decDigits, dif_pos (by omega)]
  have hb2 : UInt8.ofNat (48 + v) = b := by rw [show 48 + v = b.toNat by omega, UInt8.ofNat_toNat]
  rw [hb2]; rfl
theorem numT_ok {neg : Bool} {d : List UInt8} (hd : allDig d) (hne : d ≠ []) (h : (numT neg d).2 = 0) :
    ∃ m, (numT neg d).1 = ⟨3, [], m, 0⟩ ∧ Lib.itoa m = (bif neg then 45 :: d else d) ∧ -9223372036854775808 ≤ m ∧ m ≤ 9223372036854775807 := by
  cases d with
  | nil => exact absurd rfl hne
  | cons b l =>
  unfold numT at h ⊢
  cases hz : decide ((numM neg (b :: l)).2 = 0) with
  | false =>
    rw [hz, cond_false] at h
    rw [decide_eq_false_iff_not] at hz
    exact absurd h hz
  | true =>
    rw [decide_eq_true_eq] at hz
    rw [cond_true]
    refine ⟨(numM neg (b :: l)).1, rfl, ?_⟩
    unfold numM at hz ⊢
    cases hc : decide ((b :: l).head? = some 48) && (decide (1 < (b :: l).length) || neg) with
    | true => rw [hc, cond_true] at hz; exact absurd hz (by decide)
    | false =>
      rw [hc, cond_false] at hz
      cases neg with
      | true =>
        have hb : b ≠ 48 := by
          rintro rfl
          simp at hc
        obtain ⟨h1, h2⟩ := dig_canon hd hb
        simp only [cond_true, cond_false] at hz ⊢
        cases hr : decide (decA 0 (b :: l) ≤ 9223372036854775808) with
        | false => rw [hr, cond_false] at hz; exact absurd hz (by decide)
        | true =>
          rw [decide_eq_true_eq] at hr
          simp only [cond_true]
          generalize decA 0 (b :: l) = u at h1 h2 hr
          refine ⟨?_, by omega, by omega⟩
          rw [itoa_neg (by omega), show (-(u : Int)).natAbs = u by omega, h2]
      | false =>
        simp only [cond_false] at hz ⊢
        cases hr : decide (decA 0 (b :: l) < 9223372036854775808) with
        | false => rw [hr, cond_false] at hz; exact absurd hz (by decide)
        | true =>
          rw [decide_eq_true_eq] at hr
          simp only [cond_true]
          have hd2 : Lib.decDigits (decA 0 (b :: l)) = b :: l := by
            by_cases hb : b = 48
            · subst hb
              have hl : l = [] := by
                cases l with
                | nil => rfl
                | cons c l => simp at hc
              subst hl
              have e : decA 0 [48] = 0 := by rw [decA_cons, decA]; rfl
              rw [e, Lib.decDigits, dif_pos (by omega)]; rfl
            · exact (dig_canon hd hb).2
          generalize decA 0 (b :: l) = u at hd2 hr
          refine ⟨?_, by omega, by omega⟩
          rw [itoa_pos (by omega), Int.toNat_natCast, hd2]
theorem calm_five {z : List UInt8} (hz : Calm z) : z = [] ∨ ∃ c z', z = c :: z' ∧ (c = 9 ∨ c = 10 ∨ c = 13 ∨ c = 32 ∨ c = 37) := by
  cases z with
  | nil => exact .inl rfl
  | cons c z' =>
    refine .inr ⟨c, z', rfl, ?_⟩
    rcases hz c z' rfl with h | h
    · unfold sepI at h
      simp only [Bool.or_eq_true, decide_eq_true_eq] at h
      have e : ∀ k : UInt8, (c.toNat : Int) = (k.toNat : Int) → c = k := fun k hk => UInt8.toNat_inj.1 (by omega)
      rcases h with h | h | h | h
      · exact .inl (e 9 h)
      · exact .inr (.inl (e 10 h))
      · exact .inr (.inr (.inl (e 13 h)))
      · exact .inr (.inr (.inr (.inl (e 32 h))))
    · exact .inr (.inr (.inr (.inr h)))
theorem find_calm (x z : List UInt8) (hx : x ∈ signL) (hz : Calm z) : findS (x ++ z) signL = some x := by
  simp only [signL, List.mem_cons, List.not_mem_nil, or_false] at hx
  rcases calm_five hz with rfl | ⟨c, z', rfl, hc⟩
  · rw [List.append_nil]
    rcases hx with rfl | rfl | rfl | rfl | rfl | rfl | rfl | rfl | rfl | rfl | rfl | rfl | rfl | rfl | rfl | rfl | rfl | rfl | rfl | rfl | rfl | rfl | rfl <;> decide
  · rcases hc with rfl | rfl | rfl | rfl | rfl <;>
    rcases hx with rfl | rfl | rfl | rfl | rfl | rfl | rfl | rfl | rfl | rfl | rfl | rfl | rfl | rfl | rfl | rfl | rfl | rfl | rfl | rfl | rfl | rfl | rfl <;> rfl
theorem headDig_calm {z : List UInt8} (hz : Calm z) : headDig z = false := by
  cases z with
  | nil => rfl
  | cons c z' => exact (calm_cls (hz c z' rfl)).2.2
theorem headDig_take {l z : List UInt8} (hz : Calm z) (k : Nat) (h : headDig l = false) : headDig (l.take k ++ z) = false := by
  cases k with
  | zero => rw [List.take_zero, List.nil_append]; exact headDig_calm hz
  | succ k =>
    cases l with
    | nil => rw [List.take_nil, List.nil_append]; exact headDig_calm hz
    | cons d l => rw [List.take_succ_cons]; exact h
theorem headDig_take1 {l z : List UInt8} (k : Nat) (hk : 1 ≤ k) (h : headDig l = true) : headDig (l.take k ++ z) = true := by
  cases l with
  | nil => cases h
  | cons d l =>
    obtain ⟨j, rfl⟩ : ∃ j, k = j + 1 := ⟨k - 1, by omega⟩
    rw [List.take_succ_cons]; exact h
theorem cnt_head {l : List UInt8} (h : headDig l = true) : 1 ≤ cntW digI l := by
  cases l with
  | nil => cases h
  | cons d l =>
    have : digI d.toNat = true := h
    rw [cntW, this, cond_true]; omega
theorem cnt_stop {p : Int → Bool} : ∀ {l : List UInt8}, cntW p l < l.length → ∃ y, l[cntW p l]? = some y ∧ p y.toNat = false
  | [], h => by simp [cntW] at h
  | b :: l, h => by
    rw [cntW] at h ⊢
    cases hp : p b.toNat with
    | false => exact ⟨b, by simp, hp⟩
    | true =>
      rw [hp, cond_true, List.length_cons] at h
      obtain ⟨y, hy, hpy⟩ := cnt_stop (p := p) (l := l) (by omega)
      refine ⟨y, ?_, hpy⟩
      rw [cond_true, Nat.add_comm, List.getElem?_cons_succ]; exact hy
theorem take_bq {l : List UInt8} (h : cntW noBq l < l.length) : l.take (cntW noBq l + 1) = l.take (cntW noBq l) ++ [96] := by
  obtain ⟨y, hy, hp⟩ := cnt_stop h
  rw [noBq_eq] at hp
  have : y = 96 := by simpa using hp
  subst this
  rw [List.take_add_one, hy]; rfl
theorem wordV_ok {kind : Int} {x : List UInt8} {t : Tok} (h : wordV kind x = (t, 0)) : t = ⟨kind, x, 0, 0⟩ := by
  unfold wordV at h
  cases hc : decide ((16 : Int) < (x.length : Int)) with
  | true => rw [hc, cond_true] at h; exact absurd (Prod.mk.inj h).2 (by decide)
  | false => rw [hc, cond_false] at h; exact (Prod.mk.inj h).1.symm
theorem qTok_ok {x : List UInt8} {t : Tok} (h : qTok x = (t, 0)) : ∃ u, t = ⟨4, u, 0, 0⟩ ∧ Sx.quoteL u = x := by
  unfold qTok at h
  cases hu : unqV x with
  | none => rw [hu] at h; exact absurd (Prod.mk.inj h).2 (by decide)
  | some u =>
    rw [hu] at h
    simp only at h
    cases hc : decide ((64 : Int) < (u.length : Int)) with
    | true => rw [hc, cond_true] at h; exact absurd (Prod.mk.inj h).2 (by decide)
    | false => rw [hc, cond_false] at h; exact ⟨u, (Prod.mk.inj h).1.symm, unqV_some.1 hu⟩
theorem signV_ok {r : List UInt8} {t : Tok} {n : Nat} (h : signV r = ((t, 0), n)) : ∃ x, findS r signL = some x ∧ t = ⟨6, x, 0, 0⟩ ∧ n = x.length ∧ x ∈ signL ∧ r.take n = x := by
  unfold signV at h
  cases hf : findS r signL with
  | none => rw [hf] at h; exact absurd (Prod.mk.inj (Prod.mk.inj h).1).2 (by decide)
  | some x =>
    rw [hf] at h
    simp only [Prod.mk.injEq] at h
    obtain ⟨h1, h2⟩ := findS_some hf
    refine ⟨x, rfl, h.1.1.symm, h.2.symm, h1, ?_⟩
    unfold Lib.hasPrefix at h2
    rw [← h.2]
    exact (List.prefix_iff_eq_take.1 (List.isPrefixOf_iff_prefix.1 h2)).symm
theorem b_of {b k : UInt8} (h : decide ((b.toNat : Int) = (k.toNat : Int)) = true) : b = k := by
  rw [decide_eq_true_eq] at h; exact UInt8.toNat_inj.1 (by omega)
theorem allDig_take (l : List UInt8) : allDig (l.take (cntW digI l)) := take_cnt digI l
/-- a token is its own bytes, and is read again from them, whatever separator follows -/
theorem lexL_ok {b : UInt8} {l : List UInt8} {t : Tok} {n : Nat} (h : lexL b l = ((t, 0), n)) :
    1 ≤ n ∧ n ≤ l.length + 1 ∧ t.at_ = 0 ∧ (-9223372036854775808 ≤ t.num ∧ t.num ≤ 9223372036854775807) ∧ b :: l.take (n - 1) = txtV t ∧ ∀ z, Calm z → lexL b (l.take (n - 1) ++ z) = ((t, 0), n) := by
  have hn : (∀ c : UInt8, (sepI c.toNat = true ∨ c = 37) → nameI c.toNat = false) := fun c hc => (calm_cls hc).1
  have hv : (∀ c : UInt8, (sepI c.toNat = true ∨ c = 37) → varI c.toNat = false) := fun c hc => (calm_cls hc).2.1
  have hd : (∀ c : UInt8, (sepI c.toNat = true ∨ c = 37) → digI c.toNat = false) := fun c hc => (calm_cls hc).2.2
  have hz0 : (-9223372036854775808 : Int) ≤ 0 ∧ (0 : Int) ≤ 9223372036854775807 := by decide
  unfold lexL at h ⊢
  cases h1 : lowI b.toNat with
  | true =>
    rw [h1, cond_true] at h
    obtain ⟨ha, rfl⟩ := Prod.mk.inj h
    have ht := wordV_ok ha
    have hc := cntW_le nameI l
    rw [show 1 + cntW nameI l - 1 = cntW nameI l by omega]
    refine ⟨by omega, by omega, by rw [ht], by rw [ht]; exact hz0, by rw [ht]; rfl, fun z hz => ?_⟩
    obtain ⟨e1, e2⟩ := cntW_calm l z hz hn
    rw [cond_true, e1, e2, ha]
  | false =>
  rw [h1, cond_false] at h
  cases h2 : uppI b.toNat with
  | true =>
    rw [h2, cond_true] at h
    obtain ⟨ha, rfl⟩ := Prod.mk.inj h
    have ht := wordV_ok ha
    have hc := cntW_le varI l
    rw [show 1 + cntW varI l - 1 = cntW varI l by omega]
    refine ⟨by omega, by omega, by rw [ht], by rw [ht]; exact hz0, by rw [ht]; rfl, fun z hz => ?_⟩
    obtain ⟨e1, e2⟩ := cntW_calm l z hz hv
    rw [cond_true, cond_false, e1, e2, ha]
  | false =>
  rw [h2, cond_false] at h
  cases h3 : decide ((b.toNat : Int) = 95) with
  | true =>
    rw [h3, cond_true] at h
    obtain ⟨ha, rfl⟩ := Prod.mk.inj h
    have ht := (Prod.mk.inj ha).1
    have hb : b = 95 := b_of (k := 95) h3
    refine ⟨by omega, by omega, by rw [← ht], by rw [← ht]; exact hz0, by rw [← ht, hb]; rfl, fun z hz => ?_⟩
    rw [cond_false, cond_false, cond_true, ha]
  | false =>
  rw [h3, cond_false] at h
  cases h4 : digI b.toNat with
  | true =>
    rw [h4, cond_true] at h
    obtain ⟨ha, rfl⟩ := Prod.mk.inj h
    have hc := cntW_le digI l
    have had : allDig (b :: l.take (cntW digI l)) := fun x hx => by
      rcases List.mem_cons.1 hx with rfl | hx
      · exact h4
      · exact allDig_take l x hx
    obtain ⟨m, e1, e2, e3⟩ := numT_ok (neg := false) had (List.cons_ne_nil _ _) (by rw [ha])
    rw [ha] at e1
    simp only at e1
    rw [show 1 + cntW digI l - 1 = cntW digI l by omega]
    refine ⟨by omega, by omega, by rw [e1], by rw [e1]; exact e3, by rw [e1]; unfold txtV; simp only [cond_false] at e2; exact e2.symm, fun z hz => ?_⟩
    obtain ⟨c1, c2⟩ := cntW_calm l z hz hd
    rw [cond_false, cond_false, cond_false, cond_true, c1, c2, ha]
  | false =>
  rw [h4, cond_false] at h
  cases h5 : decide ((b.toNat : Int) = 45) && headDig l with
  | true =>
    rw [h5, cond_true] at h
    obtain ⟨ha, rfl⟩ := Prod.mk.inj h
    obtain ⟨h51, h52⟩ := Bool.and_eq_true_iff.1 h5
    have hb : b = 45 := b_of (k := 45) h51
    have hc := cntW_le digI l
    have hc1 := cnt_head h52
    have hne : l.take (cntW digI l) ≠ [] := fun e => by
      have := congrArg List.length e
      rw [take_len_cnt, List.length_nil] at this; omega
    obtain ⟨m, e1, e2, e3⟩ := numT_ok (neg := true) (allDig_take l) hne (by rw [ha])
    rw [ha] at e1
    simp only at e1
    rw [show 1 + cntW digI l - 1 = cntW digI l by omega]
    refine ⟨by omega, by omega, by rw [e1], by rw [e1]; exact e3, by rw [e1, hb]; unfold txtV; simp only [cond_true] at e2; exact e2.symm, fun z hz => ?_⟩
    obtain ⟨c1, c2⟩ := cntW_calm l z hz hd
    rw [cond_false, cond_false, cond_false, cond_false, h51, headDig_take1 _ hc1 h52, Bool.and_self, cond_true, c1, c2, ha]
  | false =>
  rw [h5, cond_false] at h
  have h5z : ∀ k z, Calm z → (decide ((b.toNat : Int) = 45) && headDig (l.take k ++ z)) = false := fun k z hz => by
    cases h51 : decide ((b.toNat : Int) = 45) with
    | false => rfl
    | true =>
      rw [h51, Bool.true_and] at h5
      rw [Bool.true_and]; exact headDig_take hz k h5
  cases h6 : decide ((b.toNat : Int) = 34) with
  | true =>
    rw [h6, cond_true] at h
    cases hq : qEnd l with
    | none => rw [hq] at h; exact absurd (Prod.mk.inj (Prod.mk.inj h).1).2 (by decide)
    | some x =>
      rw [hq] at h
      obtain ⟨ha, rfl⟩ := Prod.mk.inj h
      have hx := qEnd_lt' hq
      obtain ⟨u, e1, e2⟩ := qTok_ok ha
      rw [show x + 2 - 1 = x + 1 by omega]
      refine ⟨by omega, by omega, by rw [e1], by rw [e1]; exact hz0, by rw [e1, ← e2]; rfl, fun z hz => ?_⟩
      have hl : (l.take (x + 1)).length = x + 1 := by rw [List.length_take]; omega
      have ht : (l.take (x + 1) ++ z).take (x + 1) = l.take (x + 1) := by
        have := take_app (u := l.take (x + 1)) (z := z)
        rwa [hl] at this
      simp only [h5z _ z hz, qEnd_take _ l (Nat.le_refl _) x hq z, ht, cond_true, cond_false, ha]
  | false =>
  rw [h6, cond_false] at h
  cases h7 : decide ((b.toNat : Int) = 96) with
  | true =>
    rw [h7, cond_true] at h
    have hb : b = 96 := b_of (k := 96) h7
    cases hc : decide (cntW noBq l < l.length) with
    | false => rw [hc, cond_false] at h; exact absurd (Prod.mk.inj (Prod.mk.inj h).1).2 (by decide)
    | true =>
      rw [hc, cond_true] at h
      rw [decide_eq_true_eq] at hc
      obtain ⟨ha, rfl⟩ := Prod.mk.inj h
      have e1 := (Prod.mk.inj ha).1
      have htb := take_bq hc
      rw [show cntW noBq l + 2 - 1 = cntW noBq l + 1 by omega]
      refine ⟨by omega, by omega, by rw [← e1], by rw [← e1]; exact hz0, by rw [← e1, htb, hb]; rfl, fun z hz => ?_⟩
      have hcn : cntW noBq (l.take (cntW noBq l) ++ 96 :: z) = cntW noBq l := by
        have := cntW_app (p := noBq) (u := l.take (cntW noBq l)) (z := 96 :: z) (take_cnt noBq l) (fun c z' e => by cases e; decide)
        rwa [take_len_cnt] at this
      have hl2 : (l.take (cntW noBq l) ++ 96 :: z).take (cntW noBq l) = l.take (cntW noBq l) := by
        have := take_app (u := l.take (cntW noBq l)) (z := 96 :: z)
        rwa [take_len_cnt] at this
      have hlt : cntW noBq l < (l.take (cntW noBq l) ++ 96 :: z).length := by
        rw [List.length_append, take_len_cnt, List.length_cons]; omega
      have h5k := h5z (cntW noBq l + 1) z hz
      rw [htb, List.append_assoc, List.singleton_append] at h5k ⊢
      simp only [h5k, cond_true, cond_false, hcn, hl2, decide_eq_true hlt, ha]
  | false =>
    rw [h7, cond_false] at h
    obtain ⟨x, hf, e1, e2, hx, e3⟩ := signV_ok h
    have hx0 : 1 ≤ x.length := by
      have : ∀ y ∈ signL, 1 ≤ y.length := by decide
      exact this x hx
    have hxl : x.length ≤ l.length + 1 := by
      obtain ⟨_, hp⟩ := findS_some hf
      exact prefix_len hp
    obtain ⟨m, rfl⟩ : ∃ m, n = m + 1 := ⟨n - 1, by omega⟩
    rw [List.take_succ_cons] at e3
    rw [show m + 1 - 1 = m by omega]
    refine ⟨by omega, by omega, by rw [e1], by rw [e1]; exact hz0, by rw [e3, e1]; rfl, fun z hz => ?_⟩
    rw [h5z m z hz]
    simp only [cond_false]
    have : signV (b :: (l.take m ++ z)) = ((t, 0), m + 1) := by
      rw [← List.cons_append, e3]
      unfold signV
      rw [find_calm x z hx hz, e1, e2]
    exact this
end Go.Proofs.YtogponhonjiidaaDoor
set_option linter.unusedSimpArgs false
set_option linter.unusedVariables false
set_option maxRecDepth 20000
set_option maxHeartbeats 16000000
namespace Go.Proofs.YtogponhonjiidaaDoor
open Go Go.Sx
open Nat renaming reduceBEq → zA, reduceBNe → zB, reduceAdd → zC, reduceSub → zD, reduceMul → zE, reduceLeDiff → zF, reduceLT → zG, reduceEqDiff → zH
open Int renaming reduceToNat → zI, reduceLE → zJ, reduceLT → zK, reduceEq → zL
open Bool renaming not_eq_true' → zM, not_eq_false' → zN
def joinV (l : List Tok) : List UInt8 := Lib.join (l.map txtV) [32]
end Go.Proofs.YtogponhonjiidaaDoor
set_option linter.unusedSimpArgs false
set_option linter.unusedVariables false
set_option maxRecDepth 20000
namespace Go.Proofs.YtogponhonjiidaaDoor
open Go Go.Sx
open Nat renaming reduceBEq → zA, reduceBNe → zB, reduceAdd → zC, reduceSub → zD, reduceMul → zE, reduceLeDiff → zF, reduceLT → zG, reduceEqDiff → zH
open Int renaming reduceToNat → zI, reduceLE → zJ, reduceLT → zK, reduceEq → zL
open Bool renaming not_eq_true' → zM, not_eq_false' → zN
/-- a token begins with no separator -/
theorem lexL_head {b : UInt8} {l : List UInt8} {t : Tok} {n : Nat} (h : lexL b l = ((t, 0), n)) : sepI b.toNat = false ∧ decide ((b.toNat : Int) = 37) = false := by
  have no : ∀ c : UInt8, (c = 9 ∨ c = 10 ∨ c = 13 ∨ c = 32 ∨ c = 37) → ∀ l, (lexL c l).1.2 = 5 := by
    rintro c (rfl | rfl | rfl | rfl | rfl) l <;> rfl
  have h5 : ¬ (b = 9 ∨ b = 10 ∨ b = 13 ∨ b = 32 ∨ b = 37) := fun hb => by
    have := no b hb l
    rw [h] at this
    exact absurd (show (0 : Int) = 5 from this) (by decide)
  have e : ∀ k : UInt8, (b.toNat : Int) = (k.toNat : Int) → b = k := fun k hk => UInt8.toNat_inj.1 (by omega)
  constructor
  · cases hs : sepI b.toNat with
    | false => rfl
    | true =>
      exfalso
      unfold sepI at hs
      simp only [Bool.or_eq_true, decide_eq_true_eq] at hs
      rcases hs with hs | hs | hs | hs
      · exact h5 (.inl (e 9 hs))
      · exact h5 (.inr (.inl (e 10 hs)))
      · exact h5 (.inr (.inr (.inl (e 13 hs))))
      · exact h5 (.inr (.inr (.inr (.inl (e 32 hs)))))
  · rw [decide_eq_false_iff_not]
    intro hs
    exact h5 (.inr (.inr (.inr (.inr (e 37 hs)))))
/-- the tokens from k on -/
def Chain (s : List UInt8) : Nat → List Tok → Prop
  | k, [] => s.length ≤ k
  | k, t :: l => ∃ b r n, s.drop k = b :: r ∧ lexL b r = (({ t with at_ := 0 }, 0), n) ∧ t.at_ = (k : Int) ∧ Chain s (skipTo s (k + n)) l
theorem drop_at {s : List UInt8} {k : Nat} {b : UInt8} {r : List UInt8} (h : s.drop k = b :: r) : s[k]? = some b ∧ k < s.length ∧ r.length = s.length - k - 1 := by
  have hl := congrArg List.length h
  rw [List.length_drop, List.length_cons] at hl
  refine ⟨?_, by omega, by omega⟩
  have : (s.drop k)[0]? = some b := by rw [h]; rfl
  rwa [List.getElem?_drop, Nat.add_zero] at this
theorem tok_at0 {t : Tok} (h : t.at_ = 0) (k : Int) : ({ ({ t with at_ := k } : Tok) with at_ := 0 } : Tok) = t := by cases t; simp only at h; subst h; rfl
theorem scan_chain (s : List UInt8) : ∀ (n k : Nat) (acc x : List Tok) (a : Int), s.length < k + n → scanV (quoV s) (encV s) s n k acc = (x, a, 0) → ∃ l, x = acc ++ l ∧ Chain s k l
  | 0, k, acc, x, a, hn, h => ⟨[], by rw [scanV] at h; rw [List.append_nil]; exact (Prod.mk.inj h).1.symm, by show s.length ≤ k; omega⟩
  | n + 1, k, acc, x, a, hn, h => by
    by_cases hk : k < s.length
    · have hd : s.drop k = s[k] :: s.drop (k + 1) := List.drop_eq_getElem_cons hk
      have hb : s[k]? = some s[k] := List.getElem?_eq_getElem hk
      have hx := nextV_lex s k s[k] (s.drop (k + 1)) hd
      obtain ⟨⟨⟨t, e⟩, m⟩, hr⟩ : ∃ r, lexL s[k] (s.drop (k + 1)) = r := ⟨_, rfl⟩
      rw [hr] at hx
      rw [scanV_step _ _ s n k acc hb hx] at h
      cases he : decide (e = 0) with
      | false =>
        rw [he, cond_false] at h
        rw [decide_eq_false_iff_not] at he
        exact absurd (Prod.mk.inj (Prod.mk.inj h).2).2 he
      | true =>
        rw [he, cond_true] at h
        rw [decide_eq_true_eq] at he
        subst he
        obtain ⟨h1, h2, h3, _⟩ := lexL_ok hr
        have hge := skipTo_ge (s := s) (k := k + m)
        obtain ⟨l, e1, e2⟩ := scan_chain s n (skipTo s (k + m)) _ x a (by omega) h
        refine ⟨{ t with at_ := (k : Int) } :: l, by rw [e1, List.append_assoc]; rfl, s[k], s.drop (k + 1), m, hd, ?_, rfl, e2⟩
        rw [tok_at0 h3, hr]
    · refine ⟨[], ?_, by show s.length ≤ k; omega⟩
      rw [scanV_end _ _ s _ _ _ (by omega)] at h
      rw [List.append_nil]; exact (Prod.mk.inj h).1.symm
theorem chain_scan (s : List UInt8) : ∀ (l : List Tok) (n k : Nat) (acc : List Tok), Chain s k l → s.length < k + n → scanV (quoV s) (encV s) s n k acc = (acc ++ l, 0, 0)
  | [], n, k, acc, h, hn => by rw [scanV_end _ _ s _ _ _ h, List.append_nil]
  | t :: l, n, k, acc, h, hn => by
    obtain ⟨b, r, m, hd, hr, hat, hc⟩ := h
    obtain ⟨hb, hk, hrl⟩ := drop_at hd
    obtain ⟨n, rfl⟩ : ∃ j, n = j + 1 := ⟨n - 1, by omega⟩
    have hx := nextV_lex s k b r hd
    rw [hr] at hx
    obtain ⟨h1, h2, h3, _⟩ := lexL_ok hr
    have hge := skipTo_ge (s := s) (k := k + m)
    rw [scanV_step _ _ s n k acc hb hx, decide_eq_true rfl, cond_true, chain_scan s l n _ _ hc (by omega), List.append_assoc]
    have : ({ ({ t with at_ := 0 } : Tok) with at_ := (k : Int) } : Tok) = t := by rw [← hat]
    rw [this]; rfl
theorem scanR_ok {s : List UInt8} (h : (scanR s).2.2 = 0) : s.length ≤ 4000 ∧ Chain s (skipTo s 0) (scanR s).1 := by
  by_cases hl : s.length ≤ 4000
  · refine ⟨hl, ?_⟩
    rw [scan_short s hl] at h ⊢
    obtain ⟨⟨x, a, e⟩, hr⟩ : ∃ r, scanV (quoV s) (encV s) s (s.length + 1) (skipTo s 0) [] = r := ⟨_, rfl⟩
    rw [hr] at h ⊢
    simp only at h
    subst h
    obtain ⟨l, e1, e2⟩ := scan_chain s _ _ _ _ _ (by omega) hr
    simp only [e1, List.nil_append]; exact e2
  · rw [scan_long s (by omega)] at h
    exact absurd h (by decide)
theorem scanR_of {s : List UInt8} {l : List Tok} (hl : s.length ≤ 4000) (h : Chain s (skipTo s 0) l) : scanR s = (l, 0, 0) := by
  rw [scan_short s hl, chain_scan s l _ _ [] h (by omega), List.nil_append]
theorem txt_at (t : Tok) : txtV { t with at_ := 0 } = txtV t := rfl
/-- the tokens of texts with spaces between them -/
def spT (l : List Tok) : List UInt8 := l.flatMap fun t => 32 :: txtV t
theorem spT_cons (t : Tok) (l : List Tok) : spT (t :: l) = 32 :: (txtV t ++ spT l) := rfl
theorem joinV_cons (t : Tok) (l : List Tok) : joinV (t :: l) = txtV t ++ spT l := by
  unfold joinV spT
  rw [List.map_cons, Lib.join_cons]
  congr 1
  induction l with
  | nil => rfl
  | cons u l ih => rw [List.map_cons, List.flatMap_cons, ← ih]; unfold Lib.joinTail; simp
theorem wordV_len {kind : Int} {x : List UInt8} {t : Tok} (h : wordV kind x = (t, 0)) : t.text.length ≤ 16 := by
  have ht := wordV_ok h
  unfold wordV at h
  cases hc : decide ((16 : Int) < (x.length : Int)) with
  | true => rw [hc, cond_true] at h; exact absurd (Prod.mk.inj h).2 (by decide)
  | false =>
    rw [decide_eq_false_iff_not] at hc
    rw [ht]; simp only; omega
theorem qTok_len {x : List UInt8} {t : Tok} (h : qTok x = (t, 0)) : t.text.length ≤ 64 := by
  unfold qTok at h
  cases hu : unqV x with
  | none => rw [hu] at h; exact absurd (Prod.mk.inj h).2 (by decide)
  | some u =>
    rw [hu] at h
    simp only at h
    cases hc : decide ((64 : Int) < (u.length : Int)) with
    | true => rw [hc, cond_true] at h; exact absurd (Prod.mk.inj h).2 (by decide)
    | false =>
      rw [hc, cond_false] at h
      rw [decide_eq_false_iff_not] at hc
      rw [← (Prod.mk.inj h).1]; simp only; omega
theorem numT_text (neg : Bool) (d : List UInt8) : (numT neg d).1.text = [] := by
  unfold numT
  cases decide ((numM neg d).2 = 0) <;> rfl
theorem lexL_text {b : UInt8} {l : List UInt8} {t : Tok} {n : Nat} (h : lexL b l = ((t, 0), n)) : t.text.length ≤ l.length + 100 := by
  unfold lexL at h
  cases h1 : lowI b.toNat with
  | true => rw [h1, cond_true] at h; have := wordV_len (Prod.mk.inj h).1; omega
  | false =>
  rw [h1, cond_false] at h
  cases h2 : uppI b.toNat with
  | true => rw [h2, cond_true] at h; have := wordV_len (Prod.mk.inj h).1; omega
  | false =>
  rw [h2, cond_false] at h
  cases h3 : decide ((b.toNat : Int) = 95) with
  | true =>
    rw [h3, cond_true] at h
    rw [← (Prod.mk.inj (Prod.mk.inj h).1).1]; simp only [List.length_cons, List.length_nil]; omega
  | false =>
  rw [h3, cond_false] at h
  cases h4 : digI b.toNat with
  | true =>
    rw [h4, cond_true] at h
    have := numT_text false (b :: l.take (cntW digI l))
    rw [(Prod.mk.inj h).1] at this
    simp only at this
    rw [this]; simp
  | false =>
  rw [h4, cond_false] at h
  cases h5 : decide ((b.toNat : Int) = 45) && headDig l with
  | true =>
    rw [h5, cond_true] at h
    have := numT_text true (l.take (cntW digI l))
    rw [(Prod.mk.inj h).1] at this
    simp only at this
    rw [this]; simp
  | false =>
  rw [h5, cond_false] at h
  cases h6 : decide ((b.toNat : Int) = 34) with
  | true =>
    rw [h6, cond_true] at h
    cases hq : qEnd l with
    | none => rw [hq] at h; exact absurd (Prod.mk.inj (Prod.mk.inj h).1).2 (by decide)
    | some x =>
      rw [hq] at h
      have := qTok_len (Prod.mk.inj h).1; omega
  | false =>
  rw [h6, cond_false] at h
  cases h7 : decide ((b.toNat : Int) = 96) with
  | true =>
    rw [h7, cond_true] at h
    cases hc : decide (cntW noBq l < l.length) with
    | false => rw [hc, cond_false] at h; exact absurd (Prod.mk.inj (Prod.mk.inj h).1).2 (by decide)
    | true =>
      rw [hc, cond_true] at h
      rw [← (Prod.mk.inj (Prod.mk.inj h).1).1]; simp only [List.length_take]; omega
  | false =>
    rw [h7, cond_false] at h
    obtain ⟨x, hf, e1, e2, hx, e3⟩ := signV_ok h
    have : ∀ y ∈ signL, y.length ≤ 2 := by decide
    have := this x hx
    rw [e1]; simp only; omega
/-- the tokens of a text: how many, how long -/
theorem chain_bd (s : List UInt8) (hs : s.length ≤ 4000) : ∀ (l : List Tok) (k : Nat), k ≤ s.length → Chain s k l → (∀ t ∈ l, TokOk t) ∧ (spT l).length + 2 * k ≤ 2 * s.length ∧ l.length + k ≤ s.length
  | [], k, hk, h => ⟨fun t ht => (by cases ht), by show ([] : List UInt8).length + _ ≤ _; simp only [List.length_nil]; omega, by simp only [List.length_nil]; omega⟩
  | t :: l, k, hk, h => by
    obtain ⟨b, r, n, hd, hr, hat, hc⟩ := h
    obtain ⟨hb, hlt, hrl⟩ := drop_at hd
    obtain ⟨h1, h2, h3, h4, h5, h6⟩ := lexL_ok hr
    have htx := lexL_text hr
    simp only at htx
    rw [txt_at] at h5
    have hn : (txtV t).length = n := by rw [← h5, List.length_cons, List.length_take]; omega
    have hge := skipTo_ge (s := s) (k := k + n)
    obtain ⟨i1, i2, i3⟩ := chain_bd s hs l _ (skipTo_le (by omega)) hc
    refine ⟨fun u hu => ?_, ?_, ?_⟩
    · rcases List.mem_cons.1 hu with rfl | hu
      · exact ⟨h4.1, h4.2, by omega⟩
      · exact i1 u hu
    · rw [spT_cons, List.length_cons, List.length_append, hn]; omega
    · rw [List.length_cons]; omega
theorem tok_facts (x : List UInt8) (h : (scanR x).2.2 = 0) : (∀ t ∈ (scanR x).1, TokOk t) ∧ (scanR x).1.length ≤ 10000 ∧ (joinV (scanR x).1).length ≤ 8000 := by
  obtain ⟨h1, h2⟩ := scanR_ok h
  obtain ⟨i1, i2, i3⟩ := chain_bd x h1 _ _ (skipTo_le (Nat.zero_le _)) h2
  refine ⟨i1, by omega, ?_⟩
  generalize (scanR x).1 = l at i2
  cases l with
  | nil => show ([] : List UInt8).length ≤ _; simp
  | cons t l =>
    rw [joinV_cons]
    rw [spT_cons, List.length_cons] at i2; omega
/-- what is skipped is skipped again alone -/
theorem skipL_take : ∀ (n : Nat) (w : List UInt8), w.length ≤ n → skipL (w.take (skipL w)) = skipL w
  | n, [], _ => by simp [skipL]
  | 0, b :: w, h => by simp at h
  | n + 1, b :: w, h => by
    have hn : w.length ≤ n := by simpa using h
    cases hs : sepI b.toNat with
    | true =>
      have e : skipL (b :: w) = 1 + skipL w := by rw [skipL, hs, cond_true]
      rw [e, Nat.add_comm, List.take_succ_cons, skipL, hs, cond_true, skipL_take n w hn]; omega
    | false =>
      cases hc : decide ((b.toNat : Int) = 37) with
      | false =>
        have e : skipL (b :: w) = 0 := skipL_non hs hc
        rw [e, List.take_zero, skipL]
      | true =>
        have e : skipL (b :: w) = 1 + cntW noLf w + skipL (w.drop (cntW noLf w)) := by rw [skipL, hs, hc, cond_false, cond_true]
        have hcl := cntW_le noLf w
        have ih := skipL_take n (w.drop (cntW noLf w)) (by rw [List.length_drop]; omega)
        have et : w.take (cntW noLf w + skipL (w.drop (cntW noLf w))) = w.take (cntW noLf w) ++ (w.drop (cntW noLf w)).take (skipL (w.drop (cntW noLf w))) := by
          rw [List.take_add]
        have hcn : cntW noLf (w.take (cntW noLf w) ++ (w.drop (cntW noLf w)).take (skipL (w.drop (cntW noLf w)))) = cntW noLf w := by
          have := cntW_app (p := noLf) (u := w.take (cntW noLf w)) (z := (w.drop (cntW noLf w)).take (skipL (w.drop (cntW noLf w)))) (take_cnt noLf w) (fun c z' e2 => by
            by_cases hlt : cntW noLf w < w.length
            · obtain ⟨y, hy, hp⟩ := cnt_stop hlt
              have hd : w.drop (cntW noLf w) = y :: w.drop (cntW noLf w + 1) := by
                rw [List.drop_eq_getElem_cons hlt, (List.getElem?_eq_some_iff.1 hy).2]
              rw [hd] at e2
              cases hk : skipL (y :: w.drop (cntW noLf w + 1)) with
              | zero => rw [hk, List.take_zero] at e2; cases e2
              | succ k => rw [hk, List.take_succ_cons] at e2; cases e2; exact hp
            · rw [List.drop_eq_nil_of_le (by omega), List.take_nil] at e2; cases e2)
          rwa [take_len_cnt] at this
        have hdr : (w.take (cntW noLf w) ++ (w.drop (cntW noLf w)).take (skipL (w.drop (cntW noLf w)))).drop (cntW noLf w) = (w.drop (cntW noLf w)).take (skipL (w.drop (cntW noLf w))) := by
          have := List.drop_left (l₁ := w.take (cntW noLf w)) (l₂ := (w.drop (cntW noLf w)).take (skipL (w.drop (cntW noLf w))))
          rwa [take_len_cnt] at this
        rw [e, show 1 + cntW noLf w + skipL (w.drop (cntW noLf w)) = cntW noLf w + skipL (w.drop (cntW noLf w)) + 1 by omega, List.take_succ_cons, et, skipL, hs, hc, cond_false, cond_true, hcn, hdr, ih]; omega
theorem skip_calm (w : List UInt8) : Calm (w.take (skipL w)) := by
  intro c z' e
  cases w with
  | nil => rw [List.take_nil] at e; cases e
  | cons b w =>
    cases hs : sepI b.toNat with
    | true =>
      rw [skipL, hs, cond_true, Nat.add_comm, List.take_succ_cons] at e
      cases e; exact .inl hs
    | false =>
      cases hc : decide ((b.toNat : Int) = 37) with
      | false => rw [skipL_non hs hc, List.take_zero] at e; cases e
      | true =>
        have hb : b = 37 := b_of (k := 37) hc
        cases hk : skipL (b :: w) with
        | zero => rw [hk, List.take_zero] at e; cases e
        | succ k => rw [hk, List.take_succ_cons] at e; cases e; exact .inr hb
/-- a token with what is skipped behind it, alone -/
theorem one_span {b : UInt8} {r : List UInt8} {t : Tok} {n : Nat} (hr : lexL b r = ((t, 0), n)) (hl : r.length < 4000) :
    scanR (b :: (r.take (n - 1) ++ (r.drop (n - 1)).take (skipL (r.drop (n - 1))))) = ([t], 0, 0) := by
  obtain ⟨h1, h2, h3, h4, h5, h6⟩ := lexL_ok hr
  obtain ⟨g1, g2⟩ := lexL_head hr
  have hz := h6 _ (skip_calm (r.drop (n - 1)))
  have hsk := skipL_take _ (r.drop (n - 1)) (Nat.le_refl _)
  have hle := skipL_le (r.drop (n - 1))
  generalize hzz : (r.drop (n - 1)).take (skipL (r.drop (n - 1))) = z at hz hsk
  have hzl : z.length = skipL (r.drop (n - 1)) := by rw [← hzz, List.length_take]; omega
  have htl : (r.take (n - 1)).length = n - 1 := by rw [List.length_take]; omega
  rw [List.length_drop] at hle
  have h0 : skipTo (b :: (r.take (n - 1) ++ z)) 0 = 0 := by unfold skipTo; rw [List.drop_zero, skipL_non g1 g2]
  refine scanR_of (l := [t]) ?_ ?_
  · rw [List.length_cons, List.length_append, htl, hzl]; omega
  · rw [h0]
    refine ⟨b, r.take (n - 1) ++ z, n, rfl, ?_, h3, ?_⟩
    · have : ({ t with at_ := 0 } : Tok) = t := by cases t; simp only at h3; subst h3; rfl
      rw [this]; exact hz
    · show (b :: (r.take (n - 1) ++ z)).length ≤ _
      unfold skipTo
      have hd : (b :: (r.take (n - 1) ++ z)).drop (0 + n) = z := by
        obtain ⟨m, rfl⟩ : ∃ m, n = m + 1 := ⟨n - 1, by omega⟩
        rw [Nat.zero_add, List.drop_succ_cons]
        have := List.drop_left (l₁ := r.take (m + 1 - 1)) (l₂ := z)
        rwa [htl] at this
      rw [hd, hsk, List.length_cons, List.length_append, htl, hzl]; omega
def endT (s : List UInt8) (l : List Tok) (i : Nat) : Nat := match l[i + 1]? with
  | some u => u.at_.toNat
  | none => s.length
theorem chain_span (s : List UInt8) (hs : s.length ≤ 4000) : ∀ (l : List Tok) (k : Nat), k ≤ s.length → Chain s k l → ∀ i t, l[i]? = some t →
    0 ≤ t.at_ ∧ t.at_.toNat < endT s l i ∧ endT s l i ≤ s.length ∧ scanR ((s.take (endT s l i)).drop t.at_.toNat) = ([{ t with at_ := 0 }], 0, 0)
  | [], k, hk, h, i, t, ht => by cases ht
  | u :: l, k, hk, h, i, t, ht => by
    obtain ⟨b, r, n, hd, hr, hat, hc⟩ := h
    obtain ⟨hb, hlt, hrl⟩ := drop_at hd
    obtain ⟨h1, h2, h3, h4, h5, h6⟩ := lexL_ok hr
    have hge := skipTo_ge (s := s) (k := k + n)
    have hle := skipTo_le (s := s) (k := k + n) (by omega)
    cases i with
    | zero =>
      cases ht
      have he : endT s (u :: l) 0 = skipTo s (k + n) := by
        unfold endT
        cases l with
        | nil =>
          have : s.length ≤ skipTo s (k + n) := hc
          simp only [List.getElem?_cons_succ, List.getElem?_nil]; omega
        | cons v l =>
          obtain ⟨_, _, _, _, _, hv, _⟩ := hc
          simp only [List.getElem?_cons_succ, List.getElem?_cons_zero]
          rw [hv, Int.toNat_natCast]
      rw [he, hat, Int.toNat_natCast]
      refine ⟨by omega, by omega, hle, ?_⟩
      have hdn : s.drop (k + n) = r.drop (n - 1) := by
        rw [← List.drop_drop, hd]
        obtain ⟨m, rfl⟩ : ∃ m, n = m + 1 := ⟨n - 1, by omega⟩
        rfl
      have hkk : skipTo s (k + n) - k = (n - 1 + skipL (r.drop (n - 1))) + 1 := by unfold skipTo; rw [hdn]; omega
      have e : (s.take (skipTo s (k + n))).drop k = b :: (r.take (n - 1) ++ (r.drop (n - 1)).take (skipL (r.drop (n - 1)))) := by
        rw [List.drop_take, hd, hkk, List.take_succ_cons, List.take_add]
      rw [e]
      exact one_span hr (by omega)
    | succ i =>
      have := chain_span s hs l _ hle hc i t ht
      have e : endT s (u :: l) (i + 1) = endT s l i := by unfold endT; rw [List.getElem?_cons_succ]
      rw [e]; exact this
theorem span_scan (s : List UInt8) (h : (scanR s).2.2 = 0) (i : Nat) (t : Tok) (ht : (scanR s).1[i]? = some t) :
    0 ≤ t.at_ ∧ t.at_.toNat < endT s (scanR s).1 i ∧ endT s (scanR s).1 i ≤ s.length ∧ scanR ((s.take (endT s (scanR s).1 i)).drop t.at_.toNat) = ([{ t with at_ := 0 }], 0, 0) := by
  obtain ⟨h1, h2⟩ := scanR_ok h
  exact chain_span s h1 _ _ (skipTo_le (Nat.zero_le _)) h2 i t ht
end Go.Proofs.YtogponhonjiidaaDoor
set_option linter.unusedSimpArgs false
set_option linter.unusedVariables false
set_option maxRecDepth 20000
set_option maxHeartbeats 16000000
namespace Go.Proofs.YtogponhonjiidaaDoor
open Go Go.Sx
open Nat renaming reduceBEq → zA, reduceBNe → zB, reduceAdd → zC, reduceSub → zD, reduceMul → zE, reduceLeDiff → zF, reduceLT → zG, reduceEqDiff → zH
open Int renaming reduceToNat → zI, reduceLE → zJ, reduceLT → zK, reduceEq → zL
open Bool renaming not_eq_true' → zM, not_eq_false' → zN
theorem tokenSpans_c (l : List Int) (hl : l.length ≤ 9223372036854775807) (h : InI l) (at_ how : Int) (c : UInt8) (n : List Int) : PC Tryd.prog 4 [.one (.dat (.sl 1 (l.map encZ))), I .i64 at_, I .i64 how, .one (.dat (.int .u8 (c.toNat : Int))), .one (.dat (.sl 1 (n.map encI)))] (Bo true) := by
  have htl := textV_len l h
  have hsp := spoilV_len (textV l) at_ how c
  have hm := made_c l hl h at_ how c
  obtain ⟨s2, hs2, hp⟩ := pieces_c n
  have haw := awake_c
  generalize spoilV (textV l) at_ how c = s1 at hsp hm
  refine PCB.of_body Tryd.func4 rfl (by decide) Tryd.ntmps4 Tryd.results4 rfl rfl rfl ?_ rfl rfl
  repeat' (first | (simp only [go_sem, zA, zB, zC, zD, zE, zF, zG, reduceCtorEq, zH, zI, zJ, zK, zL, List.length_map, List.length_cons, List.length_nil]; all_goals fail_if_success guard_target =ₛ False) | (with_reducible first | ((first | refine seqVC_stepN rfl ?_ | refine seqVC_stepG rfl (by with_unfolding_all rfl) ?_ | refine AWP.seq ?_ | refine AWP.seqR (by kernel_rfl) ?_ | refine parVC_stepN rfl ?_ | refine parVC_stepG rfl (by with_unfolding_all rfl) ?_ | refine parEVC_stepN rfl ?_ | refine parEVC_stepG rfl (by with_unfolding_all rfl) ?_ | refine genVC_stepN rfl ?_ | refine genVC_stepG rfl (by with_unfolding_all rfl) ?_); intro K hK) | ((first | refine hK _ _ _ ?_ | refine hK _ _ ?_ | refine hK _ ?_); clear hK K) | refine seqVC_nil ?_ | refine parVC_nil ?_ | refine parEVC_nil ?_ | refine genVC_nil ?_ | refine AWP.block ?_ | (refine AWP.cond (by with_unfolding_all rfl) ?_ ?_ <;> intro h <;> (try simp only [zM, zN] at h) <;> try exact absurd h (by decide)) | refine AWP.skip ?_ | refine AWP.ret ?_ | refine AWP.exit ?_ | (refine ⟨fun h => ?_, fun h => ?_⟩ <;> (try simp only [zM, zN] at h) <;> try simp only [h]) | refine ⟨_, hm, ?_⟩ | refine ⟨_, hp, ?_⟩ | refine AWP.parR mixed (by kernel_rfl) fun K hK => ?_ | refine ⟨(by kernel_rfl : depB _ _ _ = true), ?_⟩ | refine Or.inl ?_) | (clear hK K))
  refine AWP.len 29 rfl fun hlen0 => ?_
  (try rw [List.length_map] at hlen0)
  refine AWP.range (S := Unit) ([s1, s2]) encStr (fun k u => (31, I .i64 (k : Nat)) :: []) (fun k u => []) [29, 30] [] (fun k u => True) (()) (by simp only [go_sem, zA, zB, zC, zD, zE, zF, zG, reduceCtorEq, zH, zI, zJ, zK, zL]; exact Gh.to [] (by repeat (first | exact trivial | refine ⟨rfl, ?_⟩ | refine ⟨by (simp only [go_sem, zA, zB, zC, zD, zE, zF, zG, reduceCtorEq, zH, zI, zJ, zK, zL, List.length_append, List.length_map, List.length_cons, List.length_nil, Nat.zero_add]) <;> rfl, ?_⟩)) (by repeat (first | exact trivial | refine ⟨rfl, ?_⟩ | refine ⟨by (simp only [go_sem, zA, zB, zC, zD, zE, zF, zG, reduceCtorEq, zH, zI, zJ, zK, zL, List.length_append, List.length_map, List.length_cons, List.length_nil, Nat.zero_add]) <;> rfl, ?_⟩)) rfl rfl rfl) ?_ ?_ ?_
  · trivial
  · intro k u x hlt hx hx' hbb hok
    simp only [go_sem, zA, zB, zC, zD, zE, zF, zG, reduceCtorEq, zH, zI, zJ, zK, zL]
    have hxl : x.length ≤ 300000 := by
      have hmem := List.mem_of_getElem? hx
      simp only [List.mem_cons, List.not_mem_nil, or_false] at hmem
      rcases hmem with rfl | rfl <;> omega
    have h1 := pscan_c x (by omega)
    have hk2 : k < 2 := hlt
    have hb2 : decide ((k : Int) < 2) = true := by rw [decide_eq_true_eq]; omega
    have hx2 : [[C.str s1], [C.str s2]][k]? = some [C.str x] := hx'
    cases hc : decide ((scanR x).2.2 = 0) with
    | false =>
      repeat' (first | (simp only [go_sem, zA, zB, zC, zD, zE, zF, zG, reduceCtorEq, zH, zI, zJ, zK, zL, List.length_map, hb2, hc]; all_goals fail_if_success guard_target =ₛ False) | (with_reducible first | ((first | refine seqVC_stepN rfl ?_ | refine seqVC_stepG rfl (by with_unfolding_all rfl) ?_ | refine AWP.seq ?_ | refine AWP.seqR (by kernel_rfl) ?_ | refine parVC_stepN rfl ?_ | refine parVC_stepG rfl (by with_unfolding_all rfl) ?_ | refine parEVC_stepN rfl ?_ | refine parEVC_stepG rfl (by with_unfolding_all rfl) ?_ | refine genVC_stepN rfl ?_ | refine genVC_stepG rfl (by with_unfolding_all rfl) ?_); intro K hK) | ((first | refine hK _ _ _ ?_ | refine hK _ _ ?_ | refine hK _ ?_); clear hK K) | refine seqVC_nil ?_ | refine parVC_nil ?_ | refine parEVC_nil ?_ | refine genVC_nil ?_ | refine AWP.block ?_ | (refine AWP.cond (by with_unfolding_all rfl) ?_ ?_ <;> intro h <;> (try simp only [zM, zN] at h) <;> try exact absurd h (by decide)) | refine AWP.skip ?_ | refine AWP.ret ?_ | refine AWP.exit ?_ | (refine ⟨fun h => ?_, fun h => ?_⟩ <;> (try simp only [zM, zN] at h) <;> try simp only [h]) | refine ⟨_, h1, ?_⟩) | ( refine ⟨by omega, [C.str x], hx2, ?_⟩) | ( refine ⟨[C.str x], hx2, ?_⟩) | (with_reducible first | refine AWP.parR mixed (by kernel_rfl) fun K hK => ?_ | refine ⟨(by kernel_rfl : depB _ _ _ = true), ?_⟩ | refine Or.inl ?_) | (clear hK K))
      all_goals (rw [wrap_succ hlt hlen0])
      all_goals first | exact ⟨(), trivial, Gh.to [] (by repeat (first | exact trivial | refine ⟨rfl, ?_⟩ | refine ⟨by (simp only [go_sem, zA, zB, zC, zD, zE, zF, zG, reduceCtorEq, zH, zI, zJ, zK, zL, List.length_append, List.length_map, List.length_cons, List.length_nil, Nat.zero_add]) <;> rfl, ?_⟩)) (by repeat (first | exact trivial | refine ⟨rfl, ?_⟩ | refine ⟨by (simp only [go_sem, zA, zB, zC, zD, zE, zF, zG, reduceCtorEq, zH, zI, zJ, zK, zL, List.length_append, List.length_map, List.length_cons, List.length_nil, Nat.zero_add]) <;> rfl, ?_⟩)) rfl rfl rfl⟩ | exact ⟨(), Gh.to [] (by repeat (first | exact trivial | refine ⟨rfl, ?_⟩ | refine ⟨by (simp only [go_sem, zA, zB, zC, zD, zE, zF, zG, reduceCtorEq, zH, zI, zJ, zK, zL, List.length_append, List.length_map, List.length_cons, List.length_nil, Nat.zero_add]) <;> rfl, ?_⟩)) (by repeat (first | exact trivial | refine ⟨rfl, ?_⟩ | refine ⟨by (simp only [go_sem, zA, zB, zC, zD, zE, zF, zG, reduceCtorEq, zH, zI, zJ, zK, zL, List.length_append, List.length_map, List.length_cons, List.length_nil, Nat.zero_add]) <;> rfl, ?_⟩)) rfl rfl rfl⟩ | exact Gh.to [] (by repeat (first | exact trivial | refine ⟨rfl, ?_⟩ | refine ⟨by (simp only [go_sem, zA, zB, zC, zD, zE, zF, zG, reduceCtorEq, zH, zI, zJ, zK, zL, List.length_append, List.length_map, List.length_cons, List.length_nil, Nat.zero_add]) <;> rfl, ?_⟩)) (by repeat (first | exact trivial | refine ⟨rfl, ?_⟩ | refine ⟨by (simp only [go_sem, zA, zB, zC, zD, zE, zF, zG, reduceCtorEq, zH, zI, zJ, zK, zL, List.length_append, List.length_map, List.length_cons, List.length_nil, Nat.zero_add]) <;> rfl, ?_⟩)) rfl rfl rfl
    | true =>
      have hc0 : (scanR x).2.2 = 0 := by simpa using hc
      have hspan := span_scan x hc0
      obtain ⟨f1, f2, f3⟩ := tok_facts x hc0
      repeat' (first | (simp only [go_sem, zA, zB, zC, zD, zE, zF, zG, reduceCtorEq, zH, zI, zJ, zK, zL, List.length_map, hb2, hc]; all_goals fail_if_success guard_target =ₛ False) | (with_reducible first | ((first | refine seqVC_stepN rfl ?_ | refine seqVC_stepG rfl (by with_unfolding_all rfl) ?_ | refine AWP.seq ?_ | refine AWP.seqR (by kernel_rfl) ?_ | refine parVC_stepN rfl ?_ | refine parVC_stepG rfl (by with_unfolding_all rfl) ?_ | refine parEVC_stepN rfl ?_ | refine parEVC_stepG rfl (by with_unfolding_all rfl) ?_ | refine genVC_stepN rfl ?_ | refine genVC_stepG rfl (by with_unfolding_all rfl) ?_); intro K hK) | ((first | refine hK _ _ _ ?_ | refine hK _ _ ?_ | refine hK _ ?_); clear hK K) | refine seqVC_nil ?_ | refine parVC_nil ?_ | refine parEVC_nil ?_ | refine genVC_nil ?_ | refine AWP.block ?_ | (refine AWP.cond (by with_unfolding_all rfl) ?_ ?_ <;> intro h <;> (try simp only [zM, zN] at h) <;> try exact absurd h (by decide)) | refine AWP.skip ?_ | refine AWP.ret ?_ | refine AWP.exit ?_ | (refine ⟨fun h => ?_, fun h => ?_⟩ <;> (try simp only [zM, zN] at h) <;> try simp only [h]) | refine ⟨_, h1, ?_⟩) | ( refine ⟨by omega, [C.str x], hx2, ?_⟩) | ( refine ⟨[C.str x], hx2, ?_⟩) | (with_reducible first | refine AWP.parR mixed (by kernel_rfl) fun K hK => ?_ | refine ⟨(by kernel_rfl : depB _ _ _ = true), ?_⟩ | refine Or.inl ?_) | (clear hK K))
      generalize hL : (scanR x).1 = L at *
      refine AWP.len 43 rfl fun hlen1 => ?_
      (try rw [List.length_map] at hlen1)
      refine AWP.range (S := Unit) (L) encTok (fun k u => (45, I .i64 (k : Nat)) :: []) (fun k u => []) [12, 13, 29, 30, 31, 43, 44] [] (fun k u => True) (()) (by simp only [go_sem, zA, zB, zC, zD, zE, zF, zG, reduceCtorEq, zH, zI, zJ, zK, zL]; exact Gh.to [] (by repeat (first | exact trivial | refine ⟨rfl, ?_⟩ | refine ⟨by (simp only [go_sem, zA, zB, zC, zD, zE, zF, zG, reduceCtorEq, zH, zI, zJ, zK, zL, List.length_append, List.length_map, List.length_cons, List.length_nil, Nat.zero_add]) <;> rfl, ?_⟩)) (by repeat (first | exact trivial | refine ⟨rfl, ?_⟩ | refine ⟨by (simp only [go_sem, zA, zB, zC, zD, zE, zF, zG, reduceCtorEq, zH, zI, zJ, zK, zL, List.length_append, List.length_map, List.length_cons, List.length_nil, Nat.zero_add]) <;> rfl, ?_⟩)) rfl rfl rfl) ?_ ?_ ?_
      · trivial
      · intro i u t ilt hti hti' hbi hoi
        simp only [go_sem, zA, zB, zC, zD, zE, zF, zG, reduceCtorEq, zH, zI, zJ, zK, zL]
        obtain ⟨a0, a1, a2, a3⟩ := hspan i t hti
        obtain ⟨kd, tx, nm, ta⟩ := t
        simp only at a0 a1 a2 a3
        obtain ⟨a, rfl⟩ : ∃ a : Nat, ta = (a : Int) := ⟨ta.toNat, by omega⟩
        rw [Int.toNat_natCast] at a1 a3
        have hwi : IntKind.i64.wrap ((i : Int) + 1) = ((i + 1 : Nat) : Int) := by rw [wrapI _ (by omega) (by omega)]; rfl
        have hneg : decide ((a : Int) < 0) = false := by rw [decide_eq_false_iff_not]; omega
        obtain ⟨E, hE⟩ : ∃ E, endT x L i = E := ⟨_, rfl⟩
        have hE' := hE
        rw [hE] at a1 a2 a3
        have hge : decide ((E : Int) ≤ (a : Int)) = false := by rw [decide_eq_false_iff_not]; omega
        have h3 := pscan_c ((x.take E).drop a) (by rw [List.length_drop, List.length_take]; omega)
        rw [a3] at h3
        by_cases hnx : i + 1 < L.length
        · obtain ⟨v, hv⟩ : ∃ v, L[i + 1]? = some v := ⟨L[i + 1], List.getElem?_eq_getElem hnx⟩
          have hv' : (L.map encTok)[i + 1]? = some (encTok v) := by rw [List.getElem?_map, hv]; rfl
          have hv0 := (hspan (i + 1) v hv).1
          have hva : v.at_ = (E : Int) := by unfold endT at hE; rw [hv] at hE; simp only at hE; omega
          have hdn : decide (((i + 1 : Nat) : Int) < (L.length : Int)) = true := by rw [decide_eq_true_eq]; omega
          obtain ⟨k2, t2, n2, v2⟩ := v
          simp only at hva
          subst hva
          repeat' (first | (simp only [go_sem, zA, zB, zC, zD, zE, zF, zG, reduceCtorEq, zH, zI, zJ, zK, zL, List.length_map, List.length_cons, List.length_nil, hbi, hwi, hneg, hge, hdn, encTok, Int.toNat_natCast]; all_goals fail_if_success guard_target =ₛ False) | (with_reducible first | ((first | refine seqVC_stepN rfl ?_ | refine seqVC_stepG rfl (by with_unfolding_all rfl) ?_ | refine AWP.seq ?_ | refine AWP.seqR (by kernel_rfl) ?_ | refine parVC_stepN rfl ?_ | refine parVC_stepG rfl (by with_unfolding_all rfl) ?_ | refine parEVC_stepN rfl ?_ | refine parEVC_stepG rfl (by with_unfolding_all rfl) ?_ | refine genVC_stepN rfl ?_ | refine genVC_stepG rfl (by with_unfolding_all rfl) ?_); intro K hK) | ((first | refine hK _ _ _ ?_ | refine hK _ _ ?_ | refine hK _ ?_); clear hK K) | refine seqVC_nil ?_ | refine parVC_nil ?_ | refine parEVC_nil ?_ | refine genVC_nil ?_ | refine AWP.block ?_ | (refine AWP.cond (by with_unfolding_all rfl) ?_ ?_ <;> intro h <;> (try simp only [zM, zN] at h) <;> try exact absurd h (by decide)) | refine AWP.skip ?_ | refine AWP.ret ?_ | refine AWP.exit ?_ | (refine ⟨fun h => ?_, fun h => ?_⟩ <;> (try simp only [zM, zN] at h) <;> try simp only [h]) | refine ⟨_, h3, ?_⟩ | refine ⟨by omega, _, hti', ?_⟩ | refine ⟨_, hti', ?_⟩ | refine ⟨by omega, _, hv', ?_⟩ | refine ⟨_, hv', ?_⟩ | refine ⟨by omega, by omega, by omega, ?_⟩ | refine ⟨by omega, by omega, ?_⟩ | refine AWP.parR mixed (by kernel_rfl) fun K hK => ?_ | refine ⟨(by kernel_rfl : depB _ _ _ = true), ?_⟩ | refine Or.inl ?_) | (clear hK K))
          all_goals first | exact ⟨(), trivial, Gh.to [] (by repeat (first | exact trivial | refine ⟨rfl, ?_⟩ | refine ⟨by (simp only [go_sem, zA, zB, zC, zD, zE, zF, zG, reduceCtorEq, zH, zI, zJ, zK, zL, List.length_append, List.length_map, List.length_cons, List.length_nil, Nat.zero_add]) <;> rfl, ?_⟩)) (by repeat (first | exact trivial | refine ⟨rfl, ?_⟩ | refine ⟨by (simp only [go_sem, zA, zB, zC, zD, zE, zF, zG, reduceCtorEq, zH, zI, zJ, zK, zL, List.length_append, List.length_map, List.length_cons, List.length_nil, Nat.zero_add]) <;> rfl, ?_⟩)) rfl rfl rfl⟩ | exact ⟨(), Gh.to [] (by repeat (first | exact trivial | refine ⟨rfl, ?_⟩ | refine ⟨by (simp only [go_sem, zA, zB, zC, zD, zE, zF, zG, reduceCtorEq, zH, zI, zJ, zK, zL, List.length_append, List.length_map, List.length_cons, List.length_nil, Nat.zero_add]) <;> rfl, ?_⟩)) (by repeat (first | exact trivial | refine ⟨rfl, ?_⟩ | refine ⟨by (simp only [go_sem, zA, zB, zC, zD, zE, zF, zG, reduceCtorEq, zH, zI, zJ, zK, zL, List.length_append, List.length_map, List.length_cons, List.length_nil, Nat.zero_add]) <;> rfl, ?_⟩)) rfl rfl rfl⟩ | exact Gh.to [] (by repeat (first | exact trivial | refine ⟨rfl, ?_⟩ | refine ⟨by (simp only [go_sem, zA, zB, zC, zD, zE, zF, zG, reduceCtorEq, zH, zI, zJ, zK, zL, List.length_append, List.length_map, List.length_cons, List.length_nil, Nat.zero_add]) <;> rfl, ?_⟩)) (by repeat (first | exact trivial | refine ⟨rfl, ?_⟩ | refine ⟨by (simp only [go_sem, zA, zB, zC, zD, zE, zF, zG, reduceCtorEq, zH, zI, zJ, zK, zL, List.length_append, List.length_map, List.length_cons, List.length_nil, Nat.zero_add]) <;> rfl, ?_⟩)) rfl rfl rfl
        · have hEx : x.length = E := by unfold endT at hE; rw [List.getElem?_eq_none (by omega)] at hE; exact hE
          have hdn : decide (((i + 1 : Nat) : Int) < (L.length : Int)) = false := by rw [decide_eq_false_iff_not]; omega
          repeat' (first | (simp only [go_sem, zA, zB, zC, zD, zE, zF, zG, reduceCtorEq, zH, zI, zJ, zK, zL, List.length_map, List.length_cons, List.length_nil, hbi, hwi, hneg, hge, hdn, hEx, encTok, Int.toNat_natCast]; all_goals fail_if_success guard_target =ₛ False) | (with_reducible first | ((first | refine seqVC_stepN rfl ?_ | refine seqVC_stepG rfl (by with_unfolding_all rfl) ?_ | refine AWP.seq ?_ | refine AWP.seqR (by kernel_rfl) ?_ | refine parVC_stepN rfl ?_ | refine parVC_stepG rfl (by with_unfolding_all rfl) ?_ | refine parEVC_stepN rfl ?_ | refine parEVC_stepG rfl (by with_unfolding_all rfl) ?_ | refine genVC_stepN rfl ?_ | refine genVC_stepG rfl (by with_unfolding_all rfl) ?_); intro K hK) | ((first | refine hK _ _ _ ?_ | refine hK _ _ ?_ | refine hK _ ?_); clear hK K) | refine seqVC_nil ?_ | refine parVC_nil ?_ | refine parEVC_nil ?_ | refine genVC_nil ?_ | refine AWP.block ?_ | (refine AWP.cond (by with_unfolding_all rfl) ?_ ?_ <;> intro h <;> (try simp only [zM, zN] at h) <;> try exact absurd h (by decide)) | refine AWP.skip ?_ | refine AWP.ret ?_ | refine AWP.exit ?_ | (refine ⟨fun h => ?_, fun h => ?_⟩ <;> (try simp only [zM, zN] at h) <;> try simp only [h]) | refine ⟨_, h3, ?_⟩ | refine ⟨by omega, _, hti', ?_⟩ | refine ⟨_, hti', ?_⟩ | refine ⟨by omega, by omega, by omega, ?_⟩ | refine ⟨by omega, by omega, ?_⟩ | refine AWP.parR mixed (by kernel_rfl) fun K hK => ?_ | refine ⟨(by kernel_rfl : depB _ _ _ = true), ?_⟩ | refine Or.inl ?_) | (clear hK K))
          all_goals first | exact ⟨(), trivial, Gh.to [] (by repeat (first | exact trivial | refine ⟨rfl, ?_⟩ | refine ⟨by (simp only [go_sem, zA, zB, zC, zD, zE, zF, zG, reduceCtorEq, zH, zI, zJ, zK, zL, List.length_append, List.length_map, List.length_cons, List.length_nil, Nat.zero_add]) <;> rfl, ?_⟩)) (by repeat (first | exact trivial | refine ⟨rfl, ?_⟩ | refine ⟨by (simp only [go_sem, zA, zB, zC, zD, zE, zF, zG, reduceCtorEq, zH, zI, zJ, zK, zL, List.length_append, List.length_map, List.length_cons, List.length_nil, Nat.zero_add]) <;> rfl, ?_⟩)) rfl rfl rfl⟩ | exact ⟨(), Gh.to [] (by repeat (first | exact trivial | refine ⟨rfl, ?_⟩ | refine ⟨by (simp only [go_sem, zA, zB, zC, zD, zE, zF, zG, reduceCtorEq, zH, zI, zJ, zK, zL, List.length_append, List.length_map, List.length_cons, List.length_nil, Nat.zero_add]) <;> rfl, ?_⟩)) (by repeat (first | exact trivial | refine ⟨rfl, ?_⟩ | refine ⟨by (simp only [go_sem, zA, zB, zC, zD, zE, zF, zG, reduceCtorEq, zH, zI, zJ, zK, zL, List.length_append, List.length_map, List.length_cons, List.length_nil, Nat.zero_add]) <;> rfl, ?_⟩)) rfl rfl rfl⟩ | exact Gh.to [] (by repeat (first | exact trivial | refine ⟨rfl, ?_⟩ | refine ⟨by (simp only [go_sem, zA, zB, zC, zD, zE, zF, zG, reduceCtorEq, zH, zI, zJ, zK, zL, List.length_append, List.length_map, List.length_cons, List.length_nil, Nat.zero_add]) <;> rfl, ?_⟩)) (by repeat (first | exact trivial | refine ⟨rfl, ?_⟩ | refine ⟨by (simp only [go_sem, zA, zB, zC, zD, zE, zF, zG, reduceCtorEq, zH, zI, zJ, zK, zL, List.length_append, List.length_map, List.length_cons, List.length_nil, Nat.zero_add]) <;> rfl, ?_⟩)) rfl rfl rfl
      · intro u hbi hoi
        simp only [go_sem, zA, zB, zC, zD, zE, zF, zG, reduceCtorEq, zH, zI, zJ, zK, zL]
        repeat' (first | (simp only [go_sem, zA, zB, zC, zD, zE, zF, zG, reduceCtorEq, zH, zI, zJ, zK, zL, List.length_map, hbi]; all_goals fail_if_success guard_target =ₛ False) | (with_reducible first | ((first | refine seqVC_stepN rfl ?_ | refine seqVC_stepG rfl (by with_unfolding_all rfl) ?_ | refine AWP.seq ?_ | refine AWP.seqR (by kernel_rfl) ?_ | refine parVC_stepN rfl ?_ | refine parVC_stepG rfl (by with_unfolding_all rfl) ?_ | refine parEVC_stepN rfl ?_ | refine parEVC_stepG rfl (by with_unfolding_all rfl) ?_ | refine genVC_stepN rfl ?_ | refine genVC_stepG rfl (by with_unfolding_all rfl) ?_); intro K hK) | ((first | refine hK _ _ _ ?_ | refine hK _ _ ?_ | refine hK _ ?_); clear hK K) | refine seqVC_nil ?_ | refine parVC_nil ?_ | refine parEVC_nil ?_ | refine genVC_nil ?_ | refine AWP.block ?_ | (refine AWP.cond (by with_unfolding_all rfl) ?_ ?_ <;> intro h <;> (try simp only [zM, zN] at h) <;> try exact absurd h (by decide)) | refine AWP.skip ?_ | refine AWP.ret ?_ | refine AWP.exit ?_ | (refine ⟨fun h => ?_, fun h => ?_⟩ <;> (try simp only [zM, zN] at h) <;> try simp only [h]) | refine AWP.parR mixed (by kernel_rfl) fun K hK => ?_ | refine ⟨(by kernel_rfl : depB _ _ _ = true), ?_⟩ | refine Or.inl ?_) | (clear hK K))
        all_goals (rw [wrap_succ hlt hlen0])
        all_goals first | exact ⟨(), trivial, Gh.to [] (by repeat (first | exact trivial | refine ⟨rfl, ?_⟩ | refine ⟨by (simp only [go_sem, zA, zB, zC, zD, zE, zF, zG, reduceCtorEq, zH, zI, zJ, zK, zL, List.length_append, List.length_map, List.length_cons, List.length_nil, Nat.zero_add]) <;> rfl, ?_⟩)) (by repeat (first | exact trivial | refine ⟨rfl, ?_⟩ | refine ⟨by (simp only [go_sem, zA, zB, zC, zD, zE, zF, zG, reduceCtorEq, zH, zI, zJ, zK, zL, List.length_append, List.length_map, List.length_cons, List.length_nil, Nat.zero_add]) <;> rfl, ?_⟩)) rfl rfl rfl⟩ | exact ⟨(), Gh.to [] (by repeat (first | exact trivial | refine ⟨rfl, ?_⟩ | refine ⟨by (simp only [go_sem, zA, zB, zC, zD, zE, zF, zG, reduceCtorEq, zH, zI, zJ, zK, zL, List.length_append, List.length_map, List.length_cons, List.length_nil, Nat.zero_add]) <;> rfl, ?_⟩)) (by repeat (first | exact trivial | refine ⟨rfl, ?_⟩ | refine ⟨by (simp only [go_sem, zA, zB, zC, zD, zE, zF, zG, reduceCtorEq, zH, zI, zJ, zK, zL, List.length_append, List.length_map, List.length_cons, List.length_nil, Nat.zero_add]) <;> rfl, ?_⟩)) rfl rfl rfl⟩ | exact Gh.to [] (by repeat (first | exact trivial | refine ⟨rfl, ?_⟩ | refine ⟨by (simp only [go_sem, zA, zB, zC, zD, zE, zF, zG, reduceCtorEq, zH, zI, zJ, zK, zL, List.length_append, List.length_map, List.length_cons, List.length_nil, Nat.zero_add]) <;> rfl, ?_⟩)) (by repeat (first | exact trivial | refine ⟨rfl, ?_⟩ | refine ⟨by (simp only [go_sem, zA, zB, zC, zD, zE, zF, zG, reduceCtorEq, zH, zI, zJ, zK, zL, List.length_append, List.length_map, List.length_cons, List.length_nil, Nat.zero_add]) <;> rfl, ?_⟩)) rfl rfl rfl
  · intro u hbb hok
    simp only [go_sem, zA, zB, zC, zD, zE, zF, zG, reduceCtorEq, zH, zI, zJ, zK, zL]
    have hb2 : decide ((2 : Int) < 2) = false := by decide
    repeat' (first | (simp only [go_sem, zA, zB, zC, zD, zE, zF, zG, reduceCtorEq, zH, zI, zJ, zK, zL, List.length_map, List.length_cons, List.length_nil, hb2]; all_goals fail_if_success guard_target =ₛ False) | (with_reducible first | ((first | refine seqVC_stepN rfl ?_ | refine seqVC_stepG rfl (by with_unfolding_all rfl) ?_ | refine AWP.seq ?_ | refine AWP.seqR (by kernel_rfl) ?_ | refine parVC_stepN rfl ?_ | refine parVC_stepG rfl (by with_unfolding_all rfl) ?_ | refine parEVC_stepN rfl ?_ | refine parEVC_stepG rfl (by with_unfolding_all rfl) ?_ | refine genVC_stepN rfl ?_ | refine genVC_stepG rfl (by with_unfolding_all rfl) ?_); intro K hK) | ((first | refine hK _ _ _ ?_ | refine hK _ _ ?_ | refine hK _ ?_); clear hK K) | refine seqVC_nil ?_ | refine parVC_nil ?_ | refine parEVC_nil ?_ | refine genVC_nil ?_ | refine AWP.block ?_ | (refine AWP.cond (by with_unfolding_all rfl) ?_ ?_ <;> intro h <;> (try simp only [zM, zN] at h) <;> try exact absurd h (by decide)) | refine AWP.skip ?_ | refine AWP.ret ?_ | refine AWP.exit ?_ | (refine ⟨fun h => ?_, fun h => ?_⟩ <;> (try simp only [zM, zN] at h) <;> try simp only [h]) | refine ⟨_, haw, ?_⟩ | refine AWP.parR mixed (by kernel_rfl) fun K hK => ?_ | refine ⟨(by kernel_rfl : depB _ _ _ = true), ?_⟩ | refine Or.inl ?_) | (clear hK K))
    all_goals exact fun x hx => hx
end Go.Proofs.YtogponhonjiidaaDoor
