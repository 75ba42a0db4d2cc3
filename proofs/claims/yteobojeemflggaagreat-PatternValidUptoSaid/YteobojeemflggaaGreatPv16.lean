/- A part of the proof: lemmas about the walk of the program and about plain integers and lists. No conditions beyond those that each lemma states. -/
import Derived.Test.YteobojeemflggaaGreatPv8
import Derived.Test.YteobojeemflggaaGreatPv6
import Derived.Test.YteobojeemflggaaGreatPv13
import Derived.Test.YteobojeemflggaaGreatPv15
set_option linter.unusedSimpArgs false
set_option linter.unusedVariables false
set_option maxRecDepth 20000
set_option maxHeartbeats 16000000
namespace Go.Proofs.YteobojeemflggaaGreat
open Go Go.Sx
open Nat renaming reduceBEq → zA, reduceBNe → zB, reduceAdd → zC, reduceSub → zD, reduceMul → zE, reduceLeDiff → zF, reduceLT → zG, reduceEqDiff → zH
open Int renaming reduceToNat → zI, reduceLE → zJ, reduceLT → zK, reduceEq → zL
open Bool renaming not_eq_true' → zM, not_eq_false' → zN
def leafP (k n : Int) (t : List UInt8) : Pat := ⟨k, n, t, [], []⟩
def kidsQ (k : Int) (t : List UInt8) (ks : List KeyD) (l : List Pat) : Pat := ⟨k, 0, t, l, ks⟩
theorem leafP_lit (k n : Int) (t : List UInt8) : Pt (leafP k n t) = .st [.int .i64 k, .int .i64 n, .str t, .sl 5 [], .sl 2 []] := by rw [Pt, encP_eq]; rfl
theorem kidsQ_lit (k : Int) (t : List UInt8) (ks : List KeyD) (l : List Pat) : Pt (kidsQ k t ks l) = .st [.int .i64 k, .int .i64 0, .str t, .sl 5 (l.map encP), .sl 2 (ks.map encKey)] := by rw [Pt, encP_eq]; rfl
def baseP (nm : List UInt8) (s : Src) : Pat × Src :=
  bif decide (nextV s 6 = 0) then (leafP 3 (numV (nextS s 6)) [], nextS (nextS s 6) 10) else
  bif decide (nextV s 6 = 1) then (leafP 5 0 (atomV (nextS s 6)), nextS (nextS s 6) 4) else
  bif decide (nextV s 6 = 2) then (leafP 4 0 (wordV (nextS s 6)), nextS (nextS s 6) 4) else
  bif decide (nextV s 6 = 3) then (leafP 6 0 [], nextS s 6) else
  bif decide (nextV s 6 = 4) then (leafP 2 0 nm, nextS s 6) else (leafP 1 0 [], nextS s 6)
def joinP (nm : List UInt8) (a b : Pat) (s : Src) : Pat × Src :=
  bif decide (nextV s 6 = 0) then (kidsQ 7 [] [] [a, b], nextS s 6) else
  bif decide (nextV s 6 = 1) then (kidsQ 8 [] [] [a, b], nextS s 6) else
  bif decide (nextV s 6 = 2) then (kidsQ 9 [] [⟨0, [97]⟩, ⟨0, [98]⟩] [a, b], nextS s 6) else
  bif decide (nextV s 6 = 3) then (kidsQ 10 nm [] [a], nextS s 6) else
  bif decide (nextV s 6 = 4) then (kidsQ 7 [] [] [b], nextS s 6) else (a, nextS s 6)
def madeP : Nat → List (List UInt8) → Src → Pat × Src
  | 0, ns, s => baseP (ns.getD 0 []) s
  | d + 1, ns, s =>
    joinP (ns.getD (ns.length - 1) []) (madeP d (ns.take (ns.length / 2)) s).1 (madeP d (ns.drop (ns.length / 2)) (madeP d (ns.take (ns.length / 2)) s).2).1 (madeP d (ns.drop (ns.length / 2)) (madeP d (ns.take (ns.length / 2)) s).2).2
theorem ok_baseP {s : Src} (h : s.ok) (nm : List UInt8) : (baseP nm s).2.ok := by
  have h2 := ok_next h 6
  unfold baseP
  cases decide (nextV s 6 = 0) <;> cases decide (nextV s 6 = 1) <;> cases decide (nextV s 6 = 2) <;> cases decide (nextV s 6 = 3) <;> cases decide (nextV s 6 = 4) <;> first | exact ok_next h2 _ | exact h2
theorem ok_joinP {s : Src} (h : s.ok) (nm : List UInt8) (a b : Pat) : (joinP nm a b s).2.ok := by
  have h2 := ok_next h 6
  unfold joinP
  cases decide (nextV s 6 = 0) <;> cases decide (nextV s 6 = 1) <;> cases decide (nextV s 6 = 2) <;> cases decide (nextV s 6 = 3) <;> cases decide (nextV s 6 = 4) <;> exact h2
theorem ok_madeP : ∀ (d : Nat) (ns : List (List UInt8)) (s : Src), s.ok → (madeP d ns s).2.ok
  | 0, ns, s, h => ok_baseP h _
  | d + 1, ns, s, h => ok_joinP (ok_madeP d _ _ (ok_madeP d _ s h)) _ _ _
def MadePC (d : Nat) : Prop := ∀ (ns : List (List UInt8)) (s : Src), s.ok → ns.length = 2 ^ (d + 1) → PCB Tryz.prog 19 [Sp pin, I .i64 d, .one (.dat (.sl 1 (ns.map Sx.encStr)))] [(pin, srcB s)] (Pt (madeP d ns s).1) [(pin, srcB (madeP d ns s).2)]
theorem MadePC.k {d : Nat} (H : MadePC d) (k : Nat) (ns : List (List UInt8)) (s : Src) (hs : s.ok) (hn : ns.length = 2 ^ (d + 1)) : PCBk Tryz.prog 19 [Sp k, I .i64 d, .one (.dat (.sl 1 (ns.map Sx.encStr)))] k (srcB s) (Pt (madeP d ns s).1) (srcB (madeP d ns s).2) := PCBk.mk k (H ns s hs hn)
theorem base_p : MadePC 0 := by
  intro ns s hs hlen
  have a1 := nextV_in s (n := 6) (by omega)
  have hs1 := ok_next hs 6
  have hx' : (ns.map Sx.encStr)[0]? = some (Sx.encStr (ns.getD 0 [])) := by
    cases ns with
    | nil => simp at hlen
    | cons x l => rfl
  rcases (show nextV s 6 = 0 ∨ nextV s 6 = 1 ∨ nextV s 6 = 2 ∨ nextV s 6 = 3 ∨ nextV s 6 = 4 ∨ nextV s 6 = 5 by omega) with hq | hq | hq | hq | hq | hq
  iterate 6
    ·
      refine PCB.of_body Tryz.func19 rfl (by decide) Tryz.ntmps19 Tryz.results19 rfl rfl rfl ?_ rfl rfl
      repeat' (first | (simp only [go_sem, zA, zB, zC, zD, zE, zF, zG, reduceCtorEq, zH, zI, zJ, zK, zL, pin, hq, Int.reduceEq, Int.natCast_zero, Sx.encStr, List.length_map]; all_goals fail_if_success guard_target =ₛ False) | (with_reducible first | ((first | refine seqVC_stepN rfl ?_ | refine AWP.seq ?_ | refine AWP.seqR (by kernel_rfl) ?_ | refine parVC_stepN rfl ?_ | refine parEVC_stepN rfl ?_ | refine genVC_stepN rfl ?_); intro K hK) | ((first | refine hK _ _ _ ?_ | refine hK _ _ ?_ | refine hK _ ?_); clear hK K) | refine seqVC_nil ?_ | refine parVC_nil ?_ | refine parEVC_nil ?_ | refine genVC_nil ?_ | refine AWP.block ?_ | (refine AWP.cond (by with_unfolding_all rfl) ?_ ?_ <;> intro h <;> (try simp only [zM, zN] at h) <;> try exact absurd h (by decide)) | refine AWP.skip ?_ | refine AWP.ret ?_ | refine AWP.exit ?_ | refine ⟨Sx.encStr (ns.getD 0 []), hx', ?_⟩ | refine ⟨by omega, Sx.encStr (ns.getD 0 []), hx', ?_⟩) | (refine ⟨1000000, _, _, _, next_k 1000000 s hs _ (by omega), rfl, ?_⟩) | (refine ⟨1000000, _, _, _, word_k 1000000 _ hs1, rfl, ?_⟩) | (refine ⟨1000000, _, _, _, atomName_k 1000000 _ hs1, rfl, ?_⟩) | (refine ⟨1000000, _, _, _, number_k 1000000 _ hs1, rfl, ?_⟩) | (with_reducible first | (refine AWP.segP (id := 25) 9 mixed (by kernel_rfl) fun K hK => ?_; simp only [List.take_succ_cons, List.take_zero, List.drop_succ_cons, List.drop_zero]) | refine AWP.parR mixed (by kernel_rfl) fun K hK => ?_ | refine ⟨(by kernel_rfl : depB _ _ _ = true), ?_⟩ | refine Or.inl ?_) | (clear hK K))
      all_goals (simp only [madeP, baseP, hq, zb, cond_true, cond_false, decide_true, decide_false, Int.reduceEq, leafP_lit])
      all_goals (refine ⟨by first | trivial | rfl, fun x hx => ?_⟩; simp only [List.mem_singleton] at hx; subst hx; simp)
theorem step_p (d : Nat) (hd : d ≤ 10) (H : MadePC d) : MadePC (d + 1) := by
  intro ns s hs hlen
  have hpos : 1 ≤ 2 ^ d := Nat.one_le_two_pow
  have hp2 : 2 ^ (d + 1) = 2 * 2 ^ d := by rw [Nat.pow_succ]; omega
  have hp3 : 2 ^ (d + 1 + 1) = 2 * 2 ^ (d + 1) := by rw [Nat.pow_succ]; omega
  have hle : 2 ^ d ≤ 2 ^ 10 := Nat.pow_le_pow_right (by omega) hd
  have hhalf : ns.length / 2 = 2 ^ (d + 1) := by omega
  have hta : (ns.take (ns.length / 2)).length = 2 ^ (d + 1) := by rw [List.length_take]; omega
  have htb : (ns.drop (ns.length / 2)).length = 2 ^ (d + 1) := by rw [List.length_drop]; omega
  have hp : decide (((d + 1 : Nat) : Int) ≤ 0) = false := by simp only [decide_eq_false_iff_not]; omega
  have hm : IntKind.i64.wrap (((d + 1 : Nat) : Int) - 1) = (d : Int) := by rw [w64 (by omega)]; omega
  have hq2 : IntKind.i64.wrap ((ns.length : Int).tdiv 2) = ((ns.length / 2 : Nat) : Int) := by
    rw [show (ns.length : Int).tdiv 2 = ((ns.length / 2 : Nat) : Int) by rw [Int.tdiv_eq_ediv_of_nonneg (by omega)]; omega, w64 (by omega)]
  have hlast : IntKind.i64.wrap ((ns.length : Int) - 1) = ((ns.length - 1 : Nat) : Int) := by rw [w64 (by omega)]; omega
  have hlx : (ns.map Sx.encStr)[ns.length - 1]? = some (Sx.encStr (ns.getD (ns.length - 1) [])) := by
    have : ns.length - 1 < ns.length := by omega
    simp [List.getElem?_map, this]
  have ka := H.k 1000000 (ns.take (ns.length / 2)) s hs hta
  have hs2 := ok_madeP d (ns.take (ns.length / 2)) s hs
  have kb := H.k 1000000 (ns.drop (ns.length / 2)) _ hs2 htb
  have hs3 := ok_madeP d (ns.drop (ns.length / 2)) _ hs2
  have hmd : madeP (d + 1) ns s = joinP (ns.getD (ns.length - 1) []) (madeP d (ns.take (ns.length / 2)) s).1 (madeP d (ns.drop (ns.length / 2)) (madeP d (ns.take (ns.length / 2)) s).2).1 (madeP d (ns.drop (ns.length / 2)) (madeP d (ns.take (ns.length / 2)) s).2).2 := rfl
  rw [hmd]
  generalize (madeP d (ns.take (ns.length / 2)) s).1 = a at *
  generalize (madeP d (ns.take (ns.length / 2)) s).2 = s2 at *
  generalize (madeP d (ns.drop (ns.length / 2)) s2).1 = b at *
  generalize (madeP d (ns.drop (ns.length / 2)) s2).2 = s3 at *
  have a1 := nextV_in s3 (n := 6) (by omega)
  rcases (show nextV s3 6 = 0 ∨ nextV s3 6 = 1 ∨ nextV s3 6 = 2 ∨ nextV s3 6 = 3 ∨ nextV s3 6 = 4 ∨ nextV s3 6 = 5 by omega) with hq | hq | hq | hq | hq | hq
  iterate 6
    ·
      refine PCB.of_body Tryz.func19 rfl (by decide) Tryz.ntmps19 Tryz.results19 rfl rfl rfl ?_ rfl rfl
      repeat' (first | (simp only [go_sem, zA, zB, zC, zD, zE, zF, zG, reduceCtorEq, zH, zI, zJ, zK, zL, pin, hq, hp, hm, hq2, hlast, Int.reduceEq, List.length_map, Int.toNat_natCast, take_map', drop_map', List.take_length, Sx.encStr]; all_goals fail_if_success guard_target =ₛ False) | (with_reducible first | ((first | refine seqVC_stepN rfl ?_ | refine AWP.seq ?_ | refine AWP.seqR (by kernel_rfl) ?_ | refine parVC_stepN rfl ?_ | refine parEVC_stepN rfl ?_ | refine genVC_stepN rfl ?_); intro K hK) | ((first | refine hK _ _ _ ?_ | refine hK _ _ ?_ | refine hK _ ?_); clear hK K) | refine seqVC_nil ?_ | refine parVC_nil ?_ | refine parEVC_nil ?_ | refine genVC_nil ?_ | refine AWP.block ?_ | (refine AWP.cond (by with_unfolding_all rfl) ?_ ?_ <;> intro h <;> (try simp only [zM, zN] at h) <;> try exact absurd h (by decide)) | refine AWP.skip ?_ | refine AWP.ret ?_ | refine AWP.exit ?_ | refine ⟨by omega, Sx.encStr (ns.getD (ns.length - 1) []), hlx, ?_⟩ | refine ⟨by omega, ?_⟩ | refine ⟨by omega, by omega, ?_⟩) | (refine ⟨1000000, _, _, _, ka, rfl, ?_⟩) | (refine ⟨1000000, _, _, _, kb, rfl, ?_⟩) | (refine ⟨1000000, _, _, _, next_k 1000000 s3 hs3 _ (by omega), rfl, ?_⟩) | (with_reducible first | (refine AWP.segP (id := 25) 9 mixed (by kernel_rfl) fun K hK => ?_; simp only [List.take_succ_cons, List.take_zero, List.drop_succ_cons, List.drop_zero]) | refine AWP.parR mixed (by kernel_rfl) fun K hK => ?_ | refine ⟨(by kernel_rfl : depB _ _ _ = true), ?_⟩ | refine Or.inl ?_) | (clear hK K))
      all_goals (simp only [joinP, hq, zb, cond_true, cond_false, decide_true, decide_false, Int.reduceEq, kidsQ_lit])
      all_goals (refine ⟨by first | trivial | rfl, fun x hx => ?_⟩; simp only [List.mem_singleton] at hx; subst hx; simp)
theorem made_p : ∀ d : Nat, d ≤ 10 → MadePC d
  | 0, _ => base_p
  | d + 1, h => step_p d (by omega) (made_p d (by omega))
def bP : Nat → Nat
  | 0 => 1
  | d + 1 => 1 + 2 * bP d
theorem cnt_kidsQ (k : Int) (t : List UInt8) (ks : List KeyD) (l : List Pat) : cntP (kidsQ k t ks l) = 1 + cntPs l := by rw [cntP_eq]; rfl
theorem cnt_made : ∀ (d : Nat) (ns : List (List UInt8)) (s : Src), cntP (madeP d ns s).1 ≤ bP d
  | 0, ns, s => by
    unfold madeP baseP bP
    cases decide (nextV s 6 = 0) <;> cases decide (nextV s 6 = 1) <;> cases decide (nextV s 6 = 2) <;> cases decide (nextV s 6 = 3) <;> cases decide (nextV s 6 = 4) <;> (simp only [cond_true, cond_false]; rw [cntP_eq]; exact Nat.le_refl 1)
  | d + 1, ns, s => by
    have h1 := cnt_made d (ns.take (ns.length / 2)) s
    have h2 := cnt_made d (ns.drop (ns.length / 2)) (madeP d (ns.take (ns.length / 2)) s).2
    unfold madeP joinP bP
    generalize (madeP d (ns.take (ns.length / 2)) s).1 = a at *
    generalize (madeP d (ns.take (ns.length / 2)) s).2 = s2 at *
    generalize (madeP d (ns.drop (ns.length / 2)) s2).1 = b at *
    generalize (madeP d (ns.drop (ns.length / 2)) s2).2 = s3 at *
    cases decide (nextV s3 6 = 0) <;> cases decide (nextV s3 6 = 1) <;> cases decide (nextV s3 6 = 2) <;> cases decide (nextV s3 6 = 3) <;> cases decide (nextV s3 6 = 4) <;> (simp only [cond_true, cond_false, cnt_kidsQ, cntPs]; omega)
def encLP (l : List Int) : List C := [.sl 1 (l.map encInt)]
theorem shortP_c (ll : List (List Int)) : PC Tryz.prog 17 [.one (.dat (.sl 1 (ll.map encLP)))] (Bo (ll.all fun l => !decide ((80 : Int) < (l.length : Int)))) := by
  refine PCB.of_body Tryz.func17 rfl (by decide) Tryz.ntmps17 Tryz.results17 rfl rfl rfl ?_ rfl rfl
  repeat' (first | (simp only [go_sem, zA, zB, zC, zD, zE, zF, zG, reduceCtorEq, zH, zI, zJ, zK, zL, List.length_map]; all_goals fail_if_success guard_target =ₛ False) | (with_reducible first | ((first | refine seqVC_stepN rfl ?_ | refine AWP.seq ?_ | refine AWP.seqR (by kernel_rfl) ?_); intro K hK) | ((first | refine hK _ _ _ ?_ | refine hK _ _ ?_ | refine hK _ ?_); clear hK K) | refine seqVC_nil ?_ | refine AWP.block ?_ | (refine AWP.cond (by with_unfolding_all rfl) ?_ ?_ <;> intro h <;> (try simp only [zM, zN] at h) <;> try exact absurd h (by decide)) | refine AWP.skip ?_ | refine AWP.ret ?_ | refine AWP.exit ?_ | refine Or.inl ?_) | (clear hK K))
  refine AWP.len 0 rfl fun hlen0 => ?_
  (try rw [List.length_map] at hlen0)
  refine AWP.range (S := Unit) (ll) encLP (fun k s => (3, I .i64 (k : Nat)) :: []) (fun k s => []) [0] [] (fun k s => (ll.all fun l => !decide ((80 : Int) < (l.length : Int))) = ((ll.drop k).all fun l => !decide ((80 : Int) < (l.length : Int)))) (()) (by simp only [go_sem, zA, zB, zC, zD, zE, zF, zG, reduceCtorEq, zH, zI, zJ, zK, zL]; exact Gh.to [] (by repeat (first | exact trivial | refine ⟨rfl, ?_⟩ | refine ⟨by (simp only [go_sem, zA, zB, zC, zD, zE, zF, zG, reduceCtorEq, zH, zI, zJ, zK, zL, List.length_append, List.length_map, List.length_cons, List.length_nil, Nat.zero_add]) <;> rfl, ?_⟩)) (by repeat (first | exact trivial | refine ⟨rfl, ?_⟩ | refine ⟨by (simp only [go_sem, zA, zB, zC, zD, zE, zF, zG, reduceCtorEq, zH, zI, zJ, zK, zL, List.length_append, List.length_map, List.length_cons, List.length_nil, Nat.zero_add]) <;> rfl, ?_⟩)) rfl rfl rfl) ?_ ?_ ?_
  · rfl
  · intro k s x hlt hx hx' hb hok
    simp only [go_sem, zA, zB, zC, zD, zE, zF, zG, reduceCtorEq, zH, zI, zJ, zK, zL]
    rw [all_step hx] at hok
    cases hz : decide ((80 : Int) < (x.length : Int)) <;> simp only [hz, Bool.not_true, Bool.not_false, Bool.true_and, Bool.false_and] at hok
    ·
      repeat' (first | (simp only [go_sem, zA, zB, zC, zD, zE, zF, zG, reduceCtorEq, zH, zI, zJ, zK, zL, encLP, List.length_map, hb, hz]; all_goals fail_if_success guard_target =ₛ False) | (with_reducible first | ((first | refine seqVC_stepN rfl ?_ | refine AWP.seq ?_ | refine AWP.seqR (by kernel_rfl) ?_); intro K hK) | ((first | refine hK _ _ _ ?_ | refine hK _ _ ?_ | refine hK _ ?_); clear hK K) | refine seqVC_nil ?_ | refine AWP.block ?_ | (refine AWP.cond (by with_unfolding_all rfl) ?_ ?_ <;> intro h <;> (try simp only [zM, zN] at h) <;> try exact absurd h (by decide)) | refine AWP.skip ?_ | refine AWP.ret ?_ | refine AWP.exit ?_ | refine ⟨by omega, encLP x, hx', ?_⟩ | refine Or.inl ?_) | (clear hK K))
      all_goals (rw [wrap_succ hlt hlen0])
      all_goals (refine ⟨(), ?_, Gh.to [] (by repeat (first | exact trivial | refine ⟨rfl, ?_⟩ | refine ⟨by (simp only [go_sem, zA, zB, zC, zD, zE, zF, zG, reduceCtorEq, zH, zI, zJ, zK, zL, List.length_append, List.length_map, List.length_cons, List.length_nil, Nat.zero_add]) <;> rfl, ?_⟩)) (by repeat (first | exact trivial | refine ⟨rfl, ?_⟩ | refine ⟨by (simp only [go_sem, zA, zB, zC, zD, zE, zF, zG, reduceCtorEq, zH, zI, zJ, zK, zL, List.length_append, List.length_map, List.length_cons, List.length_nil, Nat.zero_add]) <;> rfl, ?_⟩)) rfl rfl rfl⟩)
      all_goals exact hok
    ·
      repeat' (first | (simp only [go_sem, zA, zB, zC, zD, zE, zF, zG, reduceCtorEq, zH, zI, zJ, zK, zL, encLP, List.length_map, hb, hz]; all_goals fail_if_success guard_target =ₛ False) | (with_reducible first | ((first | refine seqVC_stepN rfl ?_ | refine AWP.seq ?_ | refine AWP.seqR (by kernel_rfl) ?_); intro K hK) | ((first | refine hK _ _ _ ?_ | refine hK _ _ ?_ | refine hK _ ?_); clear hK K) | refine seqVC_nil ?_ | refine AWP.block ?_ | (refine AWP.cond (by with_unfolding_all rfl) ?_ ?_ <;> intro h <;> (try simp only [zM, zN] at h) <;> try exact absurd h (by decide)) | refine AWP.skip ?_ | refine AWP.ret ?_ | refine AWP.exit ?_ | refine ⟨by omega, encLP x, hx', ?_⟩ | refine Or.inl ?_) | (clear hK K))
      all_goals (first | exact fun _ h => (by cases h) | (refine fin0 ?_; first | rfl | (simp only [hok, zb, cond_true, cond_false, decide_true, decide_false] <;> rfl)))
  · intro s hb hok
    simp only [go_sem, zA, zB, zC, zD, zE, zF, zG, reduceCtorEq, zH, zI, zJ, zK, zL]
    rw [all_end] at hok
    repeat' (first | (simp only [go_sem, zA, zB, zC, zD, zE, zF, zG, reduceCtorEq, zH, zI, zJ, zK, zL, List.length_map, hb]; all_goals fail_if_success guard_target =ₛ False) | (with_reducible first | ((first | refine seqVC_stepN rfl ?_ | refine AWP.seq ?_ | refine AWP.seqR (by kernel_rfl) ?_); intro K hK) | ((first | refine hK _ _ _ ?_ | refine hK _ _ ?_ | refine hK _ ?_); clear hK K) | refine seqVC_nil ?_ | refine AWP.block ?_ | (refine AWP.cond (by with_unfolding_all rfl) ?_ ?_ <;> intro h <;> (try simp only [zM, zN] at h) <;> try exact absurd h (by decide)) | refine AWP.skip ?_ | refine AWP.ret ?_ | refine AWP.exit ?_ | refine Or.inl ?_) | (clear hK K))
    all_goals (first | exact fun _ h => (by cases h) | (refine fin0 ?_; first | rfl | (simp only [hok, zb, cond_true, cond_false, decide_true, decide_false] <;> rfl)))
def varL : List (List UInt8) := [[80], [81], [82], [83], [84], [85], [86], [87]]
theorem vars_c : PC Tryz.prog 20 [] (.one (.dat (.sl 1 (varL.map Sx.encStr)))) := by
  refine PCB.of_body Tryz.func20 rfl (by decide) Tryz.ntmps20 Tryz.results20 rfl rfl rfl ?_ rfl rfl
  repeat' (first | (simp only [go_sem, zA, zB, zC, zD, zE, zF, zG, reduceCtorEq, zH, zI, zJ, zK, zL]; all_goals fail_if_success guard_target =ₛ False) | (with_reducible first | ((first | refine seqVC_stepN rfl ?_ | refine AWP.seq ?_ | refine AWP.seqR (by kernel_rfl) ?_); intro K hK) | ((first | refine hK _ _ _ ?_ | refine hK _ _ ?_ | refine hK _ ?_); clear hK K) | refine seqVC_nil ?_ | refine AWP.block ?_ | (refine AWP.cond (by with_unfolding_all rfl) ?_ ?_ <;> intro h <;> (try simp only [zM, zN] at h) <;> try exact absurd h (by decide)) | refine AWP.skip ?_ | refine AWP.ret ?_ | refine AWP.exit ?_ | refine Or.inl ?_) | (clear hK K))
  all_goals (first | exact fun _ h => (by cases h) | (refine fin0 ?_; first | rfl | (simp only [zb, cond_true, cond_false, decide_true, decide_false] <;> rfl)))
theorem cells_pat : ∀ (n : Nat) (row : List C), hasT Tryz.prog n 49 row → ∃ g : Pat, row = encP g := by
  intro n
  induction n using Nat.strongRecOn with
  | _ n ih =>
    intro row h
    obtain ⟨m, parts, rfl, rfl, hl, hf⟩ := cells_st Tryz.underlying49 h
    match parts, hl with
    | [p0, p1, p2, p3, p4], _ =>
      obtain ⟨a0, rfl⟩ := cells_i64 Tryz.underlying3 (hf 0 _ p0 rfl rfl)
      obtain ⟨a1, rfl⟩ := cells_i64 Tryz.underlying2 (hf 1 _ p1 rfl rfl)
      obtain ⟨a2, rfl⟩ := cells_text Tryz.underlying9 (hf 2 _ p2 rfl rfl)
      obtain ⟨a3, rfl⟩ := cells_row (enc := encP) (sz := 5) Tryz.underlying47 (by kernel_rfl) (fun r hr => ih (m - 1) (by omega) r hr) (hf 3 _ p3 rfl rfl)
      obtain ⟨a4, rfl⟩ := cells_row (enc := encKey) (sz := 2) Tryz.underlying28 (by kernel_rfl) (fun r hr => cells_key hr) (hf 4 _ p4 rfl rfl)
      exact ⟨⟨a0, a1, a2, a3, a4⟩, by rw [encP_eq]; rfl⟩
mutual
theorem cntP_le : ∀ g : Pat, cntP g ≤ cbL (encP g)
  | ⟨kind, num, text, kids, keys⟩ => by
    have h1 := cntPs_leB kids
    simp only [cntP, encP, cbL, cbC]; omega
theorem cntPs_leB : ∀ l : List Pat, cntPs l ≤ cbRs (encPs l)
  | [] => by simp [cntPs]
  | g :: l => by have h1 := cntP_le g; have h2 := cntPs_leB l; simp only [cntPs, encPs, cbRs]; omega
end
theorem validP_law (g : Pat) (hg : PSm g) (l : List Int) (hl : ∀ x ∈ l, -9223372036854775808 ≤ x ∧ x ≤ 9223372036854775807) (text : List UInt8) (kind : Int) :
    PC Tryz.prog 5 [Pt g, .one (.dat (.sl 1 (l.map encInt))), S text, I .i64 kind] (Bo true) := by
  have hsh : PC Tryz.prog 17 [.one (.dat (.sl 1 [[.sl 1 (l.map encInt)]]))] (Bo (!decide ((80 : Int) < (l.length : Int)))) := by
    have h := shortP_c [l]
    simpa only [List.all_cons, List.all_nil, Bool.and_true, List.map_cons, List.map_nil, encLP] using h
  have hsz := sizeP_c g hg
  have jg := judgedP_c g hg
  generalize hcn : cntP g = cn at hsz
  cases hb1 : decide ((80 : Int) < (cn : Int))
  case true =>
    refine PCB.of_body Tryz.func5 rfl (by decide) Tryz.ntmps5 Tryz.results5 rfl rfl rfl ?_ rfl rfl
    repeat' (first | (simp only [go_sem, zA, zB, zC, zD, zE, zF, zG, reduceCtorEq, zH, zI, zJ, zK, zL, List.length_map, hb1]; all_goals fail_if_success guard_target =ₛ False) | (with_reducible first | ((first | refine seqVC_stepN rfl ?_ | refine seqVC_stepG rfl (by with_unfolding_all rfl) ?_ | refine AWP.seq ?_ | refine AWP.seqR (by kernel_rfl) ?_); intro K hK) | ((first | refine hK _ _ _ ?_ | refine hK _ _ ?_ | refine hK _ ?_); clear hK K) | refine seqVC_nil ?_ | refine AWP.block ?_ | (refine AWP.cond (by with_unfolding_all rfl) ?_ ?_ <;> intro h <;> (try simp only [zM, zN] at h) <;> try exact absurd h (by decide)) | refine AWP.skip ?_ | refine AWP.ret ?_ | refine AWP.exit ?_ | (refine ⟨fun h => ?_, fun h => ?_⟩ <;> (try simp only [zM, zN] at h) <;> try simp only [h]) | refine ⟨_, hsz, ?_⟩ | refine ⟨_, awake24_c, ?_⟩ | refine Or.inl ?_) | (clear hK K))
    all_goals (first | exact fun _ h => (by cases h) | (refine fin0 ?_; first | rfl | (simp only [zb, cond_true, cond_false, decide_true, decide_false] <;> rfl)))
  cases hb2 : decide ((80 : Int) < (l.length : Int)) <;> rw [hb2] at hsh
  case true =>
    refine PCB.of_body Tryz.func5 rfl (by decide) Tryz.ntmps5 Tryz.results5 rfl rfl rfl ?_ rfl rfl
    repeat' (first | (simp only [go_sem, zA, zB, zC, zD, zE, zF, zG, reduceCtorEq, zH, zI, zJ, zK, zL, List.length_map, hb1]; all_goals fail_if_success guard_target =ₛ False) | (with_reducible first | ((first | refine seqVC_stepN rfl ?_ | refine seqVC_stepG rfl (by with_unfolding_all rfl) ?_ | refine AWP.seq ?_ | refine AWP.seqR (by kernel_rfl) ?_); intro K hK) | ((first | refine hK _ _ _ ?_ | refine hK _ _ ?_ | refine hK _ ?_); clear hK K) | refine seqVC_nil ?_ | refine AWP.block ?_ | (refine AWP.cond (by with_unfolding_all rfl) ?_ ?_ <;> intro h <;> (try simp only [zM, zN] at h) <;> try exact absurd h (by decide)) | refine AWP.skip ?_ | refine AWP.ret ?_ | refine AWP.exit ?_ | (refine ⟨fun h => ?_, fun h => ?_⟩ <;> (try simp only [zM, zN] at h) <;> try simp only [h]) | refine ⟨_, hsz, ?_⟩ | refine ⟨_, hsh, ?_⟩ | refine ⟨_, awake24_c, ?_⟩ | refine Or.inl ?_) | (clear hK K))
    all_goals (first | exact fun _ h => (by cases h) | (refine fin0 ?_; first | rfl | (simp only [zb, cond_true, cond_false, decide_true, decide_false] <;> rfl)))
  have hl8 : ¬ (80 : Int) < (l.length : Int) := of_decide_eq_false hb2
  have hs0 : (Src.mk l 0).ok := ⟨hl, by simp only; omega⟩
  have hm := (made_p 2 (by omega)).k 23 varL ⟨l, 0⟩ hs0 (by decide)
  have hcm := cnt_made 2 varL ⟨l, 0⟩
  have hv := vars_c
  generalize varL = vl at *
  generalize (madeP 2 vl ⟨l, 0⟩).1 = a at hm hcm
  generalize (madeP 2 vl ⟨l, 0⟩).2 = s9 at hm
  have hca : cntP a ≤ 7 := hcm
  have jall : ∀ (q : Int) (tx : List UInt8), PC Tryz.prog 21 [.st [.int .i64 q, .int .i64 a.num, .str tx, .sl 5 (a.kids.map encP), .sl 2 (a.keys.map encKey)]] (Bo true) := by
    intro q tx
    have h := judgedP_c ⟨q, a.num, tx, a.kids, a.keys⟩ (by
      have h1 := cntP_eq a
      have h2 : cntP ⟨q, a.num, tx, a.kids, a.keys⟩ = 1 + cntPs a.kids := cntP_eq ⟨q, a.num, tx, a.kids, a.keys⟩
      unfold PSm; omega)
    rw [show Pt ⟨q, a.num, tx, a.kids, a.keys⟩ = T.st (encP ⟨q, a.num, tx, a.kids, a.keys⟩) from rfl, encP_eq] at h
    exact h
  refine PCB.of_body Tryz.func5 rfl (by decide) Tryz.ntmps5 Tryz.results5 rfl rfl rfl ?_ rfl rfl
  repeat' (first | (simp only [go_sem, zA, zB, zC, zD, zE, zF, zG, reduceCtorEq, zH, zI, zJ, zK, zL, encP_eq a, List.length_map, hb1]; all_goals fail_if_success guard_target =ₛ False) | (with_reducible first | ((first | refine seqVC_stepN rfl ?_ | refine seqVC_stepG rfl (by with_unfolding_all rfl) ?_ | refine AWP.seq ?_ | refine AWP.seqR (by kernel_rfl) ?_); intro K hK) | ((first | refine hK _ _ _ ?_ | refine hK _ _ ?_ | refine hK _ ?_); clear hK K) | refine seqVC_nil ?_ | refine AWP.block ?_ | (refine AWP.cond (by with_unfolding_all rfl) ?_ ?_ <;> intro h <;> (try simp only [zM, zN] at h) <;> try exact absurd h (by decide)) | refine AWP.skip ?_ | refine AWP.ret ?_ | refine AWP.exit ?_ | (refine ⟨fun h => ?_, fun h => ?_⟩ <;> (try simp only [zM, zN] at h) <;> try simp only [h]) | refine ⟨_, hsz, ?_⟩ | refine ⟨_, hsh, ?_⟩ | refine ⟨_, hv, ?_⟩ | refine ⟨_, jg, ?_⟩ | refine ⟨_, jall _ _, ?_⟩ | refine ⟨_, awake24_c, ?_⟩) | (refine ⟨23, _, _, _, hm, rfl, ?_⟩) | (with_reducible first | refine Or.inl ?_) | (clear hK K))
  all_goals (first | exact fun _ h => (by cases h) | (refine fin0 ?_; first | rfl | (simp only [zb, cond_true, cond_false, decide_true, decide_false] <;> rfl)))
end Go.Proofs.YteobojeemflggaaGreat
