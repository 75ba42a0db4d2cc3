/- Lemmas; conditions: as each states. -/
import Derived.Test.YtajfdbdklphonaaGreatDm10a
open Go.Proofs.Tryz renaming prog → zP
open List renaming length_append → lA, length_map → lB, length_cons → lC, length_nil → lD, map_nil → lF, take_length → lK, drop_length → lL, mem_singleton → lN, take_add_one → lO, mem_of_getElem? → lP, length_take → lQ
open Go.Sx.AWP renaming range → xC, gh → xD, lenB → xE, len → xF
open Go.Sx.Gh renaming nilrow → xI
open Nat renaming reduceBEq → zA, reduceBNe → zB, reduceAdd → zC, reduceSub → zD, reduceMul → zE, reduceLeDiff → zF, reduceLT → zG, reduceEqDiff → zH
open Int renaming reduceToNat → zI, reduceLE → zJ, reduceLT → zK, reduceEq → zL
set_option linter.unusedVariables false
set_option linter.unusedSimpArgs false
set_option maxRecDepth 20000
set_option maxHeartbeats 4000000
namespace Go.Proofs.YtajfdbdklphonaaGreat
open Go Go.Sx
theorem putAt_len {α : Type} (k : Nat) (x : α) (l : List α) : (putAt k x l).length = l.length + 1 := by
 unfold putAt; simp; omega
def insS (s : List (List UInt8)) (x : List UInt8) : List (List UInt8) :=
 bif decide (s[tw (fun y => Op.bytesLess y x) s]? = some x) then s else putAt (tw (fun y => Op.bytesLess y x) s) x s
def sortedV (l : List (List UInt8)) : List (List UInt8) := l.foldl insS []
theorem foldl_take {α β : Type} {f : β → α → β} {b : β} {l : List α} {k : Nat} {x : α} (hx : l[k]? = some x) : (l.take (k + 1)).foldl f b = f ((l.take k).foldl f b) x := by
 rw [lO, hx]; simp
theorem insS_len (s : List (List UInt8)) (x : List UInt8) : (insS s x).length ≤ s.length + 1 := by
 unfold insS; cases decide (s[tw (fun y => Op.bytesLess y x) s]? = some x) <;> simp [putAt_len]
theorem take_map' {α : Type} (f : α → List C) (l : List α) (k : Nat) : List.take k (l.map f) = (l.take k).map f := by rw [List.map_take]
theorem drop_map' {α : Type} (f : α → List C) (l : List α) (k : Nat) : List.drop k (l.map f) = (l.drop k).map f := by rw [List.map_drop]
theorem str_put (s : List (List UInt8)) (k : Nat) (x : List UInt8) : (List.map encStr (s.take k) ++ [[C.str x]]) ++ List.map encStr (s.drop k) = (putAt k x s).map encStr := by
 unfold putAt; simp [encStr]
theorem str_end (s : List (List UInt8)) (x : List UInt8) : (List.map encStr s ++ [[C.str x]]) ++ List.map encStr (s.drop s.length) = (putAt s.length x s).map encStr := by
 unfold putAt; simp [encStr]
theorem sorted_c (l : List (List UInt8)) (hl : l.length ≤ 1000000) : PC zP 91 [.one (.dat (.sl 1 (l.map encStr)))] (.one (.dat (.sl 1 ((sortedV l).map encStr)))) := by
 refine PCB.ob Tryz.func91 Tryz.ntmps91 Tryz.results91 ?_
 repeat' (first | (simp only [go_sem, zA, zB, zC, zD, zE, zF, zG, reduceCtorEq, zH, zI, zJ, zK, zL, lB] <;> refine nf ?_) | (refine stp ?_; intro K hK) | (apply hK; clear hK K) | refine stn ?_ | fail)
 refine xD (xI 3 900 rfl rfl rfl rfl) ?_
 refine xD (Gh.fz 900) ?_
 refine sts ?_
 refine xF 0 rfl fun hlen0 => ?_
 (try rw [lB] at hlen0)
 refine xC (S := List (List UInt8)) (l) encStr (fun k s => (4, I .i64 (k : Nat)) :: [(3, .one (.dat (.sl 1 (s.map encStr))))]) (fun k s => []) [0] [] (fun k s => Is s ((l.take k).foldl insS []) ∧ s.length ≤ k) ([]) (by refine sts ?_; exact Gh.tt []) ?_ ?_ ?_
 ·exact ⟨rfl, Nat.le_refl _⟩
 ·intro k s x hlt hx hx' hb hok
  obtain ⟨hok, hsl⟩ := hok
  refine sts ?_
  repeat' (first | (simp only [go_sem, zA, zB, zC, zD, zE, zF, zG, reduceCtorEq, zH, zI, zJ, zK, zL, lB, hb] <;> refine nf ?_) | (refine stp ?_; intro K hK) | (apply hK; clear hK K) | refine stn ?_ | fail)
  refine AWP.loopF (X := Nat) (fun j => [(5, I .i64 j)]) (fun j => []) [0, 3, 4] [] (fun j => j ≤ s.length ∧ tw (fun y => Op.bytesLess y x) s = j + tw (fun y => Op.bytesLess y x) (s.drop j)) (fun j => s.length - j) (0) (by refine sts ?_; exact Gh.tt []) ?_ ?_
  ·exact ⟨Nat.zero_le _, by simp⟩
  rintro j ⟨hj, hp⟩
  refine sts ?_
  by_cases hjl : j < s.length
  ·obtain ⟨y, hy, hy', hbj, _⟩ := at_lt (enc := encStr) hjl
   rw [tw_step hy] at hp
   cases hz : Op.bytesLess y x <;> simp only [hz, cond_true, cond_false, Nat.add_zero] at hp
   ·cases hyx : decide (y = x)
    ·
     repeat' (first | (simp only [go_sem, zA, zB, zC, zD, zE, zF, zG, reduceCtorEq, zH, zI, zJ, zK, zL, lB, hbj, hb, hz, hyx, encStr, Int.toNat_natCast, List.drop_zero, lK, take_map', drop_map', str_put, str_end] <;> refine nf ?_) | (refine stp ?_; intro K hK) | (apply hK; clear hK K) | refine stn ?_ | (with_reducible first | refine ⟨by omega, encStr x, hx', ?_⟩ | refine ⟨by omega, encStr y, hy', ?_⟩ | (refine ⟨(by first | omega | (simp only [lA, lB, lQ, List.length_drop, lC, lD, List.length_replicate]; omega) : _ ≤ _), ?_⟩)) | (with_reducible refine AWP.genR (id := 10) [6, 10] [48] mixed (by kernel_rfl) fun K hK => ?_; simp only [Bx.outs, Bx.drop, cond_true, cond_false, Nat.reduceBEq, go_sem]) | (refine stp' ?_; intro K hK) | refine stq ?_ | (clear hK K))
     all_goals (rw [wrap_succ hlt hlen0])
     all_goals (refine ⟨putAt j x s, ?_, ?_⟩)
     all_goals (try first
      | (refine Gh.trans (Gh.freeze 59 rfl rfl (by simp only [go_sem, zA, zB, zC, zD, zE, zF, zG, reduceCtorEq, zH, zI, zJ, zK, zL, lB, lA]) (by simp only [go_sem, zA, zB, zC, zD, zE, zF, zG, reduceCtorEq, zH, zI, zJ, zK, zL, lB, lA])) ?_; simp only [go_sem, zA, zB, zC, zD, zE, zF, zG, reduceCtorEq, zH, zI, zJ, zK, zL, lB, lA]; exact Gh.tt [])
      | (exact Gh.tt []))
     all_goals (refine ⟨?_, by rw [putAt_len]; omega⟩; rw [Is, foldl_take hx, ← hok, insS, hp, hy]; rw [show decide (some y = some x) = decide (y = x) from by simp, hyx]; try rfl)
    ·
     repeat' (first | (simp only [go_sem, zA, zB, zC, zD, zE, zF, zG, reduceCtorEq, zH, zI, zJ, zK, zL, lB, hbj, hb, hz, hyx, encStr] <;> refine nf ?_) | (refine stp ?_; intro K hK) | (apply hK; clear hK K) | refine stn ?_ | (with_reducible first | refine ⟨by omega, encStr x, hx', ?_⟩ | refine ⟨by omega, encStr y, hy', ?_⟩) | (refine stp' ?_; intro K hK) | (clear hK K))
     all_goals (rw [wrap_succ hlt hlen0])
     all_goals (refine ⟨s, ?_, Gh.tt []⟩)
     all_goals (refine ⟨?_, by omega⟩; rw [Is, foldl_take hx, ← hok, insS, hp, hy]; rw [show decide (some y = some x) = decide (y = x) from by simp, hyx]; try rfl)
   ·
    repeat' (first | (simp only [go_sem, zA, zB, zC, zD, zE, zF, zG, reduceCtorEq, zH, zI, zJ, zK, zL, lB, hbj, hz, encStr] <;> refine nf ?_) | (refine stp ?_; intro K hK) | (apply hK; clear hK K) | refine stn ?_ | (with_reducible first | refine ⟨by omega, encStr x, hx', ?_⟩ | refine ⟨by omega, encStr y, hy', ?_⟩) | (refine stp' ?_; intro K hK) | (clear hK K))
    all_goals (rw [wrap_succ hjl (by omega)])
    all_goals (refine ⟨j + 1, by omega, ⟨by omega, by omega⟩, Gh.tt []⟩)
  ·have hjs : j = s.length := by omega
   subst hjs
   have hbj : decide ((s.length : Int) < (s.length : Int)) = false := by simp
   rw [tw_end, Nat.add_zero] at hp
   have hnone : s[s.length]? = none := by simp
   repeat' (first | (simp only [go_sem, zA, zB, zC, zD, zE, zF, zG, reduceCtorEq, zH, zI, zJ, zK, zL, lB, hbj, hb, encStr, Int.toNat_natCast, List.drop_zero, lK, take_map', drop_map', str_put, str_end] <;> refine nf ?_) | (refine stp ?_; intro K hK) | (apply hK; clear hK K) | refine stn ?_ | (with_reducible first | refine ⟨by omega, encStr x, hx', ?_⟩ | (refine ⟨(by first | omega | (simp only [lA, lB, lQ, List.length_drop, lC, lD, List.length_replicate]; omega) : _ ≤ _), ?_⟩)) | (with_reducible refine AWP.genR (id := 10) [6, 10] [48] mixed (by kernel_rfl) fun K hK => ?_; simp only [Bx.outs, Bx.drop, cond_true, cond_false, Nat.reduceBEq, go_sem]) | (refine stp' ?_; intro K hK) | refine stq ?_ | (clear hK K))
   all_goals (rw [wrap_succ hlt hlen0])
   all_goals (refine ⟨putAt s.length x s, ?_, ?_⟩)
   all_goals (try first
    | (refine Gh.trans (Gh.freeze 59 rfl rfl (by simp only [go_sem, zA, zB, zC, zD, zE, zF, zG, reduceCtorEq, zH, zI, zJ, zK, zL, lB, lA]) (by simp only [go_sem, zA, zB, zC, zD, zE, zF, zG, reduceCtorEq, zH, zI, zJ, zK, zL, lB, lA])) ?_; simp only [go_sem, zA, zB, zC, zD, zE, zF, zG, reduceCtorEq, zH, zI, zJ, zK, zL, lB, lA]; exact Gh.tt [])
    | (exact Gh.tt []))
   all_goals (refine ⟨?_, by rw [putAt_len]; omega⟩; rw [Is, foldl_take hx, ← hok, insS, hp, hnone]; try rfl)
 ·intro s hb hok
  refine sts ?_
  repeat' (first | (simp only [go_sem, zA, zB, zC, zD, zE, zF, zG, reduceCtorEq, zH, zI, zJ, zK, zL, lB, hb] <;> refine nf ?_) | (refine stp ?_; intro K hK) | (apply hK; clear hK K) | refine stn ?_ | (clear hK K))
  all_goals (first | exact nn | refine fin0 ?_)
  all_goals (rw [show s = _ from hok.1, lK]; rfl)
end Go.Proofs.YtajfdbdklphonaaGreat
set_option maxRecDepth 20000
set_option maxHeartbeats 16000000
namespace Go.Proofs.YtajfdbdklphonaaGreat
open Go Go.Sx
def leafP (k n : Int) (t : List UInt8) : Pat := ⟨k, n, t, [], []⟩
def kidsQ (k : Int) (t : List UInt8) (ks : List KeyD) (l : List Pat) : Pat := ⟨k, 0, t, l, ks⟩
theorem leafP_lit (k n : Int) (t : List UInt8) : Pt (leafP k n t) = .st [.int .i64 k, .int .i64 n, .str t, .sl 5 [], .sl 2 []] := by rw [Pt, encP_eq]; rfl
theorem kidsQ_lit (k : Int) (t : List UInt8) (ks : List KeyD) (l : List Pat) : Pt (kidsQ k t ks l) = .st [.int .i64 k, .int .i64 0, .str t, .sl 5 (l.map encP), .sl 2 (ks.map encKey)] := by rw [Pt, encP_eq]; rfl
def rem (s : Src) : Nat := s.l.length - s.pos
theorem rem_next (s : Src) (n : Int) : rem (nextS s n) ≤ rem s := by
 unfold nextS
 cases emptyS s n
 ·simp only [cond_false, rem]; omega
 ·exact Nat.le_refl _
theorem rem_less {s : Src} {n : Int} (h : nextV s n ≠ 0) : rem (nextS s n) < rem s := by
 unfold nextV at h
 unfold nextS
 cases he : emptyS s n
 ·unfold emptyS at he
  rw [Bool.or_eq_false_iff, decide_eq_false_iff_not, decide_eq_false_iff_not] at he
  simp only [cond_false, rem]; omega
 ·rw [he] at h; exact absurd rfl h
mutual
def cntD : Dat → Nat
 | ⟨_, _, _, kids, _, _, _, _, _, _, _, _, _⟩ => 1 + cntDs kids
def cntDs : List Dat → Nat
 | [] => 0
 | d :: l => cntD d + cntDs l
end
theorem cntD_eq (d : Dat) : cntD d = 1 + cntDs d.kids := by cases d; rw [cntD]
theorem cntDs_mem {d : Dat} : ∀ {l : List Dat}, d ∈ l → cntD d ≤ cntDs l
 | x :: l, h => by
  rw [cntDs]
  rcases List.mem_cons.1 h with rfl | h
  ·omega
  ·have := cntDs_mem h; omega
theorem cntD_kid {d k : Dat} (h : k ∈ d.kids) : cntD k < cntD d := by have := cntDs_mem h; have := cntD_eq d; omega
def names3 : List (List UInt8) := [[88], [89], [90]]
def matL (f : Dat → Src → Pat × Src) : List Dat → Src → List Pat × Src
 | [], s => ([], s)
 | d :: l, s => ((f d s).1 :: (matL f l (f d s).2).1, (matL f l (f d s).2).2)
def kM (dep : Nat) (s : Src) : Int := bif decide ((dep : Int) = 0) && decide (3 < nextV s 7) then 1 else nextV s 7
def kdP (k : Int) : Int := bif decide (k = 7) then 8 else bif decide (k = 8) then 9 else 7
def matD : Nat → Nat → Dat → Src → Pat × Src
 | 0, _, _, s => (leafP 1 0 [], s)
 | f + 1, dep, d, s =>
  bif decide (kM dep s = 0) then (leafP 1 0 [], nextS s 7) else
  bif decide (kM dep s = 1) then (leafP 2 0 (names3.getD (nextV (nextS s 7) 3).toNat []), nextS (nextS s 7) 3) else
  bif decide (kM dep s = 2) then (kidsQ 10 [87] [] [(matD f 0 d (nextS s 7)).1], (matD f 0 d (nextS s 7)).2) else
  bif decide (d.kind = 6) || decide (d.kind = 7) || decide (d.kind = 8) then
   (kidsQ (kdP d.kind) [] (bif decide (d.kind = 8) then d.keys else []) (matL (matD f (dep - 1)) d.kids (nextS s 7)).1, (matL (matD f (dep - 1)) d.kids (nextS s 7)).2) else
  bif decide (d.kind = 1) then (leafP 3 d.num [], nextS s 7) else
  bif decide (d.kind = 3) then (leafP 5 0 d.text, nextS s 7) else (leafP 2 0 [86], nextS s 7)
theorem matL_p {p : Src → Prop} {f : Dat → Src → Pat × Src} : ∀ (l : List Dat) (s : Src), (∀ d ∈ l, ∀ s, p s → p (f d s).2) → p s → p (matL f l s).2
 | [], s, _, h => h
 | d :: l, s, hf, h => matL_p l _ (fun x hx => hf x (List.mem_cons_of_mem _ hx)) (hf d (by simp) s h)
theorem mat_p {p : Src → Prop} (hp : ∀ s n, p s → p (nextS s n)) : ∀ (f dep : Nat) (d : Dat) (s : Src), p s → p (matD f dep d s).2
 | 0, dep, d, s, h => h
 | f + 1, dep, d, s, h => by
  unfold matD
  cases decide (kM dep s = 0)
  ·cases decide (kM dep s = 1)
   ·cases decide (kM dep s = 2)
    ·cases decide (d.kind = 6) || decide (d.kind = 7) || decide (d.kind = 8)
     ·cases decide (d.kind = 1)
      ·cases decide (d.kind = 3)
       ·exact hp _ _ h
       ·exact hp _ _ h
      ·exact hp _ _ h
     ·exact matL_p _ _ (fun x _ s h => mat_p hp f _ x s h) (hp _ _ h)
    ·exact mat_p hp f _ _ _ (hp _ _ h)
   ·exact hp _ _ (hp _ _ h)
  ·exact hp _ _ h
theorem mat_ok (f dep : Nat) (d : Dat) (s : Src) (h : s.ok) : (matD f dep d s).2.ok := mat_p (p := Src.ok) (fun s n h => ok_next h n) f dep d s h
theorem mat_rem (f dep : Nat) (d : Dat) (s : Src) : rem (matD f dep d s).2 ≤ rem s := mat_p (p := fun t => rem t ≤ rem s) (fun t n h => Nat.le_trans (rem_next t n) h) f dep d s (Nat.le_refl _)
def MatC (f dep : Nat) (d : Dat) (s : Src) : Prop := PCB zP 5 [Sp pin, Dt d, I .i64 dep] [(pin, srcB s)] (Pt (matD f dep d s).1) [(pin, srcB (matD f dep d s).2)]
theorem mat_0 (f dep : Nat) (d : Dat) (s : Src) (hs : s.ok) (hk : kM dep s = 0) : MatC (f + 1) dep d s := by
 have hv : nextV s 7 = 0 := by
  unfold kM at hk
  cases h : decide ((dep : Int) = 0) && decide (3 < nextV s 7) <;> rw [h] at hk
  ·exact hk
  ·cases hk
 unfold MatC
 cases hd0 : decide ((dep : Int) = 0)
 iterate 2
  ·
   refine PCB.ob Tryz.func5 Tryz.ntmps5 Tryz.results5 ?_
   repeat' (first | (simp only [go_sem, zA, zB, zC, zD, zE, zF, zG, reduceCtorEq, zH, zI, zJ, zK, zL, pin, hd0, hv] <;> refine nf ?_) | (refine stp ?_; intro K hK) | (apply hK; clear hK K) | refine stn ?_ | (refine ⟨1000000, _, _, _, next_k 1000000 s hs _ (by omega), rfl, ?_⟩) | (clear hK K))
   all_goals (try simp only [matD, hk, zb, cond_true, cond_false, decide_true, decide_false, Int.reduceEq, leafP_lit, kidsQ_lit])
   all_goals (refine ⟨by first | trivial | rfl, fun x hx => ?_⟩; simp only [lN] at hx; subst hx; simp)
theorem mat_1 (f dep : Nat) (d : Dat) (s : Src) (hs : s.ok) (hk : kM dep s = 1) : MatC (f + 1) dep d s := by
 have hs1 := ok_next hs 7
 have a1 := nextV_in (nextS s 7) (n := 3) (by omega)
 have hx' : [[C.str [88]], [C.str [89]], [C.str [90]]][(nextV (nextS s 7) 3).toNat]? = some [C.str (names3.getD (nextV (nextS s 7) 3).toNat [])] := lit_get Sx.encStr names3 [] (v := nextV (nextS s 7) 3) a1
 unfold MatC
 have hcs : (∃ b, decide ((dep : Int) = 0) = b ∧ nextV s 7 = 1) ∨ (decide ((dep : Int) = 0) = true ∧ decide (3 < nextV s 7) = true) := by
  unfold kM at hk
  cases h : decide ((dep : Int) = 0) && decide (3 < nextV s 7) <;> rw [h] at hk
  ·exact .inl ⟨_, rfl, hk⟩
  ·rw [Bool.and_eq_true] at h; exact .inr h
 rcases hcs with ⟨b, hd0, hv⟩ | ⟨hd0, h3⟩
 ·cases b
  iterate 2
   ·
    refine PCB.ob Tryz.func5 Tryz.ntmps5 Tryz.results5 ?_
    repeat' (first | (simp only [go_sem, zA, zB, zC, zD, zE, zF, zG, reduceCtorEq, zH, zI, zJ, zK, zL, pin, hd0, hv] <;> refine nf ?_) | (refine stp ?_; intro K hK) | (apply hK; clear hK K) | refine stn ?_ | (with_reducible refine ⟨by omega, _, hx', ?_⟩) | (refine ⟨1000000, _, _, _, next_k 1000000 _ (by first | exact hs | exact hs1) _ (by omega), rfl, ?_⟩) | refine stq ?_ | (clear hK K))
    all_goals (try simp only [matD, hk, zb, cond_true, cond_false, decide_true, decide_false, Int.reduceEq, leafP_lit])
    all_goals (refine ⟨by first | trivial | rfl, fun x hx => ?_⟩; simp only [lN] at hx; subst hx; simp)
 ·
  refine PCB.ob Tryz.func5 Tryz.ntmps5 Tryz.results5 ?_
  repeat' (first | (simp only [go_sem, zA, zB, zC, zD, zE, zF, zG, reduceCtorEq, zH, zI, zJ, zK, zL, pin, hd0, h3] <;> refine nf ?_) | (refine stp ?_; intro K hK) | (apply hK; clear hK K) | refine stn ?_ | (with_reducible refine ⟨by omega, _, hx', ?_⟩) | (refine ⟨1000000, _, _, _, next_k 1000000 _ (by first | exact hs | exact hs1) _ (by omega), rfl, ?_⟩) | refine stq ?_ | (clear hK K))
  all_goals (try simp only [matD, hk, zb, cond_true, cond_false, decide_true, decide_false, Int.reduceEq, leafP_lit])
  all_goals (refine ⟨by first | trivial | rfl, fun x hx => ?_⟩; simp only [lN] at hx; subst hx; simp)
theorem mat_2 (f dep : Nat) (d : Dat) (s : Src) (hs : s.ok) (hk : kM dep s = 2) (IH : MatC f 0 d (nextS s 7)) : MatC (f + 1) dep d s := by
 have hv : nextV s 7 = 2 := by
  unfold kM at hk
  cases h : decide ((dep : Int) = 0) && decide (3 < nextV s 7) <;> rw [h] at hk
  ·exact hk
  ·cases hk
 have c1 : PCBk zP 5 [Sp 1000000, Dt d, I .i64 (0 : Nat)] 1000000 (srcB (nextS s 7)) (Pt (matD f 0 d (nextS s 7)).1) (srcB (matD f 0 d (nextS s 7)).2) := PCBk.mk 1000000 IH
 simp only [Dt, encDat_eq d, Int.natCast_zero, Int.ofNat_zero] at c1
 have e1 : ∀ p : Pat, [encP p] = [p].map encP := fun p => rfl
 unfold MatC
 cases hd0 : decide ((dep : Int) = 0)
 iterate 2
  ·
   refine PCB.ob Tryz.func5 Tryz.ntmps5 Tryz.results5 ?_
   repeat' (first | (simp only [go_sem, zA, zB, zC, zD, zE, zF, zG, reduceCtorEq, zH, zI, zJ, zK, zL, pin, hd0, hv, encDat_eq d] <;> refine nf ?_) | (refine stp ?_; intro K hK) | (apply hK; clear hK K) | refine stn ?_ | (refine ⟨1000000, _, _, _, next_k 1000000 s hs _ (by omega), rfl, ?_⟩) | (refine ⟨1000000, _, _, _, c1, rfl, ?_⟩) | refine stq ?_ | (clear hK K))
   all_goals (try simp only [matD, hk, zb, cond_true, cond_false, decide_true, decide_false, Int.reduceEq, leafP_lit, kidsQ_lit, List.map_cons, lF])
   all_goals (refine ⟨by first | trivial | rfl, fun x hx => ?_⟩; simp only [lN] at hx; subst hx; simp)
theorem kM_rest {dep : Nat} {s : Src} (h0 : kM dep s ≠ 0) (h1 : kM dep s ≠ 1) (h2 : kM dep s ≠ 2) : decide (nextV s 7 = 0) = false ∧ decide (nextV s 7 = 1) = false ∧ decide (nextV s 7 = 2) = false ∧ ((decide ((dep : Int) = 0) = false ∧ ∃ b, decide (3 < nextV s 7) = b) ∨ (decide ((dep : Int) = 0) = true ∧ decide (3 < nextV s 7) = false)) := by
 unfold kM at h0 h1 h2
 cases hd : decide ((dep : Int) = 0)
 ·rw [hd] at h0 h1 h2
  exact ⟨decide_eq_false h0, decide_eq_false h1, decide_eq_false h2, .inl ⟨rfl, _, rfl⟩⟩
 ·cases h : decide (3 < nextV s 7) <;> rw [hd, h] at h0 h1 h2
  ·exact ⟨decide_eq_false h0, decide_eq_false h1, decide_eq_false h2, .inr ⟨rfl, rfl⟩⟩
  ·exact absurd rfl h1
theorem matD_rest {f dep : Nat} {d : Dat} {s : Src} (h0 : kM dep s ≠ 0) (h1 : kM dep s ≠ 1) (h2 : kM dep s ≠ 2) : matD (f + 1) dep d s =
    bif decide (d.kind = 6) || decide (d.kind = 7) || decide (d.kind = 8) then
      (kidsQ (kdP d.kind) [] (bif decide (d.kind = 8) then d.keys else []) (matL (matD f (dep - 1)) d.kids (nextS s 7)).1, (matL (matD f (dep - 1)) d.kids (nextS s 7)).2) else
    bif decide (d.kind = 1) then (leafP 3 d.num [], nextS s 7) else
    bif decide (d.kind = 3) then (leafP 5 0 d.text, nextS s 7) else (leafP 2 0 [86], nextS s 7) := by
  rw [matD, decide_eq_false h0, decide_eq_false h1, decide_eq_false h2]; rfl
theorem mat_leaf (f dep : Nat) (d : Dat) (s : Src) (hs : s.ok) (h0 : kM dep s ≠ 0) (h1 : kM dep s ≠ 1) (h2 : kM dep s ≠ 2) (h6 : decide (d.kind = 6) = false) (h7 : decide (d.kind = 7) = false) (h8 : decide (d.kind = 8) = false) : MatC (f + 1) dep d s := by
 unfold MatC
 rw [matD_rest h0 h1 h2, h6, h7, h8]
 obtain ⟨e0, e1, e2, ⟨hd0, b, h3⟩ | ⟨hd0, h3⟩⟩ := kM_rest h0 h1 h2
 ·cases b
  iterate 2
   ·cases k1 : decide (d.kind = 1) <;> cases k3 : decide (d.kind = 3)
    iterate 4
     ·
      refine PCB.ob Tryz.func5 Tryz.ntmps5 Tryz.results5 ?_
      repeat' (first | (simp only [go_sem, zA, zB, zC, zD, zE, zF, zG, reduceCtorEq, zH, zI, zJ, zK, zL, pin, hd0, h3, e0, e1, e2, h6, h7, h8, k1, k3, encDat_eq d] <;> refine nf ?_) | (refine stp ?_; intro K hK) | (apply hK; clear hK K) | refine stn ?_ | (refine ⟨1000000, _, _, _, next_k 1000000 s hs _ (by omega), rfl, ?_⟩) | (clear hK K))
      all_goals (try simp only [zb, cond_true, cond_false, Bool.or_self, decide_true, decide_false, Int.reduceEq, leafP_lit])
      all_goals (refine ⟨by first | trivial | rfl, fun x hx => ?_⟩; simp only [lN] at hx; subst hx; simp)
 ·cases k1 : decide (d.kind = 1) <;> cases k3 : decide (d.kind = 3)
  iterate 4
   ·
    refine PCB.ob Tryz.func5 Tryz.ntmps5 Tryz.results5 ?_
    repeat' (first | (simp only [go_sem, zA, zB, zC, zD, zE, zF, zG, reduceCtorEq, zH, zI, zJ, zK, zL, pin, hd0, h3, e0, e1, e2, h6, h7, h8, k1, k3, encDat_eq d] <;> refine nf ?_) | (refine stp ?_; intro K hK) | (apply hK; clear hK K) | refine stn ?_ | (refine ⟨1000000, _, _, _, next_k 1000000 s hs _ (by omega), rfl, ?_⟩) | (clear hK K))
    all_goals (try simp only [zb, cond_true, cond_false, Bool.or_self, decide_true, decide_false, Int.reduceEq, leafP_lit])
    all_goals (refine ⟨by first | trivial | rfl, fun x hx => ?_⟩; simp only [lN] at hx; subst hx; simp)
theorem matL_step (f : Dat → Src → Pat × Src) {l : List Dat} {k : Nat} {x : Dat} (hx : l[k]? = some x) (s : Src) (acc : List Pat) : (acc ++ (matL f (l.drop k) s).1, (matL f (l.drop k) s).2) = ((acc ++ [(f x s).1]) ++ (matL f (l.drop (k + 1)) (f x s).2).1, (matL f (l.drop (k + 1)) (f x s).2).2) := by
 obtain ⟨hk, rfl⟩ := List.getElem?_eq_some_iff.1 hx
 rw [List.drop_eq_getElem_cons hk, matL]; simp
abbrev patBox (k : Int) (n : Nat) (keys : C) : Res := .cells [.dat (.int .i64 k), .dat (.int .i64 0), .dat (.str []), .own 900 n, .dat keys]
theorem pat_snoc (l : List Pat) (p : Pat) : l.map encP ++ [encP p] = (l ++ [p]).map encP := by simp
theorem mat_kids6 (f dep : Nat) (hdp : dep ≤ 1000) (d : Dat) (s : Src) (hs : s.ok) (hl : d.kids.length ≤ 1000000) (h0 : kM dep s ≠ 0) (h1 : kM dep s ≠ 1) (h2 : kM dep s ≠ 2) (hk : d.kind = 6) (IH : ∀ x ∈ d.kids, ∀ t : Src, t.ok → rem t ≤ rem (nextS s 7) → MatC f (dep - 1) x t) : MatC (f + 1) dep d s := by
  unfold MatC
  rw [matD_rest h0 h1 h2]
  have hsel : (bif decide (d.kind = 6) || decide (d.kind = 7) || decide (d.kind = 8) then
      (kidsQ (kdP d.kind) [] (bif decide (d.kind = 8) then d.keys else []) (matL (matD f (dep - 1)) d.kids (nextS s 7)).1, (matL (matD f (dep - 1)) d.kids (nextS s 7)).2) else
    bif decide (d.kind = 1) then (leafP 3 d.num [], nextS s 7) else
    bif decide (d.kind = 3) then (leafP 5 0 d.text, nextS s 7) else (leafP 2 0 [86], nextS s 7)) = (kidsQ 7 [] [] (matL (matD f (dep - 1)) d.kids (nextS s 7)).1, (matL (matD f (dep - 1)) d.kids (nextS s 7)).2) := by rw [hk]; rfl
  rw [hsel]
  have hs1 := ok_next hs 7
  have hmx : (if (0 : Int) > IntKind.i64.wrap ((dep : Int) - 1) then (0 : Int) else IntKind.i64.wrap ((dep : Int) - 1)) = ((dep - 1 : Nat) : Int) := by
    rw [w64 (by omega)]
    split <;> omega
  have hkd : ∀ n : Int, decide (d.kind = n) = decide (6 = n) := fun n => by rw [hk]
  obtain ⟨e0, e1, e2, hcs⟩ := kM_rest h0 h1 h2
  have hcs' : (decide ((dep : Int) = 0) = false ∧ decide (3 < nextV s 7) = false) ∨ (decide ((dep : Int) = 0) = false ∧ decide (3 < nextV s 7) = true) ∨ (decide ((dep : Int) = 0) = true ∧ decide (3 < nextV s 7) = false) := by
    rcases hcs with ⟨a, b, c⟩ | ⟨a, c⟩
    · cases b
      · exact .inl ⟨a, c⟩
      · exact .inr (.inl ⟨a, c⟩)
    · exact .inr (.inr ⟨a, c⟩)
  rcases hcs' with ⟨hd0, h3⟩ | ⟨hd0, h3⟩ | ⟨hd0, h3⟩
  iterate 3
    ·
      refine PCB.ob Tryz.func5 Tryz.ntmps5 Tryz.results5 ?_
      repeat' (first | (simp only [go_sem, zA, zB, zC, zD, zE, zF, zG, reduceCtorEq, zH, zI, zJ, zK, zL, pin, hd0, h3, e0, e1, e2, hkd, encDat_eq d, lB] <;> refine nf ?_) | (refine stp ?_; intro K hK) | (apply hK; clear hK K) | refine stn ?_ | (refine ⟨1000000, _, _, _, next_k 1000000 s hs _ (by omega), rfl, ?_⟩) | fail)
      refine xD (Gh.nilcell 8 3 900 rfl rfl rfl (by simp only [go_sem, zA, zB, zC, zD, zE, zF, zG, reduceCtorEq, zH, zI, zJ, zK, zL]) (by simp only [go_sem, zA, zB, zC, zD, zE, zF, zG, reduceCtorEq, zH, zI, zJ, zK, zL])) ?_
      refine xE 4 3 rfl rfl fun hlen0 => ?_
      (try rw [lB] at hlen0)
      refine xC (S := List Pat × Src) (d.kids) encDat (fun k s => (70, I .i64 (k : Nat)) :: [(0, Sp 1000000)]) (fun k s => [(1000000, srcB s.2), (8, patBox 7 s.1.length (.nil 2)), (900, .row 5 (s.1.map encP))]) [2, 6, 8, 68, 69] [6] (fun k t => t.2.ok ∧ rem t.2 ≤ rem (nextS s 7) ∧ t.1.length = k ∧ matL (matD f (dep - 1)) d.kids (nextS s 7) = (t.1 ++ (matL (matD f (dep - 1)) (d.kids.drop k) t.2).1, (matL (matD f (dep - 1)) (d.kids.drop k) t.2).2)) (([], nextS s 7)) (by simp only [go_sem, zA, zB, zC, zD, zE, zF, zG, reduceCtorEq, zH, zI, zJ, zK, zL, encDat_eq d]; exact Gh.tt []) ?_ ?_ ?_
      · exact ⟨hs1, Nat.le_refl _, rfl, rfl⟩
      · rintro k t x hlt hx hx' hb ⟨ht, hr, htl, hok⟩
        refine sts ?_
        rw [matL_step _ hx] at hok
        have c1 : PCBk zP 5 [Sp 1000000, Dt x, I .i64 (dep - 1 : Nat)] 1000000 (srcB t.2) (Pt (matD f (dep - 1) x t.2).1) (srcB (matD f (dep - 1) x t.2).2) := PCBk.mk 1000000 (IH x (lP hx) t.2 ht hr)
        have hmo := mat_ok f (dep - 1) x t.2 ht
        have hmr := mat_rem f (dep - 1) x t.2
        repeat' (first | (simp only [go_sem, zA, zB, zC, zD, zE, zF, zG, reduceCtorEq, zH, zI, zJ, zK, zL, pin, hb, hmx, encDat_eq d, lB, pat_snoc] <;> refine nf ?_) | (refine stp ?_; intro K hK) | (apply hK; clear hK K) | refine stn ?_ | (with_reducible first | refine ⟨by omega, encDat x, hx', ?_⟩ | (refine ⟨(by first | omega | (simp only [lA, lB, lQ, List.length_drop, lC, lD, List.length_replicate]; omega) : _ ≤ _), ?_⟩)) | (refine ⟨1000000, _, _, _, c1, rfl, ?_⟩) | (with_reducible refine AWP.genR2 (id := 19) [7,9,11] [1000000,8,900] [1] 11 [1000000,900] mixed (by kernel_rfl) fun K hK => ?_; simp only [Bx.outs, Bx.drop, cond_true, cond_false, Nat.reduceBEq, go_sem]) | (clear hK K))
        all_goals (rw [wrap_succ hlt hlen0])
        all_goals (refine ⟨(t.1 ++ [(matD f (dep - 1) x t.2).1], (matD f (dep - 1) x t.2).2), ?_, Gh.tt [(900, 83)]⟩)
        all_goals exact ⟨hmo, by simp only; omega, by simp [htl], hok⟩
      · rintro t hb ⟨ht, hr, htl, hok⟩
        refine sts ?_
        rw [lL, matL, List.append_nil] at hok
        refine xD (Gh.fz 900) ?_
        simp only [go_sem, zA, zB, zC, zD, zE, zF, zG, reduceCtorEq, zH, zI, zJ, zK, zL, lB]
        repeat' (first | (simp only [go_sem, zA, zB, zC, zD, zE, zF, zG, reduceCtorEq, zH, zI, zJ, zK, zL, pin, hb, encDat_eq d, lB] <;> refine nf ?_) | (refine stp ?_; intro K hK) | (apply hK; clear hK K) | refine stn ?_ | (clear hK K))
        all_goals (rw [hok]; simp only [kidsQ_lit, lF])
        all_goals (refine ⟨by first | trivial | rfl, fun x hx => ?_⟩; simp only [lN] at hx; subst hx; simp)
theorem mat_kids7 (f dep : Nat) (hdp : dep ≤ 1000) (d : Dat) (s : Src) (hs : s.ok) (hl : d.kids.length ≤ 1000000) (h0 : kM dep s ≠ 0) (h1 : kM dep s ≠ 1) (h2 : kM dep s ≠ 2) (hk : d.kind = 7) (IH : ∀ x ∈ d.kids, ∀ t : Src, t.ok → rem t ≤ rem (nextS s 7) → MatC f (dep - 1) x t) : MatC (f + 1) dep d s := by
  unfold MatC
  rw [matD_rest h0 h1 h2]
  have hsel : (bif decide (d.kind = 6) || decide (d.kind = 7) || decide (d.kind = 8) then
      (kidsQ (kdP d.kind) [] (bif decide (d.kind = 8) then d.keys else []) (matL (matD f (dep - 1)) d.kids (nextS s 7)).1, (matL (matD f (dep - 1)) d.kids (nextS s 7)).2) else
    bif decide (d.kind = 1) then (leafP 3 d.num [], nextS s 7) else
    bif decide (d.kind = 3) then (leafP 5 0 d.text, nextS s 7) else (leafP 2 0 [86], nextS s 7)) = (kidsQ 8 [] [] (matL (matD f (dep - 1)) d.kids (nextS s 7)).1, (matL (matD f (dep - 1)) d.kids (nextS s 7)).2) := by rw [hk]; rfl
  rw [hsel]
  have hs1 := ok_next hs 7
  have hmx : (if (0 : Int) > IntKind.i64.wrap ((dep : Int) - 1) then (0 : Int) else IntKind.i64.wrap ((dep : Int) - 1)) = ((dep - 1 : Nat) : Int) := by
    rw [w64 (by omega)]
    split <;> omega
  have hkd : ∀ n : Int, decide (d.kind = n) = decide (7 = n) := fun n => by rw [hk]
  obtain ⟨e0, e1, e2, hcs⟩ := kM_rest h0 h1 h2
  have hcs' : (decide ((dep : Int) = 0) = false ∧ decide (3 < nextV s 7) = false) ∨ (decide ((dep : Int) = 0) = false ∧ decide (3 < nextV s 7) = true) ∨ (decide ((dep : Int) = 0) = true ∧ decide (3 < nextV s 7) = false) := by
    rcases hcs with ⟨a, b, c⟩ | ⟨a, c⟩
    · cases b
      · exact .inl ⟨a, c⟩
      · exact .inr (.inl ⟨a, c⟩)
    · exact .inr (.inr ⟨a, c⟩)
  rcases hcs' with ⟨hd0, h3⟩ | ⟨hd0, h3⟩ | ⟨hd0, h3⟩
  iterate 3
    ·
      refine PCB.ob Tryz.func5 Tryz.ntmps5 Tryz.results5 ?_
      repeat' (first | (simp only [go_sem, zA, zB, zC, zD, zE, zF, zG, reduceCtorEq, zH, zI, zJ, zK, zL, pin, hd0, h3, e0, e1, e2, hkd, encDat_eq d, lB] <;> refine nf ?_) | (refine stp ?_; intro K hK) | (apply hK; clear hK K) | refine stn ?_ | (refine ⟨1000000, _, _, _, next_k 1000000 s hs _ (by omega), rfl, ?_⟩) | fail)
      refine xD (Gh.nilcell 8 3 900 rfl rfl rfl (by simp only [go_sem, zA, zB, zC, zD, zE, zF, zG, reduceCtorEq, zH, zI, zJ, zK, zL]) (by simp only [go_sem, zA, zB, zC, zD, zE, zF, zG, reduceCtorEq, zH, zI, zJ, zK, zL])) ?_
      refine xE 4 3 rfl rfl fun hlen0 => ?_
      (try rw [lB] at hlen0)
      refine xC (S := List Pat × Src) (d.kids) encDat (fun k s => (70, I .i64 (k : Nat)) :: [(0, Sp 1000000)]) (fun k s => [(1000000, srcB s.2), (8, patBox 8 s.1.length (.nil 2)), (900, .row 5 (s.1.map encP))]) [2, 6, 8, 68, 69] [6] (fun k t => t.2.ok ∧ rem t.2 ≤ rem (nextS s 7) ∧ t.1.length = k ∧ matL (matD f (dep - 1)) d.kids (nextS s 7) = (t.1 ++ (matL (matD f (dep - 1)) (d.kids.drop k) t.2).1, (matL (matD f (dep - 1)) (d.kids.drop k) t.2).2)) (([], nextS s 7)) (by simp only [go_sem, zA, zB, zC, zD, zE, zF, zG, reduceCtorEq, zH, zI, zJ, zK, zL, encDat_eq d]; exact Gh.tt []) ?_ ?_ ?_
      · exact ⟨hs1, Nat.le_refl _, rfl, rfl⟩
      · rintro k t x hlt hx hx' hb ⟨ht, hr, htl, hok⟩
        refine sts ?_
        rw [matL_step _ hx] at hok
        have c1 : PCBk zP 5 [Sp 1000000, Dt x, I .i64 (dep - 1 : Nat)] 1000000 (srcB t.2) (Pt (matD f (dep - 1) x t.2).1) (srcB (matD f (dep - 1) x t.2).2) := PCBk.mk 1000000 (IH x (lP hx) t.2 ht hr)
        have hmo := mat_ok f (dep - 1) x t.2 ht
        have hmr := mat_rem f (dep - 1) x t.2
        repeat' (first | (simp only [go_sem, zA, zB, zC, zD, zE, zF, zG, reduceCtorEq, zH, zI, zJ, zK, zL, pin, hb, hmx, encDat_eq d, lB, pat_snoc] <;> refine nf ?_) | (refine stp ?_; intro K hK) | (apply hK; clear hK K) | refine stn ?_ | (with_reducible first | refine ⟨by omega, encDat x, hx', ?_⟩ | (refine ⟨(by first | omega | (simp only [lA, lB, lQ, List.length_drop, lC, lD, List.length_replicate]; omega) : _ ≤ _), ?_⟩)) | (refine ⟨1000000, _, _, _, c1, rfl, ?_⟩) | (with_reducible refine AWP.genR2 (id := 19) [7,9,11] [1000000,8,900] [1] 11 [1000000,900] mixed (by kernel_rfl) fun K hK => ?_; simp only [Bx.outs, Bx.drop, cond_true, cond_false, Nat.reduceBEq, go_sem]) | (clear hK K))
        all_goals (rw [wrap_succ hlt hlen0])
        all_goals (refine ⟨(t.1 ++ [(matD f (dep - 1) x t.2).1], (matD f (dep - 1) x t.2).2), ?_, Gh.tt [(900, 83)]⟩)
        all_goals exact ⟨hmo, by simp only; omega, by simp [htl], hok⟩
      · rintro t hb ⟨ht, hr, htl, hok⟩
        refine sts ?_
        rw [lL, matL, List.append_nil] at hok
        refine xD (Gh.fz 900) ?_
        simp only [go_sem, zA, zB, zC, zD, zE, zF, zG, reduceCtorEq, zH, zI, zJ, zK, zL, lB]
        repeat' (first | (simp only [go_sem, zA, zB, zC, zD, zE, zF, zG, reduceCtorEq, zH, zI, zJ, zK, zL, pin, hb, encDat_eq d, lB] <;> refine nf ?_) | (refine stp ?_; intro K hK) | (apply hK; clear hK K) | refine stn ?_ | (clear hK K))
        all_goals (rw [hok]; simp only [kidsQ_lit, lF])
        all_goals (refine ⟨by first | trivial | rfl, fun x hx => ?_⟩; simp only [lN] at hx; subst hx; simp)
end Go.Proofs.YtajfdbdklphonaaGreat