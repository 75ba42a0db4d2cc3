/- Lemmas; conditions: as each states. -/
import Derived.Test.YtajfdbdklphonaaGreatDm8
open Go.Proofs.Tryz renaming prog → zP
open List renaming length_map → lB, mem_singleton → lN
open Go.Sx.AWP renaming gh → xD
open Nat renaming reduceBEq → zA, reduceBNe → zB, reduceAdd → zC, reduceSub → zD, reduceMul → zE, reduceLeDiff → zF, reduceLT → zG, reduceEqDiff → zH
open Int renaming reduceToNat → zI, reduceLE → zJ, reduceLT → zK, reduceEq → zL
open Bool renaming not_eq_true' → zM, not_eq_false' → zN
set_option linter.unusedVariables false
set_option linter.unusedSimpArgs false
set_option maxRecDepth 20000
set_option maxHeartbeats 1000000
namespace Go.Proofs.YtajfdbdklphonaaGreat
open Go Go.Sx
def atoms4 : List (List UInt8) := [[116, 114, 117, 101], [102, 97, 108, 115, 101], [97], [111, 107]]
def mods2 : List (List UInt8) := [[109], [110]]
def funDat (s : Src) : Dat := { zeroDat with kind := 9, num := nextV s 3, mod := mods2.getD (nextV (nextS s 3) 2).toNat [], version := 1 + nextV (nextS (nextS s 3) 2) 2, routine := nextV (nextS (nextS (nextS s 3) 2) 2) 2 }
def madeBase (k : Int) (s : Src) : Dat × Src :=
 bif decide (k = 1) then (atomDat (atoms4.getD (nextV s 4).toNat []), nextS s 4) else
 bif decide (k = 2) then ({ zeroDat with kind := 2, text := wordV s }, nextS s 4) else
 bif decide (k = 3) then ({ zeroDat with kind := 4, num := nextV s 4 }, nextS s 4) else
 bif decide (k = 4) then ({ zeroDat with kind := 5 }, s) else
 bif decide (k = 5) then (funDat s, nextS (nextS (nextS (nextS s 3) 2) 2) 2) else
 bif decide (k = 6) then (intDat (numV s), nextS s 10) else
 (intDat (nextV s 5 - 1), nextS s 5)
def made0 (s : Src) : Dat × Src := madeBase (bif decide (6 < nextV s 12) then 0 else nextV s 12) (nextS s 12)
def node14 (n : Nat) : NodeD := ⟨14, 0, 0, [], List.replicate n 1, [], 0, 0⟩
def node2 : NodeD := ⟨2, 0, 0, [], [], [], 0, 0⟩
def wrapD (f : Dat) : Dat := { zeroDat with kind := 9, num := f.num, kids := [f], wrapped := true, nodes := [node14 (f.num + 1).toNat, node2], inner := [109], outer := [110] }
def consDat (a b : Dat) : Dat := { zeroDat with kind := 7, kids := [a, b] }
def madeN (f : Src → Dat × Src) : Nat → Src → List Dat → List Dat × Src
 | 0, s, acc => (acc, s)
 | n + 1, s, acc => madeN f n (f s).2 (acc ++ [(f s).1])
def listN (f : Src → Dat × Src) : Nat → Src → Dat → Dat × Src
 | 0, s, t => (t, s)
 | n + 1, s, t => listN f n (f s).2 (consDat (f s).1 t)
def mapN (f : Src → Dat × Src) : Nat → Src → Dat → Dat × Src
 | 0, s, m => (m, s)
 | n + 1, s, m => mapN f n (f (keyV s).2).2 (putR m (keyV s).1 (f (keyV s).2).1).1
def made : Nat → Src → Dat × Src
 | 0, s => made0 s
 | d + 1, s =>
  bif decide (nextV s 12 ≤ 6) then madeBase (nextV s 12) (nextS s 12) else
  bif decide (nextV s 12 = 7) then (bif decide ((made0 (nextS s 12)).1.kind = 9) then (wrapD (made0 (nextS s 12)).1, (made0 (nextS s 12)).2) else made0 (nextS s 12)) else
  bif decide (nextV s 12 ≤ 9) then
   ({ zeroDat with kind := 6, kids := (madeN (made d) (nextV (nextS s 12) 4).toNat (nextS (nextS s 12) 4) []).1 }, (madeN (made d) (nextV (nextS s 12) 4).toNat (nextS (nextS s 12) 4) []).2) else
  bif decide (nextV s 12 = 10) then listN (made d) (1 + nextV (nextS s 12) 2).toNat (nextS (nextS s 12) 2) { zeroDat with kind := 5 } else
  mapN (made d) (nextV (nextS s 12) 3).toNat (nextS (nextS s 12) 3) { zeroDat with kind := 8 }
theorem ok_base {k : Int} {s : Src} (h : s.ok) : (madeBase k s).2.ok := by
 unfold madeBase
 cases decide (k = 1) <;> cases decide (k = 2) <;> cases decide (k = 3) <;> cases decide (k = 4) <;> cases decide (k = 5) <;> cases decide (k = 6) <;>
  first | exact ok_next h _ | exact h | exact ok_next (ok_next (ok_next (ok_next h 3) 2) 2) 2
theorem ok_made0 {s : Src} (h : s.ok) : (made0 s).2.ok := ok_base (ok_next h 12)
theorem ok_madeN {f : Src → Dat × Src} (hf : ∀ s : Src, s.ok → (f s).2.ok) : ∀ (n : Nat) (s : Src) (acc : List Dat), s.ok → (madeN f n s acc).2.ok
 | 0, s, acc, h => h
 | n + 1, s, acc, h => ok_madeN hf n _ _ (hf s h)
theorem ok_listN {f : Src → Dat × Src} (hf : ∀ s : Src, s.ok → (f s).2.ok) : ∀ (n : Nat) (s : Src) (t : Dat), s.ok → (listN f n s t).2.ok
 | 0, s, t, h => h
 | n + 1, s, t, h => ok_listN hf n _ _ (hf s h)
theorem ok_mapN {f : Src → Dat × Src} (hf : ∀ s : Src, s.ok → (f s).2.ok) : ∀ (n : Nat) (s : Src) (t : Dat), s.ok → (mapN f n s t).2.ok
 | 0, s, t, h => h
 | n + 1, s, t, h => ok_mapN hf n _ _ (hf _ (ok_key h))
theorem ok_made : ∀ (d : Nat) {s : Src}, s.ok → (made d s).2.ok
 | 0, s, h => ok_made0 h
 | d + 1, s, h => by
  have h1 := ok_next h 12
  have hf : ∀ s : Src, s.ok → (made d s).2.ok := fun s h => ok_made d h
  unfold made
  cases decide (nextV s 12 ≤ 6) <;> cases decide (nextV s 12 = 7) <;> cases decide (nextV s 12 ≤ 9) <;> cases decide (nextV s 12 = 10) <;> cases decide ((made0 (nextS s 12)).1.kind = 9) <;>
   first | exact ok_base h1 | exact ok_made0 h1 | exact ok_madeN hf _ _ _ (ok_next h1 4) | exact ok_listN hf _ _ _ (ok_next h1 2) | exact ok_mapN hf _ _ _ (ok_next h1 3)
theorem made0_fun (s : Src) (h : (made0 s).1.kind = 9) : 0 ≤ (made0 s).1.num ∧ (made0 s).1.num ≤ 2 := by
 unfold made0 at *
 generalize nextS s 12 = s1 at *
 generalize (bif decide (6 < nextV s 12) then (0 : Int) else nextV s 12) = k at *
 unfold madeBase at *
 have hv := nextV_in s1 (n := 3) (by omega)
 cases h1 : decide (k = 1) <;> cases h2 : decide (k = 2) <;> cases h3 : decide (k = 3) <;> cases h4 : decide (k = 4) <;> cases h5 : decide (k = 5) <;> cases h6 : decide (k = 6) <;>
  simp only [h1, h2, h3, h4, h5, h6, cond_true, cond_false, atomDat, intDat, zeroDat, funDat] at h ⊢ <;> first | omega | (simp at h)
end Go.Proofs.YtajfdbdklphonaaGreat
set_option maxRecDepth 20000
set_option maxHeartbeats 4000000
namespace Go.Proofs.YtajfdbdklphonaaGreat
open Go Go.Sx
def MadeC (d : Nat) : Prop := ∀ s : Src, s.ok → PCB zP 4 [Sp pin, I .i64 d] [(pin, srcB s)] (Dt (made d s).1) [(pin, srcB (made d s).2)]
theorem MadeC.k {d : Nat} (h : MadeC d) (k : Nat) (s : Src) (hs : s.ok) : PCBk zP 4 [Sp k, I .i64 d] k (srcB s) (Dt (made d s).1) (srcB (made d s).2) := PCBk.mk k (h s hs)
theorem dec_pos {n : Nat} : decide ((0 : Int) < ((n + 1 : Nat) : Int)) = true := by simp
theorem wrap_pred_nat {n : Nat} (hm : n ≤ 1000000) : IntKind.i64.wrap (((n + 1 : Nat) : Int) - 1) = (n : Int) := by rw [w64 (by omega)]; omega
theorem made_c8 (d : Nat) (hd : d ≤ 1000) (IH : MadeC d) (s : Src) (hs : s.ok) (hk : nextV s 12 = 8) :
    PCB zP 4 [Sp pin, I .i64 (d + 1 : Nat)] [(pin, srcB s)] (Dt (made (d + 1) s).1) [(pin, srcB (made (d + 1) s).2)] := by
  have hM : made (d + 1) s = ({ zeroDat with kind := 6, kids := (madeN (made d) (nextV (nextS s 12) 4).toNat (nextS (nextS s 12) 4) []).1 }, (madeN (made d) (nextV (nextS s 12) 4).toNat (nextS (nextS s 12) 4) []).2) := by
    simp only [made, hk]; rfl
  rw [hM]
  refine PCB.ob Tryz.func4 Tryz.ntmps4 Tryz.results4 ?_
  refine AWP.ghQ ?_
  have hs1 := ok_next hs 12
  have a1 := nextV_in (nextS s 12) (n := 4) (by omega)
  have hgt : decide ((6 : Int) < 8) = true := by decide
  have hd0 : decide (((d + 1 : Nat) : Int) = 0) = false := by simp; omega
  have hn : nextV (nextS s 12) 4 = (((nextV (nextS s 12) 4).toNat : Nat) : Int) := by omega
  repeat' (first | (simp only [go_sem, zA, zB, zC, zD, zE, zF, zG, reduceCtorEq, zH, zI, zJ, zK, zL, pin, hk, hgt, hd0] <;> refine nf ?_) | (refine stp ?_; intro K hK) | (apply hK; clear hK K) | refine stn ?_ | (refine ⟨1000000, _, _, _, next_k 1000000 _ (by repeat (first | with_reducible exact hs | with_reducible refine ok_next ?_ _)) _ (by omega), rfl, ?_⟩) | fail)
  refine xD (Gh.nilrow 9 900 rfl rfl rfl rfl) ?_
  rw [hn]
  refine AWP.loopS (X := Nat × Src × List Dat) (fun x => [(10, I .i64 x.1), (9, .one (.own 900 x.2.2.length)), (0, Sp 1000000), (1, I .i64 (d + 1 : Nat)), (4, Sp 4)])
    (fun x => [(1000000, srcB x.2.1), (4, zeroB), Dr 900 x.2.2])
    (fun x => x.1 + x.2.2.length ≤ 1000 ∧ x.2.1.ok ∧ madeN (made d) (nextV (nextS s 12) 4).toNat (nextS (nextS s 12) 4) [] = madeN (made d) x.1 x.2.1 x.2.2) (fun x => x.1) ((nextV (nextS s 12) 4).toNat, nextS (nextS s 12) 4, []) (Gh.tt []) ⟨by simp; omega, ok_next hs1 _, rfl⟩ ?_
  rintro ⟨n, t, acc⟩ ⟨hl, ht, hp⟩
  simp only at hl ht hp
  cases n with
  | succ n =>
    rw [madeN] at hp
    have hw : IntKind.i64.wrap (((d + 1 : Nat) : Int) - 1) = (d : Int) := wrap_pred_nat (by omega)
    have hw2 : IntKind.i64.wrap (((n + 1 : Nat) : Int) - 1) = (n : Int) := wrap_pred_nat (by omega)
    repeat' (first | (simp only [go_sem, zA, zB, zC, zD, zE, zF, zG, reduceCtorEq, zH, zI, zJ, zK, zL, pin, lB, dec_pos, hw, hw2, dat_snoc] <;> refine nf ?_) | (refine stp ?_; intro K hK) | (apply hK; clear hK K) | refine stn ?_ | (with_reducible refine ⟨by omega, ?_⟩) | (refine ⟨1000000, _, _, _, IH.k 1000000 t ht, rfl, ?_⟩) | refine stq ?_ | (clear hK K))
    all_goals (refine ⟨(n, (made d t).2, acc ++ [(made d t).1]), by simp only; omega, ⟨by simp only [List.length_append, List.length_cons, List.length_nil]; omega, ok_made d ht, hp⟩, Gh.tt [(900, 115)]⟩)
  | zero =>
    rw [madeN] at hp
    have h0 : decide ((0 : Int) < ((0 : Nat) : Int)) = false := by simp
    repeat' (first | (simp only [go_sem, zA, zB, zC, zD, zE, zF, zG, reduceCtorEq, zH, zI, zJ, zK, zL, pin, h0] <;> refine nf ?_) | (refine stp ?_; intro K hK) | (apply hK; clear hK K) | refine stn ?_ | (clear hK K))
    refine ⟨_, Gh.fz 900, ?_⟩
    simp only [go_sem, zA, zB, zC, zD, zE, zF, zG, reduceCtorEq, zH, zI, zJ, zK, zL, lB]
    all_goals (refine ⟨by simp only [hp, Dt, encDat_eq, zeroDat]; rfl, fun x hx => ?_⟩)
    all_goals (simp only [lN] at hx; subst hx; simp [hp, pin])
theorem made_c9 (d : Nat) (hd : d ≤ 1000) (IH : MadeC d) (s : Src) (hs : s.ok) (hk : nextV s 12 = 9) :
    PCB zP 4 [Sp pin, I .i64 (d + 1 : Nat)] [(pin, srcB s)] (Dt (made (d + 1) s).1) [(pin, srcB (made (d + 1) s).2)] := by
  have hM : made (d + 1) s = ({ zeroDat with kind := 6, kids := (madeN (made d) (nextV (nextS s 12) 4).toNat (nextS (nextS s 12) 4) []).1 }, (madeN (made d) (nextV (nextS s 12) 4).toNat (nextS (nextS s 12) 4) []).2) := by
    simp only [made, hk]; rfl
  rw [hM]
  refine PCB.ob Tryz.func4 Tryz.ntmps4 Tryz.results4 ?_
  refine AWP.ghQ ?_
  have hs1 := ok_next hs 12
  have a1 := nextV_in (nextS s 12) (n := 4) (by omega)
  have hgt : decide ((6 : Int) < 9) = true := by decide
  have hd0 : decide (((d + 1 : Nat) : Int) = 0) = false := by simp; omega
  have hn : nextV (nextS s 12) 4 = (((nextV (nextS s 12) 4).toNat : Nat) : Int) := by omega
  repeat' (first | (simp only [go_sem, zA, zB, zC, zD, zE, zF, zG, reduceCtorEq, zH, zI, zJ, zK, zL, pin, hk, hgt, hd0] <;> refine nf ?_) | (refine stp ?_; intro K hK) | (apply hK; clear hK K) | refine stn ?_ | (refine ⟨1000000, _, _, _, next_k 1000000 _ (by repeat (first | with_reducible exact hs | with_reducible refine ok_next ?_ _)) _ (by omega), rfl, ?_⟩) | fail)
  refine xD (Gh.nilrow 9 900 rfl rfl rfl rfl) ?_
  rw [hn]
  refine AWP.loopS (X := Nat × Src × List Dat) (fun x => [(10, I .i64 x.1), (9, .one (.own 900 x.2.2.length)), (0, Sp 1000000), (1, I .i64 (d + 1 : Nat)), (4, Sp 4)])
    (fun x => [(1000000, srcB x.2.1), (4, zeroB), Dr 900 x.2.2])
    (fun x => x.1 + x.2.2.length ≤ 1000 ∧ x.2.1.ok ∧ madeN (made d) (nextV (nextS s 12) 4).toNat (nextS (nextS s 12) 4) [] = madeN (made d) x.1 x.2.1 x.2.2) (fun x => x.1) ((nextV (nextS s 12) 4).toNat, nextS (nextS s 12) 4, []) (Gh.tt []) ⟨by simp; omega, ok_next hs1 _, rfl⟩ ?_
  rintro ⟨n, t, acc⟩ ⟨hl, ht, hp⟩
  simp only at hl ht hp
  cases n with
  | succ n =>
    rw [madeN] at hp
    have hw : IntKind.i64.wrap (((d + 1 : Nat) : Int) - 1) = (d : Int) := wrap_pred_nat (by omega)
    have hw2 : IntKind.i64.wrap (((n + 1 : Nat) : Int) - 1) = (n : Int) := wrap_pred_nat (by omega)
    repeat' (first | (simp only [go_sem, zA, zB, zC, zD, zE, zF, zG, reduceCtorEq, zH, zI, zJ, zK, zL, pin, lB, dec_pos, hw, hw2, dat_snoc] <;> refine nf ?_) | (refine stp ?_; intro K hK) | (apply hK; clear hK K) | refine stn ?_ | (with_reducible refine ⟨by omega, ?_⟩) | (refine ⟨1000000, _, _, _, IH.k 1000000 t ht, rfl, ?_⟩) | refine stq ?_ | (clear hK K))
    all_goals (refine ⟨(n, (made d t).2, acc ++ [(made d t).1]), by simp only; omega, ⟨by simp only [List.length_append, List.length_cons, List.length_nil]; omega, ok_made d ht, hp⟩, Gh.tt [(900, 115)]⟩)
  | zero =>
    rw [madeN] at hp
    have h0 : decide ((0 : Int) < ((0 : Nat) : Int)) = false := by simp
    repeat' (first | (simp only [go_sem, zA, zB, zC, zD, zE, zF, zG, reduceCtorEq, zH, zI, zJ, zK, zL, pin, h0] <;> refine nf ?_) | (refine stp ?_; intro K hK) | (apply hK; clear hK K) | refine stn ?_ | (clear hK K))
    refine ⟨_, Gh.fz 900, ?_⟩
    simp only [go_sem, zA, zB, zC, zD, zE, zF, zG, reduceCtorEq, zH, zI, zJ, zK, zL, lB]
    all_goals (refine ⟨by simp only [hp, Dt, encDat_eq, zeroDat]; rfl, fun x hx => ?_⟩)
    all_goals (simp only [lN] at hx; subst hx; simp [hp, pin])
theorem put_len (m : Dat) (k : KeyD) (d : Dat) : (putR m k d).1.kids.length ≤ m.kids.length + 1 := by
 unfold putR
 cases putBad m k
 ·simp only [cond_false, mapDat]
  have h : ∀ (l : List (KeyD × Dat)) (a : PutA), (l.foldl (putStep k d) a).kids.length + (bif (l.foldl (putStep k d) a).placed then 0 else 1) ≤ a.kids.length + (bif a.placed then 0 else 1) + l.length := by
   intro l
   induction l with
   | nil => intro a; exact Nat.le_refl _
   | cons x l ih =>
    intro a
    rw [List.foldl_cons]
    have h1 := ih (putStep k d a x)
    have h2 : (putStep k d a x).kids.length + (bif (putStep k d a x).placed then 0 else 1) ≤ a.kids.length + (bif a.placed then 0 else 1) + 1 := by
     obtain ⟨ak, ad, ap⟩ := a
     unfold putStep
     cases decide (keyCmp k x.1 ≤ 0) <;> cases decide (keyCmp k x.1 = 0) <;> cases ap <;> simp
    simp only [List.length_cons]
    omega
  have h1 := h (m.keys.zip m.kids) ⟨[], [], false⟩
  have h2 : (m.keys.zip m.kids).length ≤ m.kids.length := by simp; omega
  have h3 : ∀ a : PutA, (putEnd k d a).kids.length = a.kids.length + (bif a.placed then 0 else 1) := by
   intro a
   unfold putEnd
   cases a.placed <;> simp
  rw [h3]
  simp only [List.length_nil, cond_false, Nat.zero_add] at h1
  omega
 ·simp [zeroDat]
theorem made_c10 (d : Nat) (hd : d ≤ 1000) (IH : MadeC d) (s : Src) (hs : s.ok) (hk : nextV s 12 = 10) :
    PCB zP 4 [Sp pin, I .i64 (d + 1 : Nat)] [(pin, srcB s)] (Dt (made (d + 1) s).1) [(pin, srcB (made (d + 1) s).2)] := by
  have hM : made (d + 1) s = listN (made d) (1 + nextV (nextS s 12) 2).toNat (nextS (nextS s 12) 2) { zeroDat with kind := 5 } := by
    simp only [made, hk]; rfl
  rw [hM]
  refine PCB.ob Tryz.func4 Tryz.ntmps4 Tryz.results4 ?_
  have hs1 := ok_next hs 12
  have a1 := nextV_in (nextS s 12) (n := 2) (by omega)
  have hgt : decide ((6 : Int) < 10) = true := by decide
  have hd0 : decide (((d + 1 : Nat) : Int) = 0) = false := by simp; omega
  have hn : IntKind.i64.wrap (1 + nextV (nextS s 12) 2) = (((1 + nextV (nextS s 12) 2).toNat : Nat) : Int) := by rw [w64 (by omega)]; omega
  repeat' (first | (simp only [go_sem, zA, zB, zC, zD, zE, zF, zG, reduceCtorEq, zH, zI, zJ, zK, zL, pin, hk, hgt, hd0, hn] <;> refine nf ?_) | (refine stp ?_; intro K hK) | (apply hK; clear hK K) | refine stn ?_ | (refine ⟨1000000, _, _, _, next_k 1000000 _ (by repeat (first | with_reducible exact hs | with_reducible refine ok_next ?_ _)) _ (by omega), rfl, ?_⟩) | fail)
  refine xD (Gh.soft 11 rfl) ?_
  refine AWP.loopS (X := Nat × Src × Dat) (fun x => [(12, I .i64 x.1), (0, Sp 1000000), (1, I .i64 (d + 1 : Nat)), (4, Sp 4), (11, Sp 11)])
    (fun x => [(1000000, srcB x.2.1), (4, zeroB), (11, .cells ((encDat x.2.2).map .dat))])
    (fun x => x.1 ≤ 1000 ∧ x.2.1.ok ∧ listN (made d) (1 + nextV (nextS s 12) 2).toNat (nextS (nextS s 12) 2) { zeroDat with kind := 5 } = listN (made d) x.1 x.2.1 x.2.2) (fun x => x.1) ((1 + nextV (nextS s 12) 2).toNat, nextS (nextS s 12) 2, { zeroDat with kind := 5 }) (Gh.tt []) ⟨by simp only; omega, ok_next hs1 _, rfl⟩ ?_
  rintro ⟨n, t, acc⟩ ⟨hl, ht, hp⟩
  simp only at hl ht hp
  cases n with
  | succ n =>
    rw [listN] at hp
    have hw : IntKind.i64.wrap (((d + 1 : Nat) : Int) - 1) = (d : Int) := wrap_pred_nat (by omega)
    have hw2 : IntKind.i64.wrap (((n + 1 : Nat) : Int) - 1) = (n : Int) := wrap_pred_nat (by omega)
    repeat' (first | (simp only [go_sem, zA, zB, zC, zD, zE, zF, zG, reduceCtorEq, zH, zI, zJ, zK, zL, pin, lB, dec_pos, hw, hw2] <;> refine nf ?_) | (refine stp ?_; intro K hK) | (apply hK; clear hK K) | refine stn ?_ | (refine ⟨1000000, _, _, _, IH.k 1000000 t ht, rfl, ?_⟩) | (with_reducible refine AWP.segE (id := 40) 7 1000000 mixed (by kernel_rfl) fun K hK => ?_; simp only [List.take_succ_cons, List.take_zero, List.drop_succ_cons, List.drop_zero, Bx.drop, cond_true, cond_false, Nat.reduceBEq]) | (clear hK K))
    all_goals (refine ⟨(n, (made d t).2, consDat (made d t).1 acc), by simp only; omega, ⟨by simp only; omega, ok_made d ht, hp⟩, Gh.trans (Gh.soft 11 rfl) (Gh.tt [])⟩)
  | zero =>
    rw [listN] at hp
    have h0 : decide ((0 : Int) < ((0 : Nat) : Int)) = false := by simp
    repeat' (first | (simp only [go_sem, zA, zB, zC, zD, zE, zF, zG, reduceCtorEq, zH, zI, zJ, zK, zL, pin, h0] <;> refine nf ?_) | (refine stp ?_; intro K hK) | (apply hK; clear hK K) | refine stn ?_ | (clear hK K))
    all_goals (refine ⟨by simp only [hp], fun x hx => ?_⟩)
    all_goals (simp only [lN] at hx; subst hx; simp [hp, pin])
theorem made_c11 (d : Nat) (hd : d ≤ 1000) (IH : MadeC d) (s : Src) (hs : s.ok) (hk : nextV s 12 = 11) :
    PCB zP 4 [Sp pin, I .i64 (d + 1 : Nat)] [(pin, srcB s)] (Dt (made (d + 1) s).1) [(pin, srcB (made (d + 1) s).2)] := by
  have hM : made (d + 1) s = mapN (made d) (nextV (nextS s 12) 3).toNat (nextS (nextS s 12) 3) { zeroDat with kind := 8 } := by
    simp only [made, hk]; rfl
  rw [hM]
  refine PCB.ob Tryz.func4 Tryz.ntmps4 Tryz.results4 ?_
  have hs1 := ok_next hs 12
  have a1 := nextV_in (nextS s 12) (n := 3) (by omega)
  have hgt : decide ((6 : Int) < 11) = true := by decide
  have hd0 : decide (((d + 1 : Nat) : Int) = 0) = false := by simp; omega
  have hn : nextV (nextS s 12) 3 = (((nextV (nextS s 12) 3).toNat : Nat) : Int) := by omega
  repeat' (first | (simp only [go_sem, zA, zB, zC, zD, zE, zF, zG, reduceCtorEq, zH, zI, zJ, zK, zL, pin, hk, hgt, hd0] <;> refine nf ?_) | (refine stp ?_; intro K hK) | (apply hK; clear hK K) | refine stn ?_ | (refine ⟨1000000, _, _, _, next_k 1000000 _ (by repeat (first | with_reducible exact hs | with_reducible refine ok_next ?_ _)) _ (by omega), rfl, ?_⟩) | fail)
  refine xD (Gh.soft 13 rfl) ?_
  rw [hn]
  refine AWP.loopS (X := Nat × Src × Dat) (fun x => [(14, I .i64 x.1), (0, Sp 1000000), (1, I .i64 (d + 1 : Nat)), (4, Sp 4), (13, Sp 13)])
    (fun x => [(1000000, srcB x.2.1), (4, zeroB), (13, .cells ((encDat x.2.2).map .dat))])
    (fun x => x.1 + x.2.2.kids.length ≤ 1000 ∧ x.2.1.ok ∧ mapN (made d) (nextV (nextS s 12) 3).toNat (nextS (nextS s 12) 3) { zeroDat with kind := 8 } = mapN (made d) x.1 x.2.1 x.2.2) (fun x => x.1) ((nextV (nextS s 12) 3).toNat, nextS (nextS s 12) 3, { zeroDat with kind := 8 }) (Gh.tt []) ⟨by simp only [zeroDat, List.length_nil]; omega, ok_next hs1 _, rfl⟩ ?_
  rintro ⟨n, t, acc⟩ ⟨hl, ht, hp⟩
  simp only at hl ht hp
  cases n with
  | succ n =>
    rw [mapN] at hp
    have hw : IntKind.i64.wrap (((d + 1 : Nat) : Int) - 1) = (d : Int) := wrap_pred_nat (by omega)
    have hw2 : IntKind.i64.wrap (((n + 1 : Nat) : Int) - 1) = (n : Int) := wrap_pred_nat (by omega)
    repeat' (first | (simp only [go_sem, zA, zB, zC, zD, zE, zF, zG, reduceCtorEq, zH, zI, zJ, zK, zL, pin, lB, dec_pos, hw, hw2] <;> refine nf ?_) | (refine stp ?_; intro K hK) | (apply hK; clear hK K) | refine stn ?_ | (with_reducible refine ⟨_, put_c acc _ _ (by omega), ?_⟩) | (refine ⟨1000000, _, _, _, key_k 1000000 t ht, rfl, ?_⟩) | (refine ⟨1000000, _, _, _, IH.k 1000000 (keyV t).2 (ok_key ht), rfl, ?_⟩) | (with_reducible refine AWP.segEE (id := 47) 9 1000000 13 mixed (by kernel_rfl) fun K hK => ?_; simp only [List.take_succ_cons, List.take_zero, List.drop_succ_cons, List.drop_zero, Bx.drop, cond_true, cond_false, Nat.reduceBEq]) | (clear hK K))
    all_goals (refine ⟨(n, (made d (keyV t).2).2, (putR acc (keyV t).1 (made d (keyV t).2).1).1), by simp only; omega, ⟨by have := put_len acc (keyV t).1 (made d (keyV t).2).1; simp only; omega, ok_made d (ok_key ht), hp⟩, Gh.tt []⟩)
  | zero =>
    rw [mapN] at hp
    have h0 : decide ((0 : Int) < ((0 : Nat) : Int)) = false := by simp
    repeat' (first | (simp only [go_sem, zA, zB, zC, zD, zE, zF, zG, reduceCtorEq, zH, zI, zJ, zK, zL, pin, h0] <;> refine nf ?_) | (refine stp ?_; intro K hK) | (apply hK; clear hK K) | refine stn ?_ | (clear hK K))
    all_goals (refine ⟨by simp only [hp], fun x hx => ?_⟩)
    all_goals (simp only [lN] at hx; subst hx; simp [hp, pin])
theorem base_c0 (dep : Nat) (s : Src) (hs : s.ok) (hk : nextV s 12 = 0) :
    PCB zP 4 [Sp pin, I .i64 dep] [(pin, srcB s)] (Dt (madeBase 0 (nextS s 12)).1) [(pin, srcB (madeBase 0 (nextS s 12)).2)] := by
  refine PCB.ob Tryz.func4 Tryz.ntmps4 Tryz.results4 ?_
  have hs1 := ok_next hs 12
  have a1 := nextV_in (nextS s 12) (n := 4) (by omega)
  have a2 := nextV_in (nextS (nextS s 12) 3) (n := 2) (by omega)
  have a3 := nextV_in (nextS (nextS (nextS s 12) 3) 2) (n := 2) (by omega)
  have hw1 : IntKind.i64.wrap (1 + nextV (nextS (nextS (nextS s 12) 3) 2) 2) = 1 + nextV (nextS (nextS (nextS s 12) 3) 2) 2 := by rw [w64 (by omega)]
  have a4 := nextV_in (nextS s 12) (n := 5) (by omega)
  have hw2 : IntKind.i64.wrap (nextV (nextS s 12) 5 - 1) = nextV (nextS s 12) 5 - 1 := by rw [w64 (by omega)]
  have hgt : decide ((6 : Int) < 0) = false := by decide
  repeat' (first | (simp only [go_sem, zA, zB, zC, zD, zE, zF, zG, reduceCtorEq, zH, zI, zJ, zK, zL, pin, hk, hgt, hw1, hw2] <;> refine nf ?_) | (refine stp ?_; intro K hK) | (apply hK; clear hK K) | refine stn ?_ | (refine ⟨fun h => ?_, fun h => ?_⟩ <;> (try simp only [zM, zN] at h) <;> try simp only [h]) | (refine ⟨1000000, _, _, _, next_k 1000000 _ (by repeat (first | with_reducible exact hs | with_reducible refine ok_next ?_ _)) _ (by omega), rfl, ?_⟩) | fail)
  all_goals (refine ⟨by simp only [madeBase, cond_true, cond_false, decide_true, decide_false, Int.reduceEq, Dt, encDat_eq, atomDat, intDat, funDat, zeroDat]; rfl, fun x hx => ?_⟩)
  all_goals (simp only [lN] at hx; subst hx; simp [madeBase, pin])
theorem base_c1 (dep : Nat) (s : Src) (hs : s.ok) (hk : nextV s 12 = 1) :
    PCB zP 4 [Sp pin, I .i64 dep] [(pin, srcB s)] (Dt (madeBase 1 (nextS s 12)).1) [(pin, srcB (madeBase 1 (nextS s 12)).2)] := by
  refine PCB.ob Tryz.func4 Tryz.ntmps4 Tryz.results4 ?_
  have hs1 := ok_next hs 12
  have a1 := nextV_in (nextS s 12) (n := 4) (by omega)
  have a2 := nextV_in (nextS (nextS s 12) 3) (n := 2) (by omega)
  have a3 := nextV_in (nextS (nextS (nextS s 12) 3) 2) (n := 2) (by omega)
  have hw1 : IntKind.i64.wrap (1 + nextV (nextS (nextS (nextS s 12) 3) 2) 2) = 1 + nextV (nextS (nextS (nextS s 12) 3) 2) 2 := by rw [w64 (by omega)]
  have a4 := nextV_in (nextS s 12) (n := 5) (by omega)
  have hw2 : IntKind.i64.wrap (nextV (nextS s 12) 5 - 1) = nextV (nextS s 12) 5 - 1 := by rw [w64 (by omega)]
  have hgt : decide ((6 : Int) < 1) = false := by decide
  repeat' (first | (simp only [go_sem, zA, zB, zC, zD, zE, zF, zG, reduceCtorEq, zH, zI, zJ, zK, zL, pin, hk, hgt, hw1, hw2] <;> refine nf ?_) | (refine stp ?_; intro K hK) | (apply hK; clear hK K) | refine stn ?_ | (refine ⟨fun h => ?_, fun h => ?_⟩ <;> (try simp only [zM, zN] at h) <;> try simp only [h]) | (refine ⟨1000000, _, _, _, next_k 1000000 _ (by repeat (first | with_reducible exact hs | with_reducible refine ok_next ?_ _)) _ (by omega), rfl, ?_⟩) | ( refine ⟨a1.1, [.str (atoms4.getD (nextV (nextS s 12) 4).toNat [])], lit_get (fun x => [C.str x]) atoms4 [] a1, ?_⟩) | refine stq ?_ | (clear hK K))
  all_goals (refine ⟨by simp only [madeBase, cond_true, cond_false, decide_true, decide_false, Int.reduceEq, Dt, encDat_eq, atomDat, intDat, funDat, zeroDat]; rfl, fun x hx => ?_⟩)
  all_goals (simp only [lN] at hx; subst hx; simp [madeBase, pin])
theorem base_c2 (dep : Nat) (s : Src) (hs : s.ok) (hk : nextV s 12 = 2) :
    PCB zP 4 [Sp pin, I .i64 dep] [(pin, srcB s)] (Dt (madeBase 2 (nextS s 12)).1) [(pin, srcB (madeBase 2 (nextS s 12)).2)] := by
  refine PCB.ob Tryz.func4 Tryz.ntmps4 Tryz.results4 ?_
  have hs1 := ok_next hs 12
  have a1 := nextV_in (nextS s 12) (n := 4) (by omega)
  have a2 := nextV_in (nextS (nextS s 12) 3) (n := 2) (by omega)
  have a3 := nextV_in (nextS (nextS (nextS s 12) 3) 2) (n := 2) (by omega)
  have hw1 : IntKind.i64.wrap (1 + nextV (nextS (nextS (nextS s 12) 3) 2) 2) = 1 + nextV (nextS (nextS (nextS s 12) 3) 2) 2 := by rw [w64 (by omega)]
  have a4 := nextV_in (nextS s 12) (n := 5) (by omega)
  have hw2 : IntKind.i64.wrap (nextV (nextS s 12) 5 - 1) = nextV (nextS s 12) 5 - 1 := by rw [w64 (by omega)]
  have hgt : decide ((6 : Int) < 2) = false := by decide
  repeat' (first | (simp only [go_sem, zA, zB, zC, zD, zE, zF, zG, reduceCtorEq, zH, zI, zJ, zK, zL, pin, hk, hgt, hw1, hw2] <;> refine nf ?_) | (refine stp ?_; intro K hK) | (apply hK; clear hK K) | refine stn ?_ | (refine ⟨fun h => ?_, fun h => ?_⟩ <;> (try simp only [zM, zN] at h) <;> try simp only [h]) | (refine ⟨1000000, _, _, _, next_k 1000000 _ (by repeat (first | with_reducible exact hs | with_reducible refine ok_next ?_ _)) _ (by omega), rfl, ?_⟩) | (refine ⟨1000000, _, _, _, word_k 1000000 _ hs1, rfl, ?_⟩) | (clear hK K))
  all_goals (refine ⟨by simp only [madeBase, cond_true, cond_false, decide_true, decide_false, Int.reduceEq, Dt, encDat_eq, atomDat, intDat, funDat, zeroDat]; rfl, fun x hx => ?_⟩)
  all_goals (simp only [lN] at hx; subst hx; simp [madeBase, pin])
theorem base_c3 (dep : Nat) (s : Src) (hs : s.ok) (hk : nextV s 12 = 3) :
    PCB zP 4 [Sp pin, I .i64 dep] [(pin, srcB s)] (Dt (madeBase 3 (nextS s 12)).1) [(pin, srcB (madeBase 3 (nextS s 12)).2)] := by
  refine PCB.ob Tryz.func4 Tryz.ntmps4 Tryz.results4 ?_
  have hs1 := ok_next hs 12
  have a1 := nextV_in (nextS s 12) (n := 4) (by omega)
  have a2 := nextV_in (nextS (nextS s 12) 3) (n := 2) (by omega)
  have a3 := nextV_in (nextS (nextS (nextS s 12) 3) 2) (n := 2) (by omega)
  have hw1 : IntKind.i64.wrap (1 + nextV (nextS (nextS (nextS s 12) 3) 2) 2) = 1 + nextV (nextS (nextS (nextS s 12) 3) 2) 2 := by rw [w64 (by omega)]
  have a4 := nextV_in (nextS s 12) (n := 5) (by omega)
  have hw2 : IntKind.i64.wrap (nextV (nextS s 12) 5 - 1) = nextV (nextS s 12) 5 - 1 := by rw [w64 (by omega)]
  have hgt : decide ((6 : Int) < 3) = false := by decide
  repeat' (first | (simp only [go_sem, zA, zB, zC, zD, zE, zF, zG, reduceCtorEq, zH, zI, zJ, zK, zL, pin, hk, hgt, hw1, hw2] <;> refine nf ?_) | (refine stp ?_; intro K hK) | (apply hK; clear hK K) | refine stn ?_ | (refine ⟨fun h => ?_, fun h => ?_⟩ <;> (try simp only [zM, zN] at h) <;> try simp only [h]) | (refine ⟨1000000, _, _, _, next_k 1000000 _ (by repeat (first | with_reducible exact hs | with_reducible refine ok_next ?_ _)) _ (by omega), rfl, ?_⟩) | (clear hK K))
  all_goals (refine ⟨by simp only [madeBase, cond_true, cond_false, decide_true, decide_false, Int.reduceEq, Dt, encDat_eq, atomDat, intDat, funDat, zeroDat]; rfl, fun x hx => ?_⟩)
  all_goals (simp only [lN] at hx; subst hx; simp [madeBase, pin])
theorem base_c4 (dep : Nat) (s : Src) (hs : s.ok) (hk : nextV s 12 = 4) :
    PCB zP 4 [Sp pin, I .i64 dep] [(pin, srcB s)] (Dt (madeBase 4 (nextS s 12)).1) [(pin, srcB (madeBase 4 (nextS s 12)).2)] := by
  refine PCB.ob Tryz.func4 Tryz.ntmps4 Tryz.results4 ?_
  have hs1 := ok_next hs 12
  have a1 := nextV_in (nextS s 12) (n := 4) (by omega)
  have a2 := nextV_in (nextS (nextS s 12) 3) (n := 2) (by omega)
  have a3 := nextV_in (nextS (nextS (nextS s 12) 3) 2) (n := 2) (by omega)
  have hw1 : IntKind.i64.wrap (1 + nextV (nextS (nextS (nextS s 12) 3) 2) 2) = 1 + nextV (nextS (nextS (nextS s 12) 3) 2) 2 := by rw [w64 (by omega)]
  have a4 := nextV_in (nextS s 12) (n := 5) (by omega)
  have hw2 : IntKind.i64.wrap (nextV (nextS s 12) 5 - 1) = nextV (nextS s 12) 5 - 1 := by rw [w64 (by omega)]
  have hgt : decide ((6 : Int) < 4) = false := by decide
  repeat' (first | (simp only [go_sem, zA, zB, zC, zD, zE, zF, zG, reduceCtorEq, zH, zI, zJ, zK, zL, pin, hk, hgt, hw1, hw2] <;> refine nf ?_) | (refine stp ?_; intro K hK) | (apply hK; clear hK K) | refine stn ?_ | (refine ⟨fun h => ?_, fun h => ?_⟩ <;> (try simp only [zM, zN] at h) <;> try simp only [h]) | (refine ⟨1000000, _, _, _, next_k 1000000 _ (by repeat (first | with_reducible exact hs | with_reducible refine ok_next ?_ _)) _ (by omega), rfl, ?_⟩) | (clear hK K))
  all_goals (refine ⟨by simp only [madeBase, cond_true, cond_false, decide_true, decide_false, Int.reduceEq, Dt, encDat_eq, atomDat, intDat, funDat, zeroDat]; rfl, fun x hx => ?_⟩)
  all_goals (simp only [lN] at hx; subst hx; simp [madeBase, pin])
theorem base_c5 (dep : Nat) (s : Src) (hs : s.ok) (hk : nextV s 12 = 5) :
    PCB zP 4 [Sp pin, I .i64 dep] [(pin, srcB s)] (Dt (madeBase 5 (nextS s 12)).1) [(pin, srcB (madeBase 5 (nextS s 12)).2)] := by
  refine PCB.ob Tryz.func4 Tryz.ntmps4 Tryz.results4 ?_
  have hs1 := ok_next hs 12
  have a1 := nextV_in (nextS s 12) (n := 4) (by omega)
  have a2 := nextV_in (nextS (nextS s 12) 3) (n := 2) (by omega)
  have a3 := nextV_in (nextS (nextS (nextS s 12) 3) 2) (n := 2) (by omega)
  have hw1 : IntKind.i64.wrap (1 + nextV (nextS (nextS (nextS s 12) 3) 2) 2) = 1 + nextV (nextS (nextS (nextS s 12) 3) 2) 2 := by rw [w64 (by omega)]
  have a4 := nextV_in (nextS s 12) (n := 5) (by omega)
  have hw2 : IntKind.i64.wrap (nextV (nextS s 12) 5 - 1) = nextV (nextS s 12) 5 - 1 := by rw [w64 (by omega)]
  have hgt : decide ((6 : Int) < 5) = false := by decide
  repeat' (first | (simp only [go_sem, zA, zB, zC, zD, zE, zF, zG, reduceCtorEq, zH, zI, zJ, zK, zL, pin, hk, hgt, hw1, hw2] <;> refine nf ?_) | (refine stp ?_; intro K hK) | (apply hK; clear hK K) | refine stn ?_ | (refine ⟨fun h => ?_, fun h => ?_⟩ <;> (try simp only [zM, zN] at h) <;> try simp only [h]) | (refine ⟨1000000, _, _, _, next_k 1000000 _ (by repeat (first | with_reducible exact hs | with_reducible refine ok_next ?_ _)) _ (by omega), rfl, ?_⟩) | ( refine ⟨a2.1, [.str (mods2.getD (nextV (nextS (nextS s 12) 3) 2).toNat [])], lit_get (fun x => [C.str x]) mods2 [] a2, ?_⟩) | (with_reducible refine AWP.genR (id := 14) [1,4,8,11,13] [1000000, 4] mixed (by kernel_rfl) fun K hK => ?_; simp only [Bx.outs, Bx.drop, cond_true, cond_false, Nat.reduceBEq, go_sem]) | (clear hK K))
  all_goals (refine ⟨by simp only [madeBase, cond_true, cond_false, decide_true, decide_false, Int.reduceEq, Dt, encDat_eq, atomDat, intDat, funDat, zeroDat]; rfl, fun x hx => ?_⟩)
  all_goals (simp only [lN] at hx; subst hx; simp [madeBase, pin])
theorem base_c6 (dep : Nat) (s : Src) (hs : s.ok) (hk : nextV s 12 = 6) :
    PCB zP 4 [Sp pin, I .i64 dep] [(pin, srcB s)] (Dt (madeBase 6 (nextS s 12)).1) [(pin, srcB (madeBase 6 (nextS s 12)).2)] := by
  refine PCB.ob Tryz.func4 Tryz.ntmps4 Tryz.results4 ?_
  have hs1 := ok_next hs 12
  have a1 := nextV_in (nextS s 12) (n := 4) (by omega)
  have a2 := nextV_in (nextS (nextS s 12) 3) (n := 2) (by omega)
  have a3 := nextV_in (nextS (nextS (nextS s 12) 3) 2) (n := 2) (by omega)
  have hw1 : IntKind.i64.wrap (1 + nextV (nextS (nextS (nextS s 12) 3) 2) 2) = 1 + nextV (nextS (nextS (nextS s 12) 3) 2) 2 := by rw [w64 (by omega)]
  have a4 := nextV_in (nextS s 12) (n := 5) (by omega)
  have hw2 : IntKind.i64.wrap (nextV (nextS s 12) 5 - 1) = nextV (nextS s 12) 5 - 1 := by rw [w64 (by omega)]
  have hgt : decide ((6 : Int) < 6) = false := by decide
  repeat' (first | (simp only [go_sem, zA, zB, zC, zD, zE, zF, zG, reduceCtorEq, zH, zI, zJ, zK, zL, pin, hk, hgt, hw1, hw2] <;> refine nf ?_) | (refine stp ?_; intro K hK) | (apply hK; clear hK K) | refine stn ?_ | (refine ⟨fun h => ?_, fun h => ?_⟩ <;> (try simp only [zM, zN] at h) <;> try simp only [h]) | (refine ⟨1000000, _, _, _, next_k 1000000 _ (by repeat (first | with_reducible exact hs | with_reducible refine ok_next ?_ _)) _ (by omega), rfl, ?_⟩) | (refine ⟨1000000, _, _, _, number_k 1000000 _ hs1, rfl, ?_⟩) | (clear hK K))
  all_goals (refine ⟨by simp only [madeBase, cond_true, cond_false, decide_true, decide_false, Int.reduceEq, Dt, encDat_eq, atomDat, intDat, funDat, zeroDat]; rfl, fun x hx => ?_⟩)
  all_goals (simp only [lN] at hx; subst hx; simp [madeBase, pin])
end Go.Proofs.YtajfdbdklphonaaGreat