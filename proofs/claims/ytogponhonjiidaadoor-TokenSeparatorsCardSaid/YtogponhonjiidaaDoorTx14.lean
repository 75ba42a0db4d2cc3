/- A part of the proof: lemmas about the walk of the program and about plain integers and lists. No conditions beyond those that each lemma states. -/
import Derived.Test.YtogponhonjiidaaDoorTx13
import Derived.Test.YtogponhonjiidaaDoorTx11
import Derived.Test.YtogponhonjiidaaDoorTx10
set_option linter.unusedSimpArgs false
set_option linter.unusedVariables false
set_option maxRecDepth 20000
namespace Go.Proofs.YtogponhonjiidaaDoor
open Go Go.Sx
open Nat renaming reduceBEq → zA, reduceBNe → zB, reduceAdd → zC, reduceSub → zD, reduceMul → zE, reduceLeDiff → zF, reduceLT → zG, reduceEqDiff → zH
open Int renaming reduceToNat → zI, reduceLE → zJ, reduceLT → zK, reduceEq → zL
open Bool renaming not_eq_true' → zM, not_eq_false' → zN
def headDig (l : List UInt8) : Bool := match l with
 | c :: _ => digI c.toNat
 | [] => false
/-- the token at the head: the token, its code, how many bytes -/
def lexL (b : UInt8) (l : List UInt8) : (Tok × Int) × Nat :=
 bif lowI b.toNat then (wordV 1 (b :: l.take (cntW nameI l)), 1 + cntW nameI l)
 else bif uppI b.toNat then (wordV 2 (b :: l.take (cntW varI l)), 1 + cntW varI l)
 else bif decide ((b.toNat : Int) = 95) then ((⟨2, [95], 0, 0⟩, 0), 1)
 else bif digI b.toNat then (numT false (b :: l.take (cntW digI l)), 1 + cntW digI l)
 else bif decide ((b.toNat : Int) = 45) && headDig l then (numT true (l.take (cntW digI l)), 1 + cntW digI l)
 else bif decide ((b.toNat : Int) = 34) then (match qEnd l with
  | none => ((zeroTok, 5), 0)
  | some x => (qTok (b :: l.take (x + 1)), x + 2))
 else bif decide ((b.toNat : Int) = 96) then (bif decide (cntW noBq l < l.length) then ((⟨5, l.take (cntW noBq l), 0, 0⟩, 0), cntW noBq l + 2) else ((zeroTok, 5), 0))
 else signV (b :: l)
theorem nextV_lex (s : List UInt8) (i : Nat) (b : UInt8) (l : List UInt8) (h : s.drop i = b :: l) :
  nextV s i b (quoV s i) (encV s i) = ((lexL b l).1, i + (lexL b l).2) := by
 have hi : i < s.length := by
  have := congrArg List.length h
  rw [List.length_drop, List.length_cons] at this; omega
 have hd : s.drop (i + 1) = l := by rw [← List.drop_drop, h]; rfl
 have hsp : ∀ p, spanW p s (i + 1) = l.take (cntW p l) := fun p => by rw [spanW_eq, hd]
 have htw : ∀ p, toW p s (i + 1) = i + (1 + cntW p l) := fun p => by unfold toW; rw [hd]; omega
 have hnd : nextDig s i = headDig l := by
  unfold nextDig headDig
  have : s[i + 1]? = l[0]? := by rw [← hd, List.getElem?_drop]
  rw [this]
  cases l <;> rfl
 unfold nextV lexL
 simp only [hsp, htw, hnd, h]
 cases lowI b.toNat with
 | true => rfl
 | false =>
 cases uppI b.toNat with
 | true => rfl
 | false =>
 cases decide ((b.toNat : Int) = 95) with
 | true => rfl
 | false =>
 cases digI b.toNat with
 | true => rfl
 | false =>
 cases decide ((b.toNat : Int) = 45) && headDig l with
 | true => rfl
 | false =>
 cases decide ((b.toNat : Int) = 34) with
 | true =>
  simp only [cond_true, cond_false]
  unfold quoV qAt
  rw [hd]
  cases hq : qEnd l with
  | none => rfl
  | some x =>
   simp only [Option.map_some]
   have e : (s.take (x + (i + 1) + 1)).drop i = b :: l.take (x + 1) := by
    rw [List.drop_take, show x + (i + 1) + 1 - i = x + 1 + 1 by omega, h]; rfl
   rw [e]
   have : x + (i + 1) + 1 = i + (x + 2) := by omega
   rw [this]
 | false =>
 cases decide ((b.toNat : Int) = 96) with
 | true =>
  simp only [cond_true, cond_false]
  rw [encV_eq s i hi, htw]
  have hll : l.length = s.length - (i + 1) := by rw [← hd, List.length_drop]
  have hle := cntW_le noBq l
  by_cases hc : cntW noBq l < l.length
  ·rw [decide_eq_true hc, decide_eq_true (show i + (1 + cntW noBq l) < s.length by omega)]
   have e : (s.take (i + (1 + cntW noBq l))).drop (i + 1) = l.take (cntW noBq l) := by
    rw [List.drop_take, hd, show i + (1 + cntW noBq l) - (i + 1) = cntW noBq l by omega]
   rw [e]
   simp only [cond_true]
   have : i + (1 + cntW noBq l) + 1 = i + (cntW noBq l + 2) := by omega
   rw [this]
  ·rw [decide_eq_false hc, decide_eq_false (show ¬ i + (1 + cntW noBq l) < s.length by omega)]
   rfl
 | false => rfl
/-- what may follow a token: nothing, a separator, a note -/
def Calm (z : List UInt8) : Prop := ∀ c z', z = c :: z' → sepI c.toNat = true ∨ c = 37
theorem calm_nil : Calm [] := fun c z' h => by cases h
theorem calm_cls {c : UInt8} (h : sepI c.toNat = true ∨ c = 37) : nameI c.toNat = false ∧ varI c.toNat = false ∧ digI c.toNat = false := by
 have hc : c.toNat = 9 ∨ c.toNat = 10 ∨ c.toNat = 13 ∨ c.toNat = 32 ∨ c.toNat = 37 := by
  rcases h with h | rfl
  ·unfold sepI at h
   simp only [Bool.or_eq_true, decide_eq_true_eq] at h
   omega
  ·exact .inr (.inr (.inr (.inr rfl)))
 rcases hc with h | h | h | h | h <;> rw [h] <;> decide
theorem cntW_app {p : Int → Bool} : ∀ {u z : List UInt8}, (∀ x ∈ u, p x.toNat = true) → (∀ c z', z = c :: z' → p c.toNat = false) → cntW p (u ++ z) = u.length
 | [], z, _, hz => by
  cases z with
  | nil => rfl
  | cons c z' => rw [List.nil_append, cntW, hz c z' rfl]; rfl
 | b :: u, z, hu, hz => by
  rw [List.cons_append, cntW, hu b List.mem_cons_self, cond_true, cntW_app (fun x hx => hu x (List.mem_cons_of_mem _ hx)) hz, List.length_cons]; omega
theorem take_app {u z : List UInt8} : (u ++ z).take u.length = u := by simp
theorem take_len_cnt (p : Int → Bool) (l : List UInt8) : (l.take (cntW p l)).length = cntW p l := by
 rw [List.length_take]; have := cntW_le p l; omega
theorem cntW_calm {p : Int → Bool} (l z : List UInt8) (hz : Calm z) (hp : ∀ c : UInt8, (sepI c.toNat = true ∨ c = 37) → p c.toNat = false) : cntW p (l.take (cntW p l) ++ z) = cntW p l ∧ (l.take (cntW p l) ++ z).take (cntW p l) = l.take (cntW p l) := by
 have h := cntW_app (p := p) (u := l.take (cntW p l)) (z := z) (take_cnt p l) (fun c z' e => hp c (hz c z' e))
 rw [take_len_cnt] at h
 refine ⟨h, ?_⟩
 have := take_app (u := l.take (cntW p l)) (z := z)
 rwa [take_len_cnt] at this
theorem qEnd_take : ∀ (n : Nat) (l : List UInt8), l.length ≤ n → ∀ x, qEnd l = some x → ∀ z, qEnd (l.take (x + 1) ++ z) = some x
 | n, [], _, x, h, z => by rw [qEnd] at h; cases h
 | 0, c :: l, hn, x, h, z => by simp at hn
 | n + 1, c :: l, hn, x, h, z => by
  have hn' : l.length ≤ n := by simpa using hn
  rw [qEnd] at h
  cases h92 : decide ((c.toNat : Int) = 92) with
  | true =>
   rw [h92, cond_true] at h
   obtain ⟨y, hy, rfl⟩ := Option.map_eq_some_iff.1 h
   cases l with
   | nil => rw [List.drop_nil, qEnd] at hy; cases hy
   | cons d l =>
    rw [List.drop_succ_cons, List.drop_zero] at hy
    have ih := qEnd_take n l (by simp at hn'; omega) y hy z
    rw [show y + 2 + 1 = (y + 1) + 1 + 1 by omega, List.take_succ_cons, List.take_succ_cons, List.cons_append, List.cons_append, qEnd, h92, cond_true, List.drop_succ_cons, List.drop_zero, ih]; rfl
  | false =>
   rw [h92, cond_false] at h
   cases h34 : decide ((c.toNat : Int) = 34) with
   | true =>
    rw [h34, cond_true] at h
    cases h
    rw [List.take_succ_cons, List.take_zero, List.cons_append, qEnd, h92, h34]; rfl
   | false =>
    rw [h34, cond_false] at h
    obtain ⟨y, hy, rfl⟩ := Option.map_eq_some_iff.1 h
    have ih := qEnd_take n l hn' y hy z
    rw [List.take_succ_cons, List.cons_append, qEnd, h92, h34, cond_false, cond_false, ih]; rfl
theorem qEnd_lt' {l : List UInt8} {x : Nat} (h : qEnd l = some x) : x < l.length := qEnd_lt _ _ h
theorem dig_dec : ∀ (l : List UInt8), allDig l → ∀ acc, 1 ≤ acc → Lib.decDigits (decA acc l) = Lib.decDigits acc ++ l
 | [], _, acc, _ => by rw [decA, List.append_nil]
 | b :: l, hd, acc, ha => by
  obtain ⟨h1, h2⟩ := dig_bd (hd b List.mem_cons_self)
  obtain ⟨v, hv⟩ : ∃ v, v = b.toNat - 48 := ⟨_, rfl⟩
  rw [decA_cons, ← hv, dig_dec l (fun x hx => hd x (List.mem_cons_of_mem _ hx)) _ (by omega), dig_step (show ¬ acc * 10 + v < 10 by omega)]
  rw [show (acc * 10 + v) / 10 = acc by omega, show (acc * 10 + v) % 10 = v by omega]
  have hb : UInt8.ofNat (48 + v) = b := by rw [show 48 + v = b.toNat by omega, UInt8.ofNat_toNat]
  rw [hb, List.append_assoc]; rfl
theorem dig_canon {b : UInt8} {l : List UInt8} (hd : allDig (b :: l)) (hb : b ≠ 48) : 1 ≤ decA 0 (b :: l) ∧ Lib.decDigits (decA 0 (b :: l)) = b :: l := by
 obtain ⟨h1, h2⟩ := dig_bd (hd b List.mem_cons_self)
 have hb' : b.toNat ≠ 48 := fun e => hb (UInt8.toNat_inj.1 e)
 obtain ⟨v, hv⟩ : ∃ v, v = b.toNat - 48 := ⟨_, rfl⟩
 have e : decA 0 (b :: l) = decA v l := by rw [decA_cons, ← hv, Nat.zero_mul, Nat.zero_add]
 have hge := decA_ge l v
 refine ⟨by rw [e]; omega, ?_⟩
 rw [e, dig_dec l (fun x hx => hd x (List.mem_cons_of_mem _ hx)) v (by omega), Lib.decDigits, dif_pos (by omega)]
 have hb2 : UInt8.ofNat (48 + v) = b := by rw [show 48 + v = b.toNat by omega, UInt8.ofNat_toNat]
 rw [hb2]; rfl
theorem numT_ok {neg : Bool} {d : List UInt8} (hd : allDig d) (hne : d ≠ []) (h : (numT neg d).2 = 0) :
  ∃ m, (numT neg d).1 = ⟨3, [], m, 0⟩ ∧ Lib.itoa m = (bif neg then 45 :: d else d) ∧ -9223372036854775808 ≤ m ∧ m ≤ 9223372036854775807 := by
 cases d with
 | nil => exact absurd rfl hne
 | cons b l =>
 unfold numT at h ⊢
 cases hz : decide ((numM neg (b :: l)).2 = 0) with
 | false =>
  rw [hz, cond_false] at h
  rw [decide_eq_false_iff_not] at hz
  exact absurd h hz
 | true =>
  rw [decide_eq_true_eq] at hz
  rw [cond_true]
  refine ⟨(numM neg (b :: l)).1, rfl, ?_⟩
  unfold numM at hz ⊢
  cases hc : decide ((b :: l).head? = some 48) && (decide (1 < (b :: l).length) || neg) with
  | true => rw [hc, cond_true] at hz; exact absurd hz (by decide)
  | false =>
   rw [hc, cond_false] at hz
   cases neg with
   | true =>
    have hb : b ≠ 48 := by
     rintro rfl
     simp at hc
    obtain ⟨h1, h2⟩ := dig_canon hd hb
    simp only [cond_true, cond_false] at hz ⊢
    cases hr : decide (decA 0 (b :: l) ≤ 9223372036854775808) with
    | false => rw [hr, cond_false] at hz; exact absurd hz (by decide)
    | true =>
     rw [decide_eq_true_eq] at hr
     simp only [cond_true]
     generalize decA 0 (b :: l) = u at h1 h2 hr
     refine ⟨?_, by omega, by omega⟩
     rw [itoa_neg (by omega), show (-(u : Int)).natAbs = u by omega, h2]
   | false =>
    simp only [cond_false] at hz ⊢
    cases hr : decide (decA 0 (b :: l) < 9223372036854775808) with
    | false => rw [hr, cond_false] at hz; exact absurd hz (by decide)
    | true =>
     rw [decide_eq_true_eq] at hr
     simp only [cond_true]
     have hd2 : Lib.decDigits (decA 0 (b :: l)) = b :: l := by
      by_cases hb : b = 48
      ·subst hb
       have hl : l = [] := by
        cases l with
        | nil => rfl
        | cons c l => simp at hc
       subst hl
       have e : decA 0 [48] = 0 := by rw [decA_cons, decA]; rfl
       rw [e, Lib.decDigits, dif_pos (by omega)]; rfl
      ·exact (dig_canon hd hb).2
     generalize decA 0 (b :: l) = u at hd2 hr
     refine ⟨?_, by omega, by omega⟩
     rw [itoa_pos (by omega), Int.toNat_natCast, hd2]
theorem calm_five {z : List UInt8} (hz : Calm z) : z = [] ∨ ∃ c z', z = c :: z' ∧ (c = 9 ∨ c = 10 ∨ c = 13 ∨ c = 32 ∨ c = 37) := by
 cases z with
 | nil => exact .inl rfl
 | cons c z' =>
  refine .inr ⟨c, z', rfl, ?_⟩
  rcases hz c z' rfl with h | h
  ·unfold sepI at h
   simp only [Bool.or_eq_true, decide_eq_true_eq] at h
   have e : ∀ k : UInt8, (c.toNat : Int) = (k.toNat : Int) → c = k := fun k hk => UInt8.toNat_inj.1 (by omega)
   rcases h with h | h | h | h
   ·exact .inl (e 9 h)
   ·exact .inr (.inl (e 10 h))
   ·exact .inr (.inr (.inl (e 13 h)))
   ·exact .inr (.inr (.inr (.inl (e 32 h))))
  ·exact .inr (.inr (.inr (.inr h)))
theorem find_calm (x z : List UInt8) (hx : x ∈ signL) (hz : Calm z) : findS (x ++ z) signL = some x := by
 simp only [signL, List.mem_cons, List.not_mem_nil, or_false] at hx
 rcases calm_five hz with rfl | ⟨c, z', rfl, hc⟩
 ·rw [List.append_nil]
  rcases hx with rfl | rfl | rfl | rfl | rfl | rfl | rfl | rfl | rfl | rfl | rfl | rfl | rfl | rfl | rfl | rfl | rfl | rfl | rfl | rfl | rfl | rfl | rfl <;> decide
 ·rcases hc with rfl | rfl | rfl | rfl | rfl <;>
  rcases hx with rfl | rfl | rfl | rfl | rfl | rfl | rfl | rfl | rfl | rfl | rfl | rfl | rfl | rfl | rfl | rfl | rfl | rfl | rfl | rfl | rfl | rfl | rfl <;> rfl
theorem headDig_calm {z : List UInt8} (hz : Calm z) : headDig z = false := by
 cases z with
 | nil => rfl
 | cons c z' => exact (calm_cls (hz c z' rfl)).2.2
theorem headDig_take {l z : List UInt8} (hz : Calm z) (k : Nat) (h : headDig l = false) : headDig (l.take k ++ z) = false := by
 cases k with
 | zero => rw [List.take_zero, List.nil_append]; exact headDig_calm hz
 | succ k =>
  cases l with
  | nil => rw [List.take_nil, List.nil_append]; exact headDig_calm hz
  | cons d l => rw [List.take_succ_cons]; exact h
theorem headDig_take1 {l z : List UInt8} (k : Nat) (hk : 1 ≤ k) (h : headDig l = true) : headDig (l.take k ++ z) = true := by
 cases l with
 | nil => cases h
 | cons d l =>
  obtain ⟨j, rfl⟩ : ∃ j, k = j + 1 := ⟨k - 1, by omega⟩
  rw [List.take_succ_cons]; exact h
theorem cnt_head {l : List UInt8} (h : headDig l = true) : 1 ≤ cntW digI l := by
 cases l with
 | nil => cases h
 | cons d l =>
  have : digI d.toNat = true := h
  rw [cntW, this, cond_true]; omega
theorem cnt_stop {p : Int → Bool} : ∀ {l : List UInt8}, cntW p l < l.length → ∃ y, l[cntW p l]? = some y ∧ p y.toNat = false
 | [], h => by simp [cntW] at h
 | b :: l, h => by
  rw [cntW] at h ⊢
  cases hp : p b.toNat with
  | false => exact ⟨b, by simp, hp⟩
  | true =>
   rw [hp, cond_true, List.length_cons] at h
   obtain ⟨y, hy, hpy⟩ := cnt_stop (p := p) (l := l) (by omega)
   refine ⟨y, ?_, hpy⟩
   rw [cond_true, Nat.add_comm, List.getElem?_cons_succ]; exact hy
theorem take_bq {l : List UInt8} (h : cntW noBq l < l.length) : l.take (cntW noBq l + 1) = l.take (cntW noBq l) ++ [96] := by
 obtain ⟨y, hy, hp⟩ := cnt_stop h
 rw [noBq_eq] at hp
 have : y = 96 := by simpa using hp
 subst this
 rw [List.take_add_one, hy]; rfl
theorem wordV_ok {kind : Int} {x : List UInt8} {t : Tok} (h : wordV kind x = (t, 0)) : t = ⟨kind, x, 0, 0⟩ := by
 unfold wordV at h
 cases hc : decide ((16 : Int) < (x.length : Int)) with
 | true => rw [hc, cond_true] at h; exact absurd (Prod.mk.inj h).2 (by decide)
 | false => rw [hc, cond_false] at h; exact (Prod.mk.inj h).1.symm
theorem qTok_ok {x : List UInt8} {t : Tok} (h : qTok x = (t, 0)) : ∃ u, t = ⟨4, u, 0, 0⟩ ∧ Sx.quoteL u = x := by
 unfold qTok at h
 cases hu : unqV x with
 | none => rw [hu] at h; exact absurd (Prod.mk.inj h).2 (by decide)
 | some u =>
  rw [hu] at h
  simp only at h
  cases hc : decide ((64 : Int) < (u.length : Int)) with
  | true => rw [hc, cond_true] at h; exact absurd (Prod.mk.inj h).2 (by decide)
  | false => rw [hc, cond_false] at h; exact ⟨u, (Prod.mk.inj h).1.symm, unqV_some.1 hu⟩
theorem signV_ok {r : List UInt8} {t : Tok} {n : Nat} (h : signV r = ((t, 0), n)) : ∃ x, findS r signL = some x ∧ t = ⟨6, x, 0, 0⟩ ∧ n = x.length ∧ x ∈ signL ∧ r.take n = x := by
 unfold signV at h
 cases hf : findS r signL with
 | none => rw [hf] at h; exact absurd (Prod.mk.inj (Prod.mk.inj h).1).2 (by decide)
 | some x =>
  rw [hf] at h
  simp only [Prod.mk.injEq] at h
  obtain ⟨h1, h2⟩ := findS_some hf
  refine ⟨x, rfl, h.1.1.symm, h.2.symm, h1, ?_⟩
  unfold Lib.hasPrefix at h2
  rw [← h.2]
  exact (List.prefix_iff_eq_take.1 (List.isPrefixOf_iff_prefix.1 h2)).symm
theorem b_of {b k : UInt8} (h : decide ((b.toNat : Int) = (k.toNat : Int)) = true) : b = k := by
 rw [decide_eq_true_eq] at h; exact UInt8.toNat_inj.1 (by omega)
theorem allDig_take (l : List UInt8) : allDig (l.take (cntW digI l)) := take_cnt digI l
/-- a token is its own bytes, and is read again from them, whatever separator follows -/
theorem lexL_ok {b : UInt8} {l : List UInt8} {t : Tok} {n : Nat} (h : lexL b l = ((t, 0), n)) :
  1 ≤ n ∧ n ≤ l.length + 1 ∧ t.at_ = 0 ∧ (-9223372036854775808 ≤ t.num ∧ t.num ≤ 9223372036854775807) ∧ b :: l.take (n - 1) = txtV t ∧ ∀ z, Calm z → lexL b (l.take (n - 1) ++ z) = ((t, 0), n) := by
 have hn : (∀ c : UInt8, (sepI c.toNat = true ∨ c = 37) → nameI c.toNat = false) := fun c hc => (calm_cls hc).1
 have hv : (∀ c : UInt8, (sepI c.toNat = true ∨ c = 37) → varI c.toNat = false) := fun c hc => (calm_cls hc).2.1
 have hd : (∀ c : UInt8, (sepI c.toNat = true ∨ c = 37) → digI c.toNat = false) := fun c hc => (calm_cls hc).2.2
 have hz0 : (-9223372036854775808 : Int) ≤ 0 ∧ (0 : Int) ≤ 9223372036854775807 := by decide
 unfold lexL at h ⊢
 cases h1 : lowI b.toNat with
 | true =>
  rw [h1, cond_true] at h
  obtain ⟨ha, rfl⟩ := Prod.mk.inj h
  have ht := wordV_ok ha
  have hc := cntW_le nameI l
  rw [show 1 + cntW nameI l - 1 = cntW nameI l by omega]
  refine ⟨by omega, by omega, by rw [ht], by rw [ht]; exact hz0, by rw [ht]; rfl, fun z hz => ?_⟩
  obtain ⟨e1, e2⟩ := cntW_calm l z hz hn
  rw [cond_true, e1, e2, ha]
 | false =>
 rw [h1, cond_false] at h
 cases h2 : uppI b.toNat with
 | true =>
  rw [h2, cond_true] at h
  obtain ⟨ha, rfl⟩ := Prod.mk.inj h
  have ht := wordV_ok ha
  have hc := cntW_le varI l
  rw [show 1 + cntW varI l - 1 = cntW varI l by omega]
  refine ⟨by omega, by omega, by rw [ht], by rw [ht]; exact hz0, by rw [ht]; rfl, fun z hz => ?_⟩
  obtain ⟨e1, e2⟩ := cntW_calm l z hz hv
  rw [cond_true, cond_false, e1, e2, ha]
 | false =>
 rw [h2, cond_false] at h
 cases h3 : decide ((b.toNat : Int) = 95) with
 | true =>
  rw [h3, cond_true] at h
  obtain ⟨ha, rfl⟩ := Prod.mk.inj h
  have ht := (Prod.mk.inj ha).1
  have hb : b = 95 := b_of (k := 95) h3
  refine ⟨by omega, by omega, by rw [← ht], by rw [← ht]; exact hz0, by rw [← ht, hb]; rfl, fun z hz => ?_⟩
  rw [cond_false, cond_false, cond_true, ha]
 | false =>
 rw [h3, cond_false] at h
 cases h4 : digI b.toNat with
 | true =>
  rw [h4, cond_true] at h
  obtain ⟨ha, rfl⟩ := Prod.mk.inj h
  have hc := cntW_le digI l
  have had : allDig (b :: l.take (cntW digI l)) := fun x hx => by
   rcases List.mem_cons.1 hx with rfl | hx
   ·exact h4
   ·exact allDig_take l x hx
  obtain ⟨m, e1, e2, e3⟩ := numT_ok (neg := false) had (List.cons_ne_nil _ _) (by rw [ha])
  rw [ha] at e1
  simp only at e1
  rw [show 1 + cntW digI l - 1 = cntW digI l by omega]
  refine ⟨by omega, by omega, by rw [e1], by rw [e1]; exact e3, by rw [e1]; unfold txtV; simp only [cond_false] at e2; exact e2.symm, fun z hz => ?_⟩
  obtain ⟨c1, c2⟩ := cntW_calm l z hz hd
  rw [cond_false, cond_false, cond_false, cond_true, c1, c2, ha]
 | false =>
 rw [h4, cond_false] at h
 cases h5 : decide ((b.toNat : Int) = 45) && headDig l with
 | true =>
  rw [h5, cond_true] at h
  obtain ⟨ha, rfl⟩ := Prod.mk.inj h
  obtain ⟨h51, h52⟩ := Bool.and_eq_true_iff.1 h5
  have hb : b = 45 := b_of (k := 45) h51
  have hc := cntW_le digI l
  have hc1 := cnt_head h52
  have hne : l.take (cntW digI l) ≠ [] := fun e => by
   have := congrArg List.length e
   rw [take_len_cnt, List.length_nil] at this; omega
  obtain ⟨m, e1, e2, e3⟩ := numT_ok (neg := true) (allDig_take l) hne (by rw [ha])
  rw [ha] at e1
  simp only at e1
  rw [show 1 + cntW digI l - 1 = cntW digI l by omega]
  refine ⟨by omega, by omega, by rw [e1], by rw [e1]; exact e3, by rw [e1, hb]; unfold txtV; simp only [cond_true] at e2; exact e2.symm, fun z hz => ?_⟩
  obtain ⟨c1, c2⟩ := cntW_calm l z hz hd
  rw [cond_false, cond_false, cond_false, cond_false, h51, headDig_take1 _ hc1 h52, Bool.and_self, cond_true, c1, c2, ha]
 | false =>
 rw [h5, cond_false] at h
 have h5z : ∀ k z, Calm z → (decide ((b.toNat : Int) = 45) && headDig (l.take k ++ z)) = false := fun k z hz => by
  cases h51 : decide ((b.toNat : Int) = 45) with
  | false => rfl
  | true =>
   rw [h51, Bool.true_and] at h5
   rw [Bool.true_and]; exact headDig_take hz k h5
 cases h6 : decide ((b.toNat : Int) = 34) with
 | true =>
  rw [h6, cond_true] at h
  cases hq : qEnd l with
  | none => rw [hq] at h; exact absurd (Prod.mk.inj (Prod.mk.inj h).1).2 (by decide)
  | some x =>
   rw [hq] at h
   obtain ⟨ha, rfl⟩ := Prod.mk.inj h
   have hx := qEnd_lt' hq
   obtain ⟨u, e1, e2⟩ := qTok_ok ha
   rw [show x + 2 - 1 = x + 1 by omega]
   refine ⟨by omega, by omega, by rw [e1], by rw [e1]; exact hz0, by rw [e1, ← e2]; rfl, fun z hz => ?_⟩
   have hl : (l.take (x + 1)).length = x + 1 := by rw [List.length_take]; omega
   have ht : (l.take (x + 1) ++ z).take (x + 1) = l.take (x + 1) := by
    have := take_app (u := l.take (x + 1)) (z := z)
    rwa [hl] at this
   simp only [h5z _ z hz, qEnd_take _ l (Nat.le_refl _) x hq z, ht, cond_true, cond_false, ha]
 | false =>
 rw [h6, cond_false] at h
 cases h7 : decide ((b.toNat : Int) = 96) with
 | true =>
  rw [h7, cond_true] at h
  have hb : b = 96 := b_of (k := 96) h7
  cases hc : decide (cntW noBq l < l.length) with
  | false => rw [hc, cond_false] at h; exact absurd (Prod.mk.inj (Prod.mk.inj h).1).2 (by decide)
  | true =>
   rw [hc, cond_true] at h
   rw [decide_eq_true_eq] at hc
   obtain ⟨ha, rfl⟩ := Prod.mk.inj h
   have e1 := (Prod.mk.inj ha).1
   have htb := take_bq hc
   rw [show cntW noBq l + 2 - 1 = cntW noBq l + 1 by omega]
   refine ⟨by omega, by omega, by rw [← e1], by rw [← e1]; exact hz0, by rw [← e1, htb, hb]; rfl, fun z hz => ?_⟩
   have hcn : cntW noBq (l.take (cntW noBq l) ++ 96 :: z) = cntW noBq l := by
    have := cntW_app (p := noBq) (u := l.take (cntW noBq l)) (z := 96 :: z) (take_cnt noBq l) (fun c z' e => by cases e; decide)
    rwa [take_len_cnt] at this
   have hl2 : (l.take (cntW noBq l) ++ 96 :: z).take (cntW noBq l) = l.take (cntW noBq l) := by
    have := take_app (u := l.take (cntW noBq l)) (z := 96 :: z)
    rwa [take_len_cnt] at this
   have hlt : cntW noBq l < (l.take (cntW noBq l) ++ 96 :: z).length := by
    rw [List.length_append, take_len_cnt, List.length_cons]; omega
   have h5k := h5z (cntW noBq l + 1) z hz
   rw [htb, List.append_assoc, List.singleton_append] at h5k ⊢
   simp only [h5k, cond_true, cond_false, hcn, hl2, decide_eq_true hlt, ha]
 | false =>
  rw [h7, cond_false] at h
  obtain ⟨x, hf, e1, e2, hx, e3⟩ := signV_ok h
  have hx0 : 1 ≤ x.length := by
   have : ∀ y ∈ signL, 1 ≤ y.length := by decide
   exact this x hx
  have hxl : x.length ≤ l.length + 1 := by
   obtain ⟨_, hp⟩ := findS_some hf
   exact prefix_len hp
  obtain ⟨m, rfl⟩ : ∃ m, n = m + 1 := ⟨n - 1, by omega⟩
  rw [List.take_succ_cons] at e3
  rw [show m + 1 - 1 = m by omega]
  refine ⟨by omega, by omega, by rw [e1], by rw [e1]; exact hz0, by rw [e3, e1]; rfl, fun z hz => ?_⟩
  rw [h5z m z hz]
  simp only [cond_false]
  have : signV (b :: (l.take m ++ z)) = ((t, 0), m + 1) := by
   rw [← List.cons_append, e3]
   unfold signV
   rw [find_calm x z hx hz, e1, e2]
  exact this
end Go.Proofs.YtogponhonjiidaaDoor
set_option linter.unusedSimpArgs false
set_option linter.unusedVariables false
set_option maxRecDepth 20000
set_option maxHeartbeats 16000000
namespace Go.Proofs.YtogponhonjiidaaDoor
open Go Go.Sx
open Nat renaming reduceBEq → zA, reduceBNe → zB, reduceAdd → zC, reduceSub → zD, reduceMul → zE, reduceLeDiff → zF, reduceLT → zG, reduceEqDiff → zH
open Int renaming reduceToNat → zI, reduceLE → zJ, reduceLT → zK, reduceEq → zL
open Bool renaming not_eq_true' → zM, not_eq_false' → zN
def joinV (l : List Tok) : List UInt8 := Lib.join (l.map txtV) [32]
end Go.Proofs.YtogponhonjiidaaDoor
set_option linter.unusedSimpArgs false
set_option linter.unusedVariables false
set_option maxRecDepth 20000
namespace Go.Proofs.YtogponhonjiidaaDoor
open Go Go.Sx
open Nat renaming reduceBEq → zA, reduceBNe → zB, reduceAdd → zC, reduceSub → zD, reduceMul → zE, reduceLeDiff → zF, reduceLT → zG, reduceEqDiff → zH
open Int renaming reduceToNat → zI, reduceLE → zJ, reduceLT → zK, reduceEq → zL
open Bool renaming not_eq_true' → zM, not_eq_false' → zN
/-- a token begins with no separator -/
theorem lexL_head {b : UInt8} {l : List UInt8} {t : Tok} {n : Nat} (h : lexL b l = ((t, 0), n)) : sepI b.toNat = false ∧ decide ((b.toNat : Int) = 37) = false := by
 have no : ∀ c : UInt8, (c = 9 ∨ c = 10 ∨ c = 13 ∨ c = 32 ∨ c = 37) → ∀ l, (lexL c l).1.2 = 5 := by
  rintro c (rfl | rfl | rfl | rfl | rfl) l <;> rfl
 have h5 : ¬ (b = 9 ∨ b = 10 ∨ b = 13 ∨ b = 32 ∨ b = 37) := fun hb => by
  have := no b hb l
  rw [h] at this
  exact absurd (show (0 : Int) = 5 from this) (by decide)
 have e : ∀ k : UInt8, (b.toNat : Int) = (k.toNat : Int) → b = k := fun k hk => UInt8.toNat_inj.1 (by omega)
 constructor
 ·cases hs : sepI b.toNat with
  | false => rfl
  | true =>
   exfalso
   unfold sepI at hs
   simp only [Bool.or_eq_true, decide_eq_true_eq] at hs
   rcases hs with hs | hs | hs | hs
   ·exact h5 (.inl (e 9 hs))
   ·exact h5 (.inr (.inl (e 10 hs)))
   ·exact h5 (.inr (.inr (.inl (e 13 hs))))
   ·exact h5 (.inr (.inr (.inr (.inl (e 32 hs)))))
 ·rw [decide_eq_false_iff_not]
  intro hs
  exact h5 (.inr (.inr (.inr (.inr (e 37 hs)))))
/-- the tokens from k on -/
def Chain (s : List UInt8) : Nat → List Tok → Prop
 | k, [] => s.length ≤ k
 | k, t :: l => ∃ b r n, s.drop k = b :: r ∧ lexL b r = (({ t with at_ := 0 }, 0), n) ∧ t.at_ = (k : Int) ∧ Chain s (skipTo s (k + n)) l
theorem drop_at {s : List UInt8} {k : Nat} {b : UInt8} {r : List UInt8} (h : s.drop k = b :: r) : s[k]? = some b ∧ k < s.length ∧ r.length = s.length - k - 1 := by
 have hl := congrArg List.length h
 rw [List.length_drop, List.length_cons] at hl
 refine ⟨?_, by omega, by omega⟩
 have : (s.drop k)[0]? = some b := by rw [h]; rfl
 rwa [List.getElem?_drop, Nat.add_zero] at this
theorem tok_at0 {t : Tok} (h : t.at_ = 0) (k : Int) : ({ ({ t with at_ := k } : Tok) with at_ := 0 } : Tok) = t := by cases t; simp only at h; subst h; rfl
theorem scan_chain (s : List UInt8) : ∀ (n k : Nat) (acc x : List Tok) (a : Int), s.length < k + n → scanV (quoV s) (encV s) s n k acc = (x, a, 0) → ∃ l, x = acc ++ l ∧ Chain s k l
 | 0, k, acc, x, a, hn, h => ⟨[], by rw [scanV] at h; rw [List.append_nil]; exact (Prod.mk.inj h).1.symm, by show s.length ≤ k; omega⟩
 | n + 1, k, acc, x, a, hn, h => by
  by_cases hk : k < s.length
  ·have hd : s.drop k = s[k] :: s.drop (k + 1) := List.drop_eq_getElem_cons hk
   have hb : s[k]? = some s[k] := List.getElem?_eq_getElem hk
   have hx := nextV_lex s k s[k] (s.drop (k + 1)) hd
   obtain ⟨⟨⟨t, e⟩, m⟩, hr⟩ : ∃ r, lexL s[k] (s.drop (k + 1)) = r := ⟨_, rfl⟩
   rw [hr] at hx
   rw [scanV_step _ _ s n k acc hb hx] at h
   cases he : decide (e = 0) with
   | false =>
    rw [he, cond_false] at h
    rw [decide_eq_false_iff_not] at he
    exact absurd (Prod.mk.inj (Prod.mk.inj h).2).2 he
   | true =>
    rw [he, cond_true] at h
    rw [decide_eq_true_eq] at he
    subst he
    obtain ⟨h1, h2, h3, _⟩ := lexL_ok hr
    have hge := skipTo_ge (s := s) (k := k + m)
    obtain ⟨l, e1, e2⟩ := scan_chain s n (skipTo s (k + m)) _ x a (by omega) h
    refine ⟨{ t with at_ := (k : Int) } :: l, by rw [e1, List.append_assoc]; rfl, s[k], s.drop (k + 1), m, hd, ?_, rfl, e2⟩
    rw [tok_at0 h3, hr]
  ·refine ⟨[], ?_, by show s.length ≤ k; omega⟩
   rw [scanV_end _ _ s _ _ _ (by omega)] at h
   rw [List.append_nil]; exact (Prod.mk.inj h).1.symm
theorem chain_scan (s : List UInt8) : ∀ (l : List Tok) (n k : Nat) (acc : List Tok), Chain s k l → s.length < k + n → scanV (quoV s) (encV s) s n k acc = (acc ++ l, 0, 0)
 | [], n, k, acc, h, hn => by rw [scanV_end _ _ s _ _ _ h, List.append_nil]
 | t :: l, n, k, acc, h, hn => by
  obtain ⟨b, r, m, hd, hr, hat, hc⟩ := h
  obtain ⟨hb, hk, hrl⟩ := drop_at hd
  obtain ⟨n, rfl⟩ : ∃ j, n = j + 1 := ⟨n - 1, by omega⟩
  have hx := nextV_lex s k b r hd
  rw [hr] at hx
  obtain ⟨h1, h2, h3, _⟩ := lexL_ok hr
  have hge := skipTo_ge (s := s) (k := k + m)
  rw [scanV_step _ _ s n k acc hb hx, decide_eq_true rfl, cond_true, chain_scan s l n _ _ hc (by omega), List.append_assoc]
  have : ({ ({ t with at_ := 0 } : Tok) with at_ := (k : Int) } : Tok) = t := by rw [← hat]
  rw [this]; rfl
theorem scanR_ok {s : List UInt8} (h : (scanR s).2.2 = 0) : s.length ≤ 4000 ∧ Chain s (skipTo s 0) (scanR s).1 := by
 by_cases hl : s.length ≤ 4000
 ·refine ⟨hl, ?_⟩
  rw [scan_short s hl] at h ⊢
  obtain ⟨⟨x, a, e⟩, hr⟩ : ∃ r, scanV (quoV s) (encV s) s (s.length + 1) (skipTo s 0) [] = r := ⟨_, rfl⟩
  rw [hr] at h ⊢
  simp only at h
  subst h
  obtain ⟨l, e1, e2⟩ := scan_chain s _ _ _ _ _ (by omega) hr
  simp only [e1, List.nil_append]; exact e2
 ·rw [scan_long s (by omega)] at h
  exact absurd h (by decide)
theorem scanR_of {s : List UInt8} {l : List Tok} (hl : s.length ≤ 4000) (h : Chain s (skipTo s 0) l) : scanR s = (l, 0, 0) := by
 rw [scan_short s hl, chain_scan s l _ _ [] h (by omega), List.nil_append]
/-- a token of some text -/
def IsT (t : Tok) : Prop := ∃ b r n, lexL b r = (({ t with at_ := 0 }, 0), n)
theorem chain_isT (s : List UInt8) : ∀ (l : List Tok) (k : Nat), Chain s k l → ∀ t ∈ l, IsT t
 | [], k, h, t, ht => by cases ht
 | u :: l, k, h, t, ht => by
  obtain ⟨b, r, m, hd, hr, hat, hc⟩ := h
  rcases List.mem_cons.1 ht with rfl | ht
  ·exact ⟨b, r, m, hr⟩
  ·exact chain_isT s l _ hc t ht
theorem txt_at (t : Tok) : txtV { t with at_ := 0 } = txtV t := rfl
theorem isT_ok {t : Tok} (h : IsT t) : ∃ b r n, lexL b r = (({ t with at_ := 0 }, 0), n) ∧ txtV t = b :: r.take (n - 1) ∧ n = (txtV t).length ∧ (sepI b.toNat = false ∧ decide ((b.toNat : Int) = 37) = false) ∧ ∀ z, Calm z → lexL b (r.take (n - 1) ++ z) = (({ t with at_ := 0 }, 0), n) := by
 obtain ⟨b, r, n, hr⟩ := h
 obtain ⟨h1, h2, h3, h4, h5, h6⟩ := lexL_ok hr
 rw [txt_at] at h5
 refine ⟨b, r, n, hr, h5.symm, ?_, lexL_head hr, h6⟩
 rw [← h5, List.length_cons, List.length_take]; omega
/-- the tokens of texts with spaces between them -/
def spT (l : List Tok) : List UInt8 := l.flatMap fun t => 32 :: txtV t
theorem spT_cons (t : Tok) (l : List Tok) : spT (t :: l) = 32 :: (txtV t ++ spT l) := rfl
theorem joinV_cons (t : Tok) (l : List Tok) : joinV (t :: l) = txtV t ++ spT l := by
 unfold joinV spT
 rw [List.map_cons, Lib.join_cons]
 congr 1
 induction l with
 | nil => rfl
 | cons u l ih => rw [List.map_cons, List.flatMap_cons, ← ih]; unfold Lib.joinTail; simp
theorem wordV_len {kind : Int} {x : List UInt8} {t : Tok} (h : wordV kind x = (t, 0)) : t.text.length ≤ 16 := by
 have ht := wordV_ok h
 unfold wordV at h
 cases hc : decide ((16 : Int) < (x.length : Int)) with
 | true => rw [hc, cond_true] at h; exact absurd (Prod.mk.inj h).2 (by decide)
 | false =>
  rw [decide_eq_false_iff_not] at hc
  rw [ht]; simp only; omega
theorem qTok_len {x : List UInt8} {t : Tok} (h : qTok x = (t, 0)) : t.text.length ≤ 64 := by
 unfold qTok at h
 cases hu : unqV x with
 | none => rw [hu] at h; exact absurd (Prod.mk.inj h).2 (by decide)
 | some u =>
  rw [hu] at h
  simp only at h
  cases hc : decide ((64 : Int) < (u.length : Int)) with
  | true => rw [hc, cond_true] at h; exact absurd (Prod.mk.inj h).2 (by decide)
  | false =>
   rw [hc, cond_false] at h
   rw [decide_eq_false_iff_not] at hc
   rw [← (Prod.mk.inj h).1]; simp only; omega
theorem numT_text (neg : Bool) (d : List UInt8) : (numT neg d).1.text = [] := by
 unfold numT
 cases decide ((numM neg d).2 = 0) <;> rfl
theorem lexL_text {b : UInt8} {l : List UInt8} {t : Tok} {n : Nat} (h : lexL b l = ((t, 0), n)) : t.text.length ≤ l.length + 100 := by
 unfold lexL at h
 cases h1 : lowI b.toNat with
 | true => rw [h1, cond_true] at h; have := wordV_len (Prod.mk.inj h).1; omega
 | false =>
 rw [h1, cond_false] at h
 cases h2 : uppI b.toNat with
 | true => rw [h2, cond_true] at h; have := wordV_len (Prod.mk.inj h).1; omega
 | false =>
 rw [h2, cond_false] at h
 cases h3 : decide ((b.toNat : Int) = 95) with
 | true =>
  rw [h3, cond_true] at h
  rw [← (Prod.mk.inj (Prod.mk.inj h).1).1]; simp only [List.length_cons, List.length_nil]; omega
 | false =>
 rw [h3, cond_false] at h
 cases h4 : digI b.toNat with
 | true =>
  rw [h4, cond_true] at h
  have := numT_text false (b :: l.take (cntW digI l))
  rw [(Prod.mk.inj h).1] at this
  simp only at this
  rw [this]; simp
 | false =>
 rw [h4, cond_false] at h
 cases h5 : decide ((b.toNat : Int) = 45) && headDig l with
 | true =>
  rw [h5, cond_true] at h
  have := numT_text true (l.take (cntW digI l))
  rw [(Prod.mk.inj h).1] at this
  simp only at this
  rw [this]; simp
 | false =>
 rw [h5, cond_false] at h
 cases h6 : decide ((b.toNat : Int) = 34) with
 | true =>
  rw [h6, cond_true] at h
  cases hq : qEnd l with
  | none => rw [hq] at h; exact absurd (Prod.mk.inj (Prod.mk.inj h).1).2 (by decide)
  | some x =>
   rw [hq] at h
   have := qTok_len (Prod.mk.inj h).1; omega
 | false =>
 rw [h6, cond_false] at h
 cases h7 : decide ((b.toNat : Int) = 96) with
 | true =>
  rw [h7, cond_true] at h
  cases hc : decide (cntW noBq l < l.length) with
  | false => rw [hc, cond_false] at h; exact absurd (Prod.mk.inj (Prod.mk.inj h).1).2 (by decide)
  | true =>
   rw [hc, cond_true] at h
   rw [← (Prod.mk.inj (Prod.mk.inj h).1).1]; simp only [List.length_take]; omega
 | false =>
  rw [h7, cond_false] at h
  obtain ⟨x, hf, e1, e2, hx, e3⟩ := signV_ok h
  have : ∀ y ∈ signL, y.length ≤ 2 := by decide
  have := this x hx
  rw [e1]; simp only; omega
/-- the tokens of a text: how many, how long -/
theorem chain_bd (s : List UInt8) (hs : s.length ≤ 4000) : ∀ (l : List Tok) (k : Nat), k ≤ s.length → Chain s k l → (∀ t ∈ l, TokOk t) ∧ (spT l).length + 2 * k ≤ 2 * s.length ∧ l.length + k ≤ s.length
 | [], k, hk, h => ⟨fun t ht => (by cases ht), by show ([] : List UInt8).length + _ ≤ _; simp only [List.length_nil]; omega, by simp only [List.length_nil]; omega⟩
 | t :: l, k, hk, h => by
  obtain ⟨b, r, n, hd, hr, hat, hc⟩ := h
  obtain ⟨hb, hlt, hrl⟩ := drop_at hd
  obtain ⟨h1, h2, h3, h4, h5, h6⟩ := lexL_ok hr
  have htx := lexL_text hr
  simp only at htx
  rw [txt_at] at h5
  have hn : (txtV t).length = n := by rw [← h5, List.length_cons, List.length_take]; omega
  have hge := skipTo_ge (s := s) (k := k + n)
  obtain ⟨i1, i2, i3⟩ := chain_bd s hs l _ (skipTo_le (by omega)) hc
  refine ⟨fun u hu => ?_, ?_, ?_⟩
  ·rcases List.mem_cons.1 hu with rfl | hu
   ·exact ⟨h4.1, h4.2, by omega⟩
   ·exact i1 u hu
  ·rw [spT_cons, List.length_cons, List.length_append, hn]; omega
  ·rw [List.length_cons]; omega
theorem tok_facts (x : List UInt8) (h : (scanR x).2.2 = 0) : (∀ t ∈ (scanR x).1, TokOk t) ∧ (scanR x).1.length ≤ 10000 ∧ (joinV (scanR x).1).length ≤ 8000 := by
 obtain ⟨h1, h2⟩ := scanR_ok h
 obtain ⟨i1, i2, i3⟩ := chain_bd x h1 _ _ (skipTo_le (Nat.zero_le _)) h2
 refine ⟨i1, by omega, ?_⟩
 generalize (scanR x).1 = l at i2
 cases l with
 | nil => show ([] : List UInt8).length ≤ _; simp
 | cons t l =>
  rw [joinV_cons]
  rw [spT_cons, List.length_cons] at i2; omega
end Go.Proofs.YtogponhonjiidaaDoor
set_option linter.unusedSimpArgs false
set_option linter.unusedVariables false
set_option maxRecDepth 20000
namespace Go.Proofs.YtogponhonjiidaaDoor
open Go Go.Sx
open Nat renaming reduceBEq → zA, reduceBNe → zB, reduceAdd → zC, reduceSub → zD, reduceMul → zE, reduceLeDiff → zF, reduceLT → zG, reduceEqDiff → zH
open Int renaming reduceToNat → zI, reduceLE → zJ, reduceLT → zK, reduceEq → zL
open Bool renaming not_eq_true' → zM, not_eq_false' → zN
def softI (n : Int) : Bool := !varI n && (!decide (n = 62) && (!decide (n = 61) && (!decide (n = 60) && !decide (n = 123))))
def Soft (z : List UInt8) : Prop := ∀ c z', z = c :: z' → softI c.toNat = true
theorem soft_cls {c : UInt8} (h : softI c.toNat = true) : nameI c.toNat = false ∧ varI c.toNat = false ∧ digI c.toNat = false ∧ c ≠ 62 ∧ c ≠ 61 ∧ c ≠ 60 ∧ c ≠ 123 := by
 have H : ∀ n : Nat, n < 256 → softI n = true → nameI n = false ∧ varI n = false ∧ digI n = false := by decide +kernel
 obtain ⟨a, b, d⟩ := H c.toNat (UInt8.toNat_lt c) h
 refine ⟨a, b, d, ?_, ?_, ?_, ?_⟩ <;> (rintro rfl; revert h; decide)
theorem cntW_soft {p : Int → Bool} (l z : List UInt8) (hz : Soft z) (hp : ∀ c : UInt8, softI c.toNat = true → p c.toNat = false) : cntW p (l.take (cntW p l) ++ z) = cntW p l ∧ (l.take (cntW p l) ++ z).take (cntW p l) = l.take (cntW p l) := by
 have h := cntW_app (p := p) (u := l.take (cntW p l)) (z := z) (take_cnt p l) (fun c z' e => hp c (hz c z' e))
 rw [take_len_cnt] at h
 refine ⟨h, ?_⟩
 have := take_app (u := l.take (cntW p l)) (z := z)
 rwa [take_len_cnt] at this
theorem cntW_ext {p : Int → Bool} : ∀ (l z : List UInt8), cntW p l < l.length → cntW p (l ++ z) = cntW p l ∧ (l ++ z).take (cntW p l) = l.take (cntW p l)
 | [], z, h => by simp [cntW] at h
 | b :: l, z, h => by
  rw [cntW] at h
  rw [List.cons_append, cntW, cntW]
  cases hp : p b.toNat with
  | false => exact ⟨rfl, rfl⟩
  | true =>
   rw [hp, cond_true, List.length_cons] at h
   obtain ⟨i1, i2⟩ := cntW_ext (p := p) l z (by omega)
   rw [cond_true, cond_true, i1]
   refine ⟨rfl, ?_⟩
   rw [Nat.add_comm, List.take_succ_cons, List.take_succ_cons, i2]
theorem find_soft (x z : List UInt8) (hx : x ∈ signL) (hz : Soft z) : findS (x ++ z) signL = some x := by
 simp only [signL, List.mem_cons, List.not_mem_nil, or_false] at hx
 cases z with
 | nil =>
  rw [List.append_nil]
  rcases hx with rfl | rfl | rfl | rfl | rfl | rfl | rfl | rfl | rfl | rfl | rfl | rfl | rfl | rfl | rfl | rfl | rfl | rfl | rfl | rfl | rfl | rfl | rfl <;> decide
 | cons c z' =>
  obtain ⟨_, _, _, h1, h2, h3, h4⟩ := soft_cls (hz c z' rfl)
  have h1' := Ne.symm h1
  have h2' := Ne.symm h2
  have h3' := Ne.symm h3
  have h4' := Ne.symm h4
  have b1 : (62 == c) = false := by simpa using h1'
  have b2 : (61 == c) = false := by simpa using h2'
  have b3 : (60 == c) = false := by simpa using h3'
  have b4 : (123 == c) = false := by simpa using h4'
  rcases hx with rfl | rfl | rfl | rfl | rfl | rfl | rfl | rfl | rfl | rfl | rfl | rfl | rfl | rfl | rfl | rfl | rfl | rfl | rfl | rfl | rfl | rfl | rfl <;>
  simp [findS, signL, Lib.hasPrefix, List.isPrefixOf, b1, b2, b3, b4]
/-- a sign that ends within the text, or before a soft place -/
theorem find_ext (r z : List UInt8) (x : List UInt8) (h : findS r signL = some x) (hl : x.length < r.length) : findS (r ++ z) signL = some x := by
 have key : ∀ L : List (List UInt8), (∀ y ∈ L, y.length ≤ 2) → findS r L = some x → 2 ≤ r.length → findS (r ++ z) L = some x := by
  intro L hL hf h2
  induction L with
  | nil => cases hf
  | cons y L ih =>
   have hy := hL y List.mem_cons_self
   have e : Lib.hasPrefix (r ++ z) y = Lib.hasPrefix r y := by
    unfold Lib.hasPrefix
    match r, h2 with
    | a :: b :: r, _ =>
     match y, hy with
     | [], _ => rfl
     | [c], _ => rfl
     | [c, d], _ => rfl
     | _ :: _ :: _ :: _, hy => simp at hy
   rw [findS] at hf ⊢
   rw [e]
   cases hp : Lib.hasPrefix r y with
   | true => rw [hp] at hf; exact hf
   | false => rw [hp] at hf; exact ih (fun y hy => hL y (List.mem_cons_of_mem _ hy)) hf
 have hx : 1 ≤ x.length := by
  have : ∀ y ∈ signL, 1 ≤ y.length := by decide
  exact this x (findS_some h).1
 exact key signL (by decide) h (by omega)
theorem headDig_soft {z : List UInt8} (hz : Soft z) : headDig z = false := by
 cases z with
 | nil => rfl
 | cons c z' => exact (soft_cls (hz c z' rfl)).2.2.1
theorem qEnd_ext {l : List UInt8} {x : Nat} (h : qEnd l = some x) (z : List UInt8) : qEnd (l ++ z) = some x ∧ (l ++ z).take (x + 1) = l.take (x + 1) := by
 have hx := qEnd_lt' h
 have e : (l ++ z).take (x + 1) = l.take (x + 1) := by rw [List.take_append_of_le_length (by omega)]
 refine ⟨?_, e⟩
 have := qEnd_take _ l (Nat.le_refl _) x h (l.drop (x + 1) ++ z)
 rwa [← List.append_assoc, List.take_append_drop] at this
/-- a token is read also where more stands behind, if that is soft or the token ends before -/
theorem lexL_ext {b : UInt8} {l : List UInt8} {t : Tok} {n : Nat} (h : lexL b l = ((t, 0), n)) (z : List UInt8) (hz : n ≤ l.length ∨ Soft z) : lexL b (l ++ z) = ((t, 0), n) := by
 have cnt : ∀ p : Int → Bool, (∀ c : UInt8, softI c.toNat = true → p c.toNat = false) → (1 + cntW p l ≤ l.length ∨ Soft z) → cntW p (l ++ z) = cntW p l ∧ (l ++ z).take (cntW p l) = l.take (cntW p l) := by
  intro p hp hc
  have hle := cntW_le p l
  by_cases hlt : cntW p l < l.length
  ·exact cntW_ext l z hlt
  ·have he : cntW p l = l.length := by omega
   have hs : Soft z := hc.resolve_left (by omega)
   have := cntW_soft (p := p) l z hs hp
   rw [he, List.take_length] at this
   rw [he, List.take_length]; exact this
 have hdg : headDig (l ++ z) = headDig l ∨ (l = [] ∧ Soft z → headDig (l ++ z) = false) := by
  cases l with
  | nil => exact .inr fun hh => headDig_soft hh.2
  | cons d l => exact .inl rfl
 unfold lexL at h ⊢
 cases h1 : lowI b.toNat with
 | true =>
  rw [h1, cond_true] at h
  obtain ⟨ha, rfl⟩ := Prod.mk.inj h
  obtain ⟨e1, e2⟩ := cnt nameI (fun c hc => (soft_cls hc).1) hz
  rw [cond_true, e1, e2, ha]
 | false =>
 rw [h1, cond_false] at h
 cases h2 : uppI b.toNat with
 | true =>
  rw [h2, cond_true] at h
  obtain ⟨ha, rfl⟩ := Prod.mk.inj h
  obtain ⟨e1, e2⟩ := cnt varI (fun c hc => (soft_cls hc).2.1) hz
  rw [cond_false, cond_true, e1, e2, ha]
 | false =>
 rw [h2, cond_false] at h
 cases h3 : decide ((b.toNat : Int) = 95) with
 | true => rw [h3, cond_true] at h; rw [cond_false, cond_false, cond_true, h]
 | false =>
 rw [h3, cond_false] at h
 cases h4 : digI b.toNat with
 | true =>
  rw [h4, cond_true] at h
  obtain ⟨ha, rfl⟩ := Prod.mk.inj h
  obtain ⟨e1, e2⟩ := cnt digI (fun c hc => (soft_cls hc).2.2.1) hz
  rw [cond_false, cond_false, cond_false, cond_true, e1, e2, ha]
 | false =>
 rw [h4, cond_false] at h
 cases h5 : decide ((b.toNat : Int) = 45) && headDig l with
 | true =>
  rw [h5, cond_true] at h
  obtain ⟨ha, rfl⟩ := Prod.mk.inj h
  obtain ⟨h51, h52⟩ := Bool.and_eq_true_iff.1 h5
  have hd2 : headDig (l ++ z) = true := by
   cases l with
   | nil => cases h52
   | cons d l => exact h52
  obtain ⟨e1, e2⟩ := cnt digI (fun c hc => (soft_cls hc).2.2.1) hz
  rw [cond_false, cond_false, cond_false, cond_false, h51, hd2, Bool.and_self, cond_true, e1, e2, ha]
 | false =>
 rw [h5, cond_false] at h
 cases h6 : decide ((b.toNat : Int) = 34) with
 | true =>
  rw [h6, cond_true] at h
  have h45 : decide ((b.toNat : Int) = 45) = false := by rw [decide_eq_true_eq] at h6; rw [decide_eq_false_iff_not]; omega
  cases hq : qEnd l with
  | none => rw [hq] at h; exact absurd (Prod.mk.inj (Prod.mk.inj h).1).2 (by decide)
  | some x =>
   rw [hq] at h
   obtain ⟨q1, q2⟩ := qEnd_ext hq z
   simp only [h45, Bool.false_and, cond_false, cond_true, q1, q2]
   exact h
 | false =>
 rw [h6, cond_false] at h
 cases h7 : decide ((b.toNat : Int) = 96) with
 | true =>
  rw [h7, cond_true] at h
  have h45 : decide ((b.toNat : Int) = 45) = false := by rw [decide_eq_true_eq] at h7; rw [decide_eq_false_iff_not]; omega
  cases hc : decide (cntW noBq l < l.length) with
  | false => rw [hc, cond_false] at h; exact absurd (Prod.mk.inj (Prod.mk.inj h).1).2 (by decide)
  | true =>
   rw [hc, cond_true] at h
   rw [decide_eq_true_eq] at hc
   obtain ⟨e1, e2⟩ := cntW_ext (p := noBq) l z hc
   simp only [h45, Bool.false_and, cond_false, cond_true, e1, e2, decide_eq_true (show cntW noBq l < (l ++ z).length by rw [List.length_append]; omega)]
   exact h
 | false =>
  rw [h7, cond_false] at h
  obtain ⟨x, hf, e1, e2, hx, e3⟩ := signV_ok h
  have h5' : (decide ((b.toNat : Int) = 45) && headDig (l ++ z)) = false := by
   cases l with
   | cons d l => exact h5
   | nil =>
    cases h45 : decide ((b.toNat : Int) = 45) with
    | false => rfl
    | true =>
     rw [Bool.true_and, List.nil_append]
     refine headDig_soft (hz.resolve_left ?_)
     have : 1 ≤ x.length := by
      have : ∀ y ∈ signL, 1 ≤ y.length := by decide
      exact this x hx
     simp only [List.length_nil]; omega
  rw [h5']
  simp only [cond_false]
  have : findS (b :: l ++ z) signL = some x := by
   by_cases hlt : x.length < (b :: l).length
   ·exact find_ext (b :: l) z x hf hlt
   ·have hpl := prefix_len (findS_some hf).2
    have hxe : b :: l = x := by rw [← e3, e2, List.take_of_length_le (by omega)]
    rw [hxe]
    refine find_soft x z hx (hz.resolve_left ?_)
    rw [List.length_cons] at hlt hpl
    omega
  unfold signV
  rw [← List.cons_append, this, e1, e2]
/-- the first m bytes are read token by token -/
inductive Eat : List UInt8 → Nat → Prop
 | nil (w : List UInt8) : Eat w 0
 | sep {b : UInt8} {w : List UInt8} {m : Nat} (hb : sepI b.toNat = true) (h : Eat w m) : Eat (b :: w) (m + 1)
 | tok {b : UInt8} {w : List UInt8} {t : Tok} {n m : Nat} (hl : lexL b w = ((t, 0), n)) (h : Eat ((b :: w).drop n) m) : Eat (b :: w) (n + m)
theorem eat_chain {s w : List UInt8} {m : Nat} (h : Eat w m) : ∀ k, k ≤ s.length → s.drop k = w → m = s.length - k → ∃ l, Chain s (skipTo s k) l := by
 induction h with
 | nil w =>
  intro k hk hw hm
  exact ⟨[], by rw [skipTo_end (by omega)]; show s.length ≤ k; omega⟩
 | @sep b w m hb h ih =>
  intro k hk hw hm
  obtain ⟨h1, h2, h3⟩ := drop_at hw
  rw [skipTo_sep h1 hb]
  exact ih (k + 1) (by omega) (by rw [← List.drop_drop, hw]; rfl) (by omega)
 | @tok b w t n m hl h ih =>
  intro k hk hw hm
  obtain ⟨h1, h2, h3⟩ := drop_at hw
  obtain ⟨g1, g2⟩ := lexL_head hl
  obtain ⟨a1, a2, a3, _⟩ := lexL_ok hl
  obtain ⟨l, hc⟩ := ih (k + n) (by omega) (by rw [← List.drop_drop, hw]) (by omega)
  rw [skipTo_no h1 g1 g2]
  refine ⟨{ t with at_ := (k : Int) } :: l, b, w, n, hw, ?_, rfl, hc⟩
  rw [tok_at0 a3, hl]
theorem eat_scan {s : List UInt8} (hl : s.length ≤ 4000) (h : Eat s s.length) : (scanR s).2.2 = 0 := by
 obtain ⟨l, hc⟩ := eat_chain h 0 (Nat.zero_le _) rfl (by omega)
 rw [scanR_of hl hc]
/-- read whatever stands behind; read before a soft place -/
def Lc (u : List UInt8) : Prop := ∀ z m, Eat z m → Eat (u ++ z) (u.length + m)
def Lx (u : List UInt8) : Prop := ∀ z m, Soft z → Eat z m → Eat (u ++ z) (u.length + m)
def So (u : List UInt8) : Prop := ∃ c u', u = c :: u' ∧ softI c.toNat = true
theorem Lc.lx {u : List UInt8} (h : Lc u) : Lx u := fun z m _ he => h z m he
theorem So.soft {u : List UInt8} (h : So u) (z : List UInt8) : Soft (u ++ z) := by
 obtain ⟨c, u', rfl, hc⟩ := h
 intro d z' e
 cases e; exact hc
theorem So.app {u : List UInt8} (h : So u) (v : List UInt8) : So (u ++ v) := by
 obtain ⟨c, u', rfl, hc⟩ := h
 exact ⟨c, u' ++ v, rfl, hc⟩
theorem Lx.c {a r : List UInt8} (ha : Lc a) (hr : Lx r) : Lx (a ++ r) := fun z m hz he => by
 rw [List.append_assoc, List.length_append, Nat.add_assoc]; exact ha _ _ (hr z m hz he)
theorem Lx.x {a r : List UInt8} (ha : Lx a) (hs : So r) (hr : Lx r) : Lx (a ++ r) := fun z m hz he => by
 rw [List.append_assoc, List.length_append, Nat.add_assoc]; exact ha _ _ (hs.soft z) (hr z m hz he)
theorem Lc.c {a r : List UInt8} (ha : Lc a) (hr : Lc r) : Lc (a ++ r) := fun z m he => by
 rw [List.append_assoc, List.length_append, Nat.add_assoc]; exact ha _ _ (hr z m he)
theorem Lc.x {a r : List UInt8} (ha : Lx a) (hs : So r) (hr : Lc r) : Lc (a ++ r) := fun z m he => by
 rw [List.append_assoc, List.length_append, Nat.add_assoc]; exact ha _ _ (hs.soft z) (hr z m he)
theorem Lc.nil : Lc [] := fun z m he => by rw [List.nil_append, List.length_nil, Nat.zero_add]; exact he
/-- the test of a text that is written out -/
def eatB : Nat → List UInt8 → Bool
 | _, [] => true
 | 0, _ :: _ => false
 | k + 1, b :: w => bif sepI b.toNat then eatB k w else (decide ((lexL b w).1.2 = 0) && eatB k ((b :: w).drop (lexL b w).2))
theorem eatB_lx : ∀ (k : Nat) (u : List UInt8), eatB k u = true → Lx u
 | _, [], _ => Lc.nil.lx
 | 0, b :: w, h => by cases h
 | k + 1, b :: w, h => by
  rw [eatB] at h
  intro z m hz he
  cases hs : sepI b.toNat with
  | true =>
   rw [hs, cond_true] at h
   have := eatB_lx k w h z m hz he
   rw [List.cons_append, List.length_cons, show w.length + 1 + m = w.length + m + 1 by omega]
   exact .sep hs this
  | false =>
   rw [hs, cond_false, Bool.and_eq_true] at h
   obtain ⟨⟨⟨t, e⟩, n⟩, hr⟩ : ∃ r, lexL b w = r := ⟨_, rfl⟩
   rw [hr] at h
   simp only [decide_eq_true_eq] at h
   obtain ⟨rfl, h2⟩ := h
   obtain ⟨a1, a2, _⟩ := lexL_ok hr
   have ih := eatB_lx k _ h2 z m hz he
   have hx := lexL_ext hr z (.inr hz)
   have hlen : ((b :: w).drop n).length = w.length + 1 - n := by rw [List.length_drop, List.length_cons]
   have hd : (b :: (w ++ z)).drop n = (b :: w).drop n ++ z := by
    rw [← List.cons_append, List.drop_append_of_le_length (by rw [List.length_cons]; omega)]
   rw [List.cons_append, List.length_cons, show w.length + 1 + m = n + (w.length + 1 - n + m) by omega]
   refine .tok hx ?_
   rw [hd, ← hlen]; exact ih
/-- an opening sign, whatever stands behind it -/
theorem open_lc (b : UInt8) (hb : b = 40 ∨ b = 91 ∨ b = 123) : Lc [b] := fun z m he => by
 have : lexL b z = ((⟨6, [b], 0, 0⟩, 0), 1) := by rcases hb with rfl | rfl | rfl <;> rfl
 exact .tok this he
/-- the same, where the last byte is a separator or a sign of its own -/
def openI (b : UInt8) : Bool := decide (b = 40) || (decide (b = 91) || decide (b = 123))
def clB : Nat → List UInt8 → Bool
 | _, [] => true
 | 0, _ :: _ => false
 | k + 1, b :: w => bif sepI b.toNat then clB k w else (decide ((lexL b w).1.2 = 0) && ((decide ((lexL b w).2 ≤ w.length) || (openI b && decide (w = []))) && clB k ((b :: w).drop (lexL b w).2)))
theorem clB_lc : ∀ (k : Nat) (u : List UInt8), clB k u = true → Lc u
 | _, [], _ => Lc.nil
 | 0, b :: w, h => by cases h
 | k + 1, b :: w, h => by
  rw [clB] at h
  intro z m he
  cases hs : sepI b.toNat with
  | true =>
   rw [hs, cond_true] at h
   have := clB_lc k w h z m he
   rw [List.cons_append, List.length_cons, show w.length + 1 + m = w.length + m + 1 by omega]
   exact .sep hs this
  | false =>
   rw [hs, cond_false, Bool.and_eq_true, Bool.and_eq_true] at h
   obtain ⟨⟨⟨t, e⟩, n⟩, hr⟩ : ∃ r, lexL b w = r := ⟨_, rfl⟩
   rw [hr] at h
   simp only [decide_eq_true_eq] at h
   obtain ⟨rfl, h3, h2⟩ := h
   rw [Bool.or_eq_true, Bool.and_eq_true] at h3
   simp only [decide_eq_true_eq] at h3
   by_cases h4 : n ≤ w.length
   case neg =>
    obtain ⟨h5, h6⟩ := h3.resolve_left h4
    subst h6
    unfold openI at h5
    simp only [Bool.or_eq_true, decide_eq_true_eq] at h5
    exact open_lc b h5 z m he
   have h3 := h4
   have ih := clB_lc k _ h2 z m he
   have hx := lexL_ext hr z (.inl h3)
   have hlen : ((b :: w).drop n).length = w.length + 1 - n := by rw [List.length_drop, List.length_cons]
   have hd : (b :: (w ++ z)).drop n = (b :: w).drop n ++ z := by
    rw [← List.cons_append, List.drop_append_of_le_length (by rw [List.length_cons]; omega)]
   rw [List.cons_append, List.length_cons, show w.length + 1 + m = n + (w.length + 1 - n + m) by omega]
   refine .tok hx ?_
   rw [hd, ← hlen]; exact ih
theorem dec_dig : ∀ (n u : Nat), u < n → ∀ x ∈ Lib.decDigits u, digI x.toNat = true
 | 0, u, h => by omega
 | n + 1, u, h => by
  intro x hx
  have one : ∀ v, v < 10 → digI (UInt8.ofNat (48 + v)).toNat = true := by decide
  by_cases h1 : u < 10
  ·rw [Lib.decDigits, dif_pos h1] at hx
   rw [List.mem_singleton.1 hx]; exact one u h1
  ·rw [dig_step h1] at hx
   rcases List.mem_append.1 hx with hx | hx
   ·exact dec_dig n (u / 10) (by omega) x hx
   ·rw [List.mem_singleton.1 hx]; exact one (u % 10) (by omega)
theorem var_lx (d : List UInt8) (hd : ∀ x ∈ d, varI x.toNat = true) (hl : d.length ≤ 15) : Lx (86 :: d) := fun z m hz he => by
 have hc := cntW_app (p := varI) (u := d) (z := z) hd (fun c z' e => (soft_cls (hz c z' e)).2.1)
 have hx : lexL 86 (d ++ z) = ((⟨2, 86 :: d, 0, 0⟩, 0), 1 + d.length) := by
  unfold lexL
  rw [show lowI ((86 : UInt8).toNat : Int) = false by decide, show uppI ((86 : UInt8).toNat : Int) = true by decide, cond_false, cond_true, hc, take_app]
  unfold wordV
  rw [decide_eq_false (show ¬ (16 : Int) < ((86 :: d : List UInt8).length : Int) by rw [List.length_cons]; omega)]; rfl
 rw [List.cons_append, List.length_cons, Nat.add_comm d.length 1]
 refine .tok hx ?_
 rw [Nat.add_comm, List.drop_succ_cons, List.drop_left]; exact he
theorem fresh_facts (g : Gn) (h0 : 0 ≤ g.k) (h1 : g.k ≤ 950) : Lx (freshV g) ∧ (freshV g).length ≤ 4 ∧ (incK g).k = g.k + 1 := by
 have hw : IntKind.i64.wrap (g.k + 1) = g.k + 1 := wrapI _ (by omega) (by omega)
 have hi : Lib.itoa (g.k + 1) = Lib.decDigits (g.k + 1).toNat := itoa_pos (by omega)
 have hl := digits_le 2 (g.k + 1).toNat (by omega)
 have e : freshV g = 86 :: Lib.decDigits (g.k + 1).toNat := by unfold freshV; rw [hw, hi]; rfl
 rw [e]
 refine ⟨var_lx _ (fun x hx => ?_) (by omega), by rw [List.length_cons]; omega, by show IntKind.i64.wrap (g.k + 1) = _; exact hw⟩
 have := dec_dig _ _ (Nat.lt_succ_self _) x hx
 unfold varI; rw [this]; simp
theorem small_mem {v : Int} (h : 0 ≤ v ∧ v < 7) : Lib.itoa (v - 2) ∈ [[45, 50], [45, 49], [48], [49], [50], [51], [52]] := by
 have hp : ∀ n : Nat, n < 10 → Lib.itoa (n : Int) = [UInt8.ofNat (48 + n)] := fun n hn => by
  rw [itoa_pos (by omega), Int.toNat_natCast, Lib.decDigits, dif_pos hn]
 have hn : ∀ n : Nat, 0 < n → n < 10 → Lib.itoa (-(n : Int)) = [45, UInt8.ofNat (48 + n)] := fun n h1 h2 => by
  rw [itoa_neg (by omega), show (-(n : Int)).natAbs = n by omega, Lib.decDigits, dif_pos h2]
 obtain ⟨n, rfl⟩ : ∃ n : Nat, v = (n : Int) := ⟨v.toNat, by omega⟩
 have hn7 : n < 7 := by omega
 match n, hn7 with
 | 0, _ => rw [show ((0 : Nat) : Int) - 2 = -((2 : Nat) : Int) by decide, hn 2 (by omega) (by omega)]; decide
 | 1, _ => rw [show ((1 : Nat) : Int) - 2 = -((1 : Nat) : Int) by decide, hn 1 (by omega) (by omega)]; decide
 | k + 2, hk =>
  rw [show ((k + 2 : Nat) : Int) - 2 = ((k : Nat) : Int) by omega, hp k (by omega)]
  have : ∀ k, k < 5 → [UInt8.ofNat (48 + k)] ∈ ([[45, 50], [45, 49], [48], [49], [50], [51], [52]] : List (List UInt8)) := by decide
  exact this k (by omega)
theorem small_facts (g : Gn) : Lx (smallV g) ∧ (smallV g).length ≤ 2 := by
 have h := small_mem (drawV_in g.s (n := 7) (by omega))
 have h1 : ∀ x ∈ ([[45, 50], [45, 49], [48], [49], [50], [51], [52]] : List (List UInt8)), eatB 5 x = true ∧ x.length ≤ 2 := by decide +kernel
 exact ⟨eatB_lx 5 _ (h1 _ h).1, (h1 _ h).2⟩
theorem lit_facts (L : List (List UInt8)) (k N : Nat) (h : ∀ x ∈ L, eatB k x = true ∧ x.length ≤ N) {v : Int} (hv : 0 ≤ v ∧ v < L.length) : Lx (L.getD v.toNat []) ∧ (L.getD v.toNat []).length ≤ N := by
 rw [List.getD_eq_getElem?_getD, List.getElem?_eq_getElem (show v.toNat < L.length by omega)]
 have := h _ (List.getElem_mem (l := L) (show v.toNat < L.length by omega))
 exact ⟨eatB_lx k _ this.1, this.2⟩
theorem atom_facts (s : Src) : Lx (atomV s) ∧ (atomV s).length ≤ 5 := lit_facts atomL 10 5 (by decide +kernel) (drawV_in s (n := 4) (by omega))
theorem nxt_f (g : Gn) (n : Int) : (nxt g n).k = g.k ∧ g.s.pos ≤ (nxt g n).s.pos ∧ (nxt g n).s.pos ≤ g.s.pos + 1 ∧ (nxt g n).s.l.length = g.s.l.length ∧ (g.s.pos ≤ g.s.l.length → (nxt g n).s.pos ≤ g.s.l.length) := by
 refine ⟨rfl, ?_⟩
 show g.s.pos ≤ (nextS g.s n).pos ∧ (nextS g.s n).pos ≤ g.s.pos + 1 ∧ (nextS g.s n).l.length = g.s.l.length ∧ (g.s.pos ≤ g.s.l.length → (nextS g.s n).pos ≤ g.s.l.length)
 unfold nextS
 cases he : emptyS g.s n with
 | true => simp only [cond_true]; exact ⟨Nat.le_refl _, Nat.le_succ _, trivial, fun h => h⟩
 | false =>
  unfold emptyS at he
  simp only [Bool.or_eq_false_iff, decide_eq_false_iff_not] at he
  simp only [cond_false]
  exact ⟨Nat.le_succ _, Nat.le_refl _, trivial, fun h => by omega⟩
theorem nxt_one {g : Gn} {n : Int} (h : drawV g.s n ≠ 0) : (nxt g n).s.pos = g.s.pos + 1 := by
 show (nextS g.s n).pos = _
 unfold drawV at h
 unfold nextS
 cases he : emptyS g.s n with
 | true => rw [he] at h; exact absurd rfl h
 | false => rfl
/-- a text, and how far the numbers got -/
structure Nice (F c0 : Nat) (g : Gn) (r : List UInt8 × Gn) : Prop where
 lx : Lx r.1
 len : r.1.length + 60 * g.s.pos ≤ c0 + 60 * r.2.s.pos
 k0 : g.k ≤ r.2.k
 k1 : r.2.k ≤ g.k + F
 n : r.2.s.l.length = g.s.l.length
 p : g.s.pos ≤ r.2.s.pos
 q : g.s.pos ≤ g.s.l.length → r.2.s.pos ≤ g.s.l.length
def EnvN (env : List NamD) : Prop := ∀ x ∈ env, Lx x.text ∧ x.text.length ≤ 4
def NiceE (F : Nat) (E : Mk) : Prop := ∀ sort env g, 0 ≤ g.k → g.k + (F : Int) ≤ 900 → EnvN env → Nice F 29 g (E sort env g)
theorem EnvN.snoc {env : List NamD} (h : EnvN env) (x : NamD) (h1 : Lx x.text) (h2 : x.text.length ≤ 4) : EnvN (env ++ [x]) := fun y hy => by
 rcases List.mem_append.1 hy with hy | hy
 ·exact h y hy
 ·rw [List.mem_singleton.1 hy]; exact ⟨h1, h2⟩
theorem Nice.mono {F F' c c' : Nat} {g : Gn} {r : List UInt8 × Gn} (h : Nice F c g r) (hF : F ≤ F') (hc : c ≤ c') : Nice F' c' g r :=
 ⟨h.lx, by have := h.len; omega, h.k0, by have := h.k1; omega, h.n, h.p, h.q⟩
theorem nice_pre {F c : Nat} {g : Gn} {n : Int} {r : List UInt8 × Gn} (h : Nice F c (nxt g n) r) : Nice F c g r := by
 obtain ⟨a1, a2, a3, a4, a5⟩ := nxt_f g n
 exact ⟨h.lx, by have := h.len; omega, by have := h.k0; omega, by have := h.k1; omega, by rw [h.n, a4], by have := h.p; omega, fun hq => by have := h.q; omega⟩
theorem nice_one {F c : Nat} {g : Gn} {n : Int} {r : List UInt8 × Gn} (hd : drawV g.s n ≠ 0) (h : Nice F (c + 60) (nxt g n) r) : Nice F c g r := by
 obtain ⟨a1, a2, a3, a4, a5⟩ := nxt_f g n
 have := nxt_one hd
 exact ⟨h.lx, by have := h.len; omega, by have := h.k0; omega, by have := h.k1; omega, by rw [h.n, a4], by have := h.p; omega, fun hq => by have := h.q; omega⟩
theorem bif_nice {F c : Nat} {g : Gn} (b : Bool) {x y : List UInt8 × Gn} (hx : b = true → Nice F c g x) (hy : b = false → Nice F c g y) : Nice F c g (bif b then x else y) := by
 cases b
 ·exact hy rfl
 ·exact hx rfl
theorem addV_nice {F : Nat} {E : Mk} (hE : NiceE F E) (g : Gn) (h0 : 0 ≤ g.k) (h1 : g.k + (3 * (F : Int) + 1) ≤ 900) (env : List NamD) (he : EnvN env) : Nice (3 * F + 1) 89 g (addV E env g) := by
 obtain ⟨n0a, n0b, n0c, n0d, n0e⟩ := nxt_f g 4
 have e0 := hE 0 env (nxt g 4) (by omega) (by omega) he
 obtain ⟨x0, e0a, e0b, e0c, e0d, e0e, e0f⟩ := e0
 obtain ⟨q1, q2⟩ := lit_facts opL 10 3 (by decide +kernel) (drawV_in (E 0 env (nxt g 4)).2.s (n := 5) (by omega))
 obtain ⟨n1a, n1b, n1c, n1d, n1e⟩ := nxt_f (E 0 env (nxt g 4)).2 5
 have e1 := hE 0 env (nxt (E 0 env (nxt g 4)).2 5) (by omega) (by omega) he
 obtain ⟨x1, e1a, e1b, e1c, e1d, e1e, e1f⟩ := e1
 refine ⟨?_, ?_, ?_, ?_, ?_, ?_, ?_⟩
 ·simp only [addV, List.append_assoc]
  exact (Lx.c (clB_lc 80 _ (by decide +kernel)) (Lx.x x0 (So.app ⟨_, _, rfl, by decide⟩ _) (Lx.c (clB_lc 80 _ (by decide +kernel)) (Lx.x q1 (So.app ⟨_, _, rfl, by decide⟩ _) (Lx.c (clB_lc 80 _ (by decide +kernel)) (Lx.x x1 ⟨_, _, rfl, by decide⟩ (eatB_lx 80 _ (by decide +kernel))))))))
 ·simp only [addV, List.length_append, List.length_cons, List.length_nil]; omega
 ·show g.k ≤ (E 0 env (nxt (E 0 env (nxt g 4)).2 5)).2.k; omega
 ·show (E 0 env (nxt (E 0 env (nxt g 4)).2 5)).2.k ≤ _; omega
 ·show (E 0 env (nxt (E 0 env (nxt g 4)).2 5)).2.s.l.length = _; omega
 ·show _ ≤ (E 0 env (nxt (E 0 env (nxt g 4)).2 5)).2.s.pos; omega
 ·show _ → (E 0 env (nxt (E 0 env (nxt g 4)).2 5)).2.s.pos ≤ _; omega
theorem getV_nice {F : Nat} {E : Mk} (hE : NiceE F E) (g : Gn) (h0 : 0 ≤ g.k) (h1 : g.k + (3 * (F : Int) + 1) ≤ 900) (env : List NamD) (he : EnvN env) : Nice (3 * F + 1) 89 g (getV E env g) := by
 obtain ⟨n0a, n0b, n0c, n0d, n0e⟩ := nxt_f g 4
 have e0 := hE 6 env (nxt g 4) (by omega) (by omega) he
 obtain ⟨x0, e0a, e0b, e0c, e0d, e0e, e0f⟩ := e0
 refine ⟨?_, ?_, ?_, ?_, ?_, ?_, ?_⟩
 ·simp only [getV, List.append_assoc]
  exact (Lx.c (clB_lc 80 _ (by decide +kernel)) (Lx.x x0 ⟨_, _, rfl, by decide⟩ (eatB_lx 80 _ (by decide +kernel))))
 ·simp only [getV, List.length_append, List.length_cons, List.length_nil]; omega
 ·show g.k ≤ (E 6 env (nxt g 4)).2.k; omega
 ·show (E 6 env (nxt g 4)).2.k ≤ _; omega
 ·show (E 6 env (nxt g 4)).2.s.l.length = _; omega
 ·show _ ≤ (E 6 env (nxt g 4)).2.s.pos; omega
 ·show _ → (E 6 env (nxt g 4)).2.s.pos ≤ _; omega
theorem applyV_nice {F : Nat} {E : Mk} (hE : NiceE F E) (g : Gn) (h0 : 0 ≤ g.k) (h1 : g.k + (3 * (F : Int) + 1) ≤ 900) (env : List NamD) (he : EnvN env) : Nice (3 * F + 1) 89 g (applyV E env g) := by
 obtain ⟨n0a, n0b, n0c, n0d, n0e⟩ := nxt_f g 4
 have e0 := hE 5 env (nxt g 4) (by omega) (by omega) he
 obtain ⟨x0, e0a, e0b, e0c, e0d, e0e, e0f⟩ := e0
 have e1 := hE 0 env (E 5 env (nxt g 4)).2 (by omega) (by omega) he
 obtain ⟨x1, e1a, e1b, e1c, e1d, e1e, e1f⟩ := e1
 refine ⟨?_, ?_, ?_, ?_, ?_, ?_, ?_⟩
 ·simp only [applyV, List.append_assoc]
  exact (Lx.c (clB_lc 80 _ (by decide +kernel)) (Lx.x x0 (So.app ⟨_, _, rfl, by decide⟩ _) (Lx.c (clB_lc 80 _ (by decide +kernel)) (Lx.x x1 ⟨_, _, rfl, by decide⟩ (eatB_lx 80 _ (by decide +kernel))))))
 ·simp only [applyV, List.length_append, List.length_cons, List.length_nil]; omega
 ·show g.k ≤ (E 0 env (E 5 env (nxt g 4)).2).2.k; omega
 ·show (E 0 env (E 5 env (nxt g 4)).2).2.k ≤ _; omega
 ·show (E 0 env (E 5 env (nxt g 4)).2).2.s.l.length = _; omega
 ·show _ ≤ (E 0 env (E 5 env (nxt g 4)).2).2.s.pos; omega
 ·show _ → (E 0 env (E 5 env (nxt g 4)).2).2.s.pos ≤ _; omega
theorem assertV_nice {F : Nat} {E : Mk} (hE : NiceE F E) (g : Gn) (h0 : 0 ≤ g.k) (h1 : g.k + (3 * (F : Int) + 1) ≤ 900) (env : List NamD) (he : EnvN env) : Nice (3 * F + 1) 89 g (assertV E env g) := by
 obtain ⟨n0a, n0b, n0c, n0d, n0e⟩ := nxt_f g 4
 have e0 := hE 0 env (nxt g 4) (by omega) (by omega) he
 obtain ⟨x0, e0a, e0b, e0c, e0d, e0e, e0f⟩ := e0
 refine ⟨?_, ?_, ?_, ?_, ?_, ?_, ?_⟩
 ·simp only [assertV, List.append_assoc]
  exact (Lx.c (clB_lc 80 _ (by decide +kernel)) (Lx.x x0 ⟨_, _, rfl, by decide⟩ (eatB_lx 80 _ (by decide +kernel))))
 ·simp only [assertV, List.length_append, List.length_cons, List.length_nil]; omega
 ·show g.k ≤ (E 0 env (nxt g 4)).2.k; omega
 ·show (E 0 env (nxt g 4)).2.k ≤ _; omega
 ·show (E 0 env (nxt g 4)).2.s.l.length = _; omega
 ·show _ ≤ (E 0 env (nxt g 4)).2.s.pos; omega
 ·show _ → (E 0 env (nxt g 4)).2.s.pos ≤ _; omega
theorem lessV_nice {F : Nat} {E : Mk} (hE : NiceE F E) (g : Gn) (h0 : 0 ≤ g.k) (h1 : g.k + (3 * (F : Int) + 1) ≤ 900) (env : List NamD) (he : EnvN env) : Nice (3 * F + 1) 89 g (lessV E env g) := by
 obtain ⟨n0a, n0b, n0c, n0d, n0e⟩ := nxt_f g 3
 have e0 := hE 0 env (nxt g 3) (by omega) (by omega) he
 obtain ⟨x0, e0a, e0b, e0c, e0d, e0e, e0f⟩ := e0
 have e1 := hE 0 env (E 0 env (nxt g 3)).2 (by omega) (by omega) he
 obtain ⟨x1, e1a, e1b, e1c, e1d, e1e, e1f⟩ := e1
 refine ⟨?_, ?_, ?_, ?_, ?_, ?_, ?_⟩
 ·simp only [lessV, List.append_assoc]
  exact (Lx.c (clB_lc 80 _ (by decide +kernel)) (Lx.x x0 (So.app ⟨_, _, rfl, by decide⟩ _) (Lx.c (clB_lc 80 _ (by decide +kernel)) (Lx.x x1 ⟨_, _, rfl, by decide⟩ (eatB_lx 80 _ (by decide +kernel))))))
 ·simp only [lessV, List.length_append, List.length_cons, List.length_nil]; omega
 ·show g.k ≤ (E 0 env (E 0 env (nxt g 3)).2).2.k; omega
 ·show (E 0 env (E 0 env (nxt g 3)).2).2.k ≤ _; omega
 ·show (E 0 env (E 0 env (nxt g 3)).2).2.s.l.length = _; omega
 ·show _ ≤ (E 0 env (E 0 env (nxt g 3)).2).2.s.pos; omega
 ·show _ → (E 0 env (E 0 env (nxt g 3)).2).2.s.pos ≤ _; omega
theorem eqlV_nice {F : Nat} {E : Mk} (hE : NiceE F E) (g : Gn) (h0 : 0 ≤ g.k) (h1 : g.k + (3 * (F : Int) + 1) ≤ 900) (env : List NamD) (he : EnvN env) : Nice (3 * F + 1) 89 g (eqlV E env g) := by
 obtain ⟨n0a, n0b, n0c, n0d, n0e⟩ := nxt_f g 3
 have e0 := hE 7 env (nxt g 3) (by omega) (by omega) he
 obtain ⟨x0, e0a, e0b, e0c, e0d, e0e, e0f⟩ := e0
 have e1 := hE 7 env (E 7 env (nxt g 3)).2 (by omega) (by omega) he
 obtain ⟨x1, e1a, e1b, e1c, e1d, e1e, e1f⟩ := e1
 refine ⟨?_, ?_, ?_, ?_, ?_, ?_, ?_⟩
 ·simp only [eqlV, List.append_assoc]
  exact (Lx.c (clB_lc 80 _ (by decide +kernel)) (Lx.x x0 (So.app ⟨_, _, rfl, by decide⟩ _) (Lx.c (clB_lc 80 _ (by decide +kernel)) (Lx.x x1 ⟨_, _, rfl, by decide⟩ (eatB_lx 80 _ (by decide +kernel))))))
 ·simp only [eqlV, List.length_append, List.length_cons, List.length_nil]; omega
 ·show g.k ≤ (E 7 env (E 7 env (nxt g 3)).2).2.k; omega
 ·show (E 7 env (E 7 env (nxt g 3)).2).2.k ≤ _; omega
 ·show (E 7 env (E 7 env (nxt g 3)).2).2.s.l.length = _; omega
 ·show _ ≤ (E 7 env (E 7 env (nxt g 3)).2).2.s.pos; omega
 ·show _ → (E 7 env (E 7 env (nxt g 3)).2).2.s.pos ≤ _; omega
theorem notV_nice {F : Nat} {E : Mk} (hE : NiceE F E) (g : Gn) (h0 : 0 ≤ g.k) (h1 : g.k + (3 * (F : Int) + 1) ≤ 900) (env : List NamD) (he : EnvN env) : Nice (3 * F + 1) 89 g (notV E env g) := by
 obtain ⟨n0a, n0b, n0c, n0d, n0e⟩ := nxt_f g 3
 have e0 := hE 1 env (nxt g 3) (by omega) (by omega) he
 obtain ⟨x0, e0a, e0b, e0c, e0d, e0e, e0f⟩ := e0
 refine ⟨?_, ?_, ?_, ?_, ?_, ?_, ?_⟩
 ·simp only [notV, List.append_assoc]
  exact (Lx.c (clB_lc 80 _ (by decide +kernel)) (Lx.x x0 ⟨_, _, rfl, by decide⟩ (eatB_lx 80 _ (by decide +kernel))))
 ·simp only [notV, List.length_append, List.length_cons, List.length_nil]; omega
 ·show g.k ≤ (E 1 env (nxt g 3)).2.k; omega
 ·show (E 1 env (nxt g 3)).2.k ≤ _; omega
 ·show (E 1 env (nxt g 3)).2.s.l.length = _; omega
 ·show _ ≤ (E 1 env (nxt g 3)).2.s.pos; omega
 ·show _ → (E 1 env (nxt g 3)).2.s.pos ≤ _; omega
theorem consV_nice {F : Nat} {E : Mk} (hE : NiceE F E) (g : Gn) (h0 : 0 ≤ g.k) (h1 : g.k + (3 * (F : Int) + 1) ≤ 900) (env : List NamD) (he : EnvN env) : Nice (3 * F + 1) 89 g (consV E env g) := by
 have e0 := hE 0 env g (by omega) (by omega) he
 obtain ⟨x0, e0a, e0b, e0c, e0d, e0e, e0f⟩ := e0
 have e1 := hE 3 env (E 0 env g).2 (by omega) (by omega) he
 obtain ⟨x1, e1a, e1b, e1c, e1d, e1e, e1f⟩ := e1
 refine ⟨?_, ?_, ?_, ?_, ?_, ?_, ?_⟩
 ·simp only [consV, List.append_assoc]
  exact (Lx.c (clB_lc 80 _ (by decide +kernel)) (Lx.x x0 (So.app ⟨_, _, rfl, by decide⟩ _) (Lx.c (clB_lc 80 _ (by decide +kernel)) (Lx.x x1 ⟨_, _, rfl, by decide⟩ (eatB_lx 80 _ (by decide +kernel))))))
 ·simp only [consV, List.length_append, List.length_cons, List.length_nil]; omega
 ·show g.k ≤ (E 3 env (E 0 env g).2).2.k; omega
 ·show (E 3 env (E 0 env g).2).2.k ≤ _; omega
 ·show (E 3 env (E 0 env g).2).2.s.l.length = _; omega
 ·show _ ≤ (E 3 env (E 0 env g).2).2.s.pos; omega
 ·show _ → (E 3 env (E 0 env g).2).2.s.pos ≤ _; omega
theorem pairV_nice {F : Nat} {E : Mk} (hE : NiceE F E) (g : Gn) (h0 : 0 ≤ g.k) (h1 : g.k + (3 * (F : Int) + 1) ≤ 900) (env : List NamD) (he : EnvN env) : Nice (3 * F + 1) 89 g (pairV E env g) := by
 have e0 := hE 2 env g (by omega) (by omega) he
 obtain ⟨x0, e0a, e0b, e0c, e0d, e0e, e0f⟩ := e0
 have e1 := hE 0 env (E 2 env g).2 (by omega) (by omega) he
 obtain ⟨x1, e1a, e1b, e1c, e1d, e1e, e1f⟩ := e1
 refine ⟨?_, ?_, ?_, ?_, ?_, ?_, ?_⟩
 ·simp only [pairV, List.append_assoc]
  exact (Lx.c (clB_lc 80 _ (by decide +kernel)) (Lx.x x0 (So.app ⟨_, _, rfl, by decide⟩ _) (Lx.c (clB_lc 80 _ (by decide +kernel)) (Lx.x x1 ⟨_, _, rfl, by decide⟩ (eatB_lx 80 _ (by decide +kernel))))))
 ·simp only [pairV, List.length_append, List.length_cons, List.length_nil]; omega
 ·show g.k ≤ (E 0 env (E 2 env g).2).2.k; omega
 ·show (E 0 env (E 2 env g).2).2.k ≤ _; omega
 ·show (E 0 env (E 2 env g).2).2.s.l.length = _; omega
 ·show _ ≤ (E 0 env (E 2 env g).2).2.s.pos; omega
 ·show _ → (E 0 env (E 2 env g).2).2.s.pos ≤ _; omega
theorem putV_nice {F : Nat} {E : Mk} (hE : NiceE F E) (g : Gn) (h0 : 0 ≤ g.k) (h1 : g.k + (3 * (F : Int) + 1) ≤ 900) (env : List NamD) (he : EnvN env) : Nice (3 * F + 1) 89 g (putV E env g) := by
 have e0 := hE 6 env g (by omega) (by omega) he
 obtain ⟨x0, e0a, e0b, e0c, e0d, e0e, e0f⟩ := e0
 obtain ⟨q1, q2⟩ := lit_facts putL 10 3 (by decide +kernel) (drawV_in (E 6 env g).2.s (n := 3) (by omega))
 obtain ⟨n0a, n0b, n0c, n0d, n0e⟩ := nxt_f (E 6 env g).2 3
 have e1 := hE 0 env (nxt (E 6 env g).2 3) (by omega) (by omega) he
 obtain ⟨x1, e1a, e1b, e1c, e1d, e1e, e1f⟩ := e1
 refine ⟨?_, ?_, ?_, ?_, ?_, ?_, ?_⟩
 ·simp only [putV, List.append_assoc]
  exact (Lx.c (clB_lc 80 _ (by decide +kernel)) (Lx.x x0 (So.app ⟨_, _, rfl, by decide⟩ _) (Lx.c (clB_lc 80 _ (by decide +kernel)) (Lx.x q1 (So.app ⟨_, _, rfl, by decide⟩ _) (Lx.c (clB_lc 80 _ (by decide +kernel)) (Lx.x x1 ⟨_, _, rfl, by decide⟩ (eatB_lx 80 _ (by decide +kernel))))))))
 ·simp only [putV, List.length_append, List.length_cons, List.length_nil]; omega
 ·show g.k ≤ (E 0 env (nxt (E 6 env g).2 3)).2.k; omega
 ·show (E 0 env (nxt (E 6 env g).2 3)).2.k ≤ _; omega
 ·show (E 0 env (nxt (E 6 env g).2 3)).2.s.l.length = _; omega
 ·show _ ≤ (E 0 env (nxt (E 6 env g).2 3)).2.s.pos; omega
 ·show _ → (E 0 env (nxt (E 6 env g).2 3)).2.s.pos ≤ _; omega
theorem thingV_nice {F : Nat} {E : Mk} (hE : NiceE F E) (g : Gn) (h0 : 0 ≤ g.k) (h1 : g.k + (3 * (F : Int) + 1) ≤ 900) (env : List NamD) (he : EnvN env) : Nice (3 * F + 1) 89 g (thingV E env g) := by
 have e0 := hE 7 env g (by omega) (by omega) he
 obtain ⟨x0, e0a, e0b, e0c, e0d, e0e, e0f⟩ := e0
 have e1 := hE 7 env (E 7 env g).2 (by omega) (by omega) he
 obtain ⟨x1, e1a, e1b, e1c, e1d, e1e, e1f⟩ := e1
 refine ⟨?_, ?_, ?_, ?_, ?_, ?_, ?_⟩
 ·simp only [thingV, List.append_assoc]
  exact (Lx.c (clB_lc 80 _ (by decide +kernel)) (Lx.x x0 (So.app ⟨_, _, rfl, by decide⟩ _) (Lx.c (clB_lc 80 _ (by decide +kernel)) (Lx.x x1 ⟨_, _, rfl, by decide⟩ (eatB_lx 80 _ (by decide +kernel))))))
 ·simp only [thingV, List.length_append, List.length_cons, List.length_nil]; omega
 ·show g.k ≤ (E 7 env (E 7 env g).2).2.k; omega
 ·show (E 7 env (E 7 env g).2).2.k ≤ _; omega
 ·show (E 7 env (E 7 env g).2).2.s.l.length = _; omega
 ·show _ ≤ (E 7 env (E 7 env g).2).2.s.pos; omega
 ·show _ → (E 7 env (E 7 env g).2).2.s.pos ≤ _; omega
theorem tryV_nice {F : Nat} {E : Mk} (hE : NiceE F E) (g : Gn) (h0 : 0 ≤ g.k) (h1 : g.k + (3 * (F : Int) + 1) ≤ 900) (sort : Int) (env : List NamD) (he : EnvN env) : Nice (3 * F + 1) 89 g (tryV E sort env g) := by
 obtain ⟨f1, f2, f3⟩ := fresh_facts g h0 (by omega)
 have hin : EnvN (inV env g) := he.snoc _ f1 f2
 have i1 : (incK g).s.pos = g.s.pos := rfl
 have i2 : (incK g).s.l.length = g.s.l.length := rfl
 obtain ⟨n0a, n0b, n0c, n0d, n0e⟩ := nxt_f (incK g) 5
 have e0 := hE sort env (nxt (incK g) 5) (by omega) (by omega) he
 obtain ⟨x0, e0a, e0b, e0c, e0d, e0e, e0f⟩ := e0
 have e1 := hE sort env (E sort env (nxt (incK g) 5)).2 (by omega) (by omega) he
 obtain ⟨x1, e1a, e1b, e1c, e1d, e1e, e1f⟩ := e1
 refine ⟨?_, ?_, ?_, ?_, ?_, ?_, ?_⟩
 ·simp only [tryV, List.append_assoc]
  exact (Lx.c (clB_lc 80 _ (by decide +kernel)) (Lx.x x0 (So.app ⟨_, _, rfl, by decide⟩ _) (Lx.c (clB_lc 80 _ (by decide +kernel)) (Lx.x x1 ⟨_, _, rfl, by decide⟩ (eatB_lx 80 _ (by decide +kernel))))))
 ·simp only [tryV, List.length_append, List.length_cons, List.length_nil]; omega
 ·show g.k ≤ (E sort env (E sort env (nxt (incK g) 5)).2).2.k; omega
 ·show (E sort env (E sort env (nxt (incK g) 5)).2).2.k ≤ _; omega
 ·show (E sort env (E sort env (nxt (incK g) 5)).2).2.s.l.length = _; omega
 ·show _ ≤ (E sort env (E sort env (nxt (incK g) 5)).2).2.s.pos; omega
 ·show _ → (E sort env (E sort env (nxt (incK g) 5)).2).2.s.pos ≤ _; omega
theorem case0V_nice {F : Nat} {E : Mk} (hE : NiceE F E) (g : Gn) (h0 : 0 ≤ g.k) (h1 : g.k + (3 * (F : Int) + 1) ≤ 900) (sort : Int) (env : List NamD) (he : EnvN env) (h2 : decide (drawV (incK g).s 5 = 0) = false) : Nice (3 * F + 1) 89 g (case0V E sort env g) := by
 obtain ⟨f1, f2, f3⟩ := fresh_facts g h0 (by omega)
 have hin : EnvN (inV env g) := he.snoc _ f1 f2
 have i1 : (incK g).s.pos = g.s.pos := rfl
 have i2 : (incK g).s.l.length = g.s.l.length := rfl
 obtain ⟨n0a, n0b, n0c, n0d, n0e⟩ := nxt_f (incK g) 5
 obtain ⟨n1a, n1b, n1c, n1d, n1e⟩ := nxt_f (nxt (incK g) 5) 4
 have o0 := nxt_one (g := (incK g)) (n := 5) (by simpa using h2)
 have e0 := hE 0 env (nxt (nxt (incK g) 5) 4) (by omega) (by omega) he
 obtain ⟨x0, e0a, e0b, e0c, e0d, e0e, e0f⟩ := e0
 obtain ⟨s1, s2⟩ := small_facts (E 0 env (nxt (nxt (incK g) 5) 4)).2
 obtain ⟨n2a, n2b, n2c, n2d, n2e⟩ := nxt_f (E 0 env (nxt (nxt (incK g) 5) 4)).2 7
 have e1 := hE sort env (nxt (E 0 env (nxt (nxt (incK g) 5) 4)).2 7) (by omega) (by omega) he
 obtain ⟨x1, e1a, e1b, e1c, e1d, e1e, e1f⟩ := e1
 have e2 := hE sort (inV env g) (E sort env (nxt (E 0 env (nxt (nxt (incK g) 5) 4)).2 7)).2 (by omega) (by omega) hin
 obtain ⟨x2, e2a, e2b, e2c, e2d, e2e, e2f⟩ := e2
 refine ⟨?_, ?_, ?_, ?_, ?_, ?_, ?_⟩
 ·simp only [case0V, List.append_assoc]
  exact (Lx.c (clB_lc 80 _ (by decide +kernel)) (Lx.x x0 (So.app ⟨_, _, rfl, by decide⟩ _) (Lx.c (clB_lc 80 _ (by decide +kernel)) (Lx.x s1 (So.app ⟨_, _, rfl, by decide⟩ _) (Lx.c (clB_lc 80 _ (by decide +kernel)) (Lx.x x1 (So.app ⟨_, _, rfl, by decide⟩ _) (Lx.c (clB_lc 80 _ (by decide +kernel)) (Lx.x f1 (So.app ⟨_, _, rfl, by decide⟩ _) (Lx.c (clB_lc 80 _ (by decide +kernel)) (Lx.x x2 ⟨_, _, rfl, by decide⟩ (eatB_lx 80 _ (by decide +kernel))))))))))))
 ·simp only [case0V, List.length_append, List.length_cons, List.length_nil]; omega
 ·show g.k ≤ (E sort (inV env g) (E sort env (nxt (E 0 env (nxt (nxt (incK g) 5) 4)).2 7)).2).2.k; omega
 ·show (E sort (inV env g) (E sort env (nxt (E 0 env (nxt (nxt (incK g) 5) 4)).2 7)).2).2.k ≤ _; omega
 ·show (E sort (inV env g) (E sort env (nxt (E 0 env (nxt (nxt (incK g) 5) 4)).2 7)).2).2.s.l.length = _; omega
 ·show _ ≤ (E sort (inV env g) (E sort env (nxt (E 0 env (nxt (nxt (incK g) 5) 4)).2 7)).2).2.s.pos; omega
 ·show _ → (E sort (inV env g) (E sort env (nxt (E 0 env (nxt (nxt (incK g) 5) 4)).2 7)).2).2.s.pos ≤ _; omega
theorem case1V_nice {F : Nat} {E : Mk} (hE : NiceE F E) (g : Gn) (h0 : 0 ≤ g.k) (h1 : g.k + (3 * (F : Int) + 1) ≤ 900) (sort : Int) (env : List NamD) (he : EnvN env) (h2 : decide (drawV (incK g).s 5 = 0) = false) (h3 : drawV (nxt (incK g) 5).s 4 = 1) : Nice (3 * F + 1) 89 g (case1V E sort env g) := by
 obtain ⟨f1, f2, f3⟩ := fresh_facts g h0 (by omega)
 have hin : EnvN (inV env g) := he.snoc _ f1 f2
 have i1 : (incK g).s.pos = g.s.pos := rfl
 have i2 : (incK g).s.l.length = g.s.l.length := rfl
 obtain ⟨n0a, n0b, n0c, n0d, n0e⟩ := nxt_f (incK g) 5
 obtain ⟨n1a, n1b, n1c, n1d, n1e⟩ := nxt_f (nxt (incK g) 5) 4
 have o0 := nxt_one (g := (incK g)) (n := 5) (by simpa using h2)
 have o1 := nxt_one (g := (nxt (incK g) 5)) (n := 4) (by rw [h3]; decide)
 have e0 := hE 3 env (nxt (nxt (incK g) 5) 4) (by omega) (by omega) he
 obtain ⟨x0, e0a, e0b, e0c, e0d, e0e, e0f⟩ := e0
 have e1 := hE sort env (E 3 env (nxt (nxt (incK g) 5) 4)).2 (by omega) (by omega) he
 obtain ⟨x1, e1a, e1b, e1c, e1d, e1e, e1f⟩ := e1
 have e2 := hE sort (inV env g) (E sort env (E 3 env (nxt (nxt (incK g) 5) 4)).2).2 (by omega) (by omega) hin
 obtain ⟨x2, e2a, e2b, e2c, e2d, e2e, e2f⟩ := e2
 refine ⟨?_, ?_, ?_, ?_, ?_, ?_, ?_⟩
 ·simp only [case1V, List.append_assoc]
  exact (Lx.c (clB_lc 80 _ (by decide +kernel)) (Lx.x x0 (So.app ⟨_, _, rfl, by decide⟩ _) (Lx.c (clB_lc 80 _ (by decide +kernel)) (Lx.x x1 (So.app ⟨_, _, rfl, by decide⟩ _) (Lx.c (clB_lc 80 _ (by decide +kernel)) (Lx.x f1 (So.app ⟨_, _, rfl, by decide⟩ _) (Lx.c (clB_lc 80 _ (by decide +kernel)) (Lx.x x2 ⟨_, _, rfl, by decide⟩ (eatB_lx 80 _ (by decide +kernel))))))))))
 ·simp only [case1V, List.length_append, List.length_cons, List.length_nil]; omega
 ·show g.k ≤ (E sort (inV env g) (E sort env (E 3 env (nxt (nxt (incK g) 5) 4)).2).2).2.k; omega
 ·show (E sort (inV env g) (E sort env (E 3 env (nxt (nxt (incK g) 5) 4)).2).2).2.k ≤ _; omega
 ·show (E sort (inV env g) (E sort env (E 3 env (nxt (nxt (incK g) 5) 4)).2).2).2.s.l.length = _; omega
 ·show _ ≤ (E sort (inV env g) (E sort env (E 3 env (nxt (nxt (incK g) 5) 4)).2).2).2.s.pos; omega
 ·show _ → (E sort (inV env g) (E sort env (E 3 env (nxt (nxt (incK g) 5) 4)).2).2).2.s.pos ≤ _; omega
theorem case2V_nice {F : Nat} {E : Mk} (hE : NiceE F E) (g : Gn) (h0 : 0 ≤ g.k) (h1 : g.k + (3 * (F : Int) + 1) ≤ 900) (sort : Int) (env : List NamD) (he : EnvN env) (h2 : decide (drawV (incK g).s 5 = 0) = false) (h3 : drawV (nxt (incK g) 5).s 4 = 2) : Nice (3 * F + 1) 89 g (case2V E sort env g) := by
 obtain ⟨f1, f2, f3⟩ := fresh_facts g h0 (by omega)
 have hin : EnvN (inV env g) := he.snoc _ f1 f2
 have i1 : (incK g).s.pos = g.s.pos := rfl
 have i2 : (incK g).s.l.length = g.s.l.length := rfl
 obtain ⟨n0a, n0b, n0c, n0d, n0e⟩ := nxt_f (incK g) 5
 obtain ⟨n1a, n1b, n1c, n1d, n1e⟩ := nxt_f (nxt (incK g) 5) 4
 have o0 := nxt_one (g := (incK g)) (n := 5) (by simpa using h2)
 have o1 := nxt_one (g := (nxt (incK g) 5)) (n := 4) (by rw [h3]; decide)
 have e0 := hE 4 env (nxt (nxt (incK g) 5) 4) (by omega) (by omega) he
 obtain ⟨x0, e0a, e0b, e0c, e0d, e0e, e0f⟩ := e0
 have e1 := hE sort (inV env g) (E 4 env (nxt (nxt (incK g) 5) 4)).2 (by omega) (by omega) hin
 obtain ⟨x1, e1a, e1b, e1c, e1d, e1e, e1f⟩ := e1
 have e2 := hE sort env (E sort (inV env g) (E 4 env (nxt (nxt (incK g) 5) 4)).2).2 (by omega) (by omega) he
 obtain ⟨x2, e2a, e2b, e2c, e2d, e2e, e2f⟩ := e2
 refine ⟨?_, ?_, ?_, ?_, ?_, ?_, ?_⟩
 ·simp only [case2V, List.append_assoc]
  exact (Lx.c (clB_lc 80 _ (by decide +kernel)) (Lx.x x0 (So.app ⟨_, _, rfl, by decide⟩ _) (Lx.c (clB_lc 80 _ (by decide +kernel)) (Lx.x f1 (So.app ⟨_, _, rfl, by decide⟩ _) (Lx.c (clB_lc 80 _ (by decide +kernel)) (Lx.x x1 (So.app ⟨_, _, rfl, by decide⟩ _) (Lx.c (clB_lc 80 _ (by decide +kernel)) (Lx.x x2 ⟨_, _, rfl, by decide⟩ (eatB_lx 80 _ (by decide +kernel))))))))))
 ·simp only [case2V, List.length_append, List.length_cons, List.length_nil]; omega
 ·show g.k ≤ (E sort env (E sort (inV env g) (E 4 env (nxt (nxt (incK g) 5) 4)).2).2).2.k; omega
 ·show (E sort env (E sort (inV env g) (E 4 env (nxt (nxt (incK g) 5) 4)).2).2).2.k ≤ _; omega
 ·show (E sort env (E sort (inV env g) (E 4 env (nxt (nxt (incK g) 5) 4)).2).2).2.s.l.length = _; omega
 ·show _ ≤ (E sort env (E sort (inV env g) (E 4 env (nxt (nxt (incK g) 5) 4)).2).2).2.s.pos; omega
 ·show _ → (E sort env (E sort (inV env g) (E 4 env (nxt (nxt (incK g) 5) 4)).2).2).2.s.pos ≤ _; omega
theorem case3V_nice {F : Nat} {E : Mk} (hE : NiceE F E) (g : Gn) (h0 : 0 ≤ g.k) (h1 : g.k + (3 * (F : Int) + 1) ≤ 900) (sort : Int) (env : List NamD) (he : EnvN env) (h2 : decide (drawV (incK g).s 5 = 0) = false) (h3 : drawV (nxt (incK g) 5).s 4 = 3) : Nice (3 * F + 1) 89 g (case3V E sort env g) := by
 obtain ⟨f1, f2, f3⟩ := fresh_facts g h0 (by omega)
 have hin : EnvN (inV env g) := he.snoc _ f1 f2
 have i1 : (incK g).s.pos = g.s.pos := rfl
 have i2 : (incK g).s.l.length = g.s.l.length := rfl
 obtain ⟨n0a, n0b, n0c, n0d, n0e⟩ := nxt_f (incK g) 5
 obtain ⟨n1a, n1b, n1c, n1d, n1e⟩ := nxt_f (nxt (incK g) 5) 4
 have o0 := nxt_one (g := (incK g)) (n := 5) (by simpa using h2)
 have o1 := nxt_one (g := (nxt (incK g) 5)) (n := 4) (by rw [h3]; decide)
 have e0 := hE 7 env (nxt (nxt (incK g) 5) 4) (by omega) (by omega) he
 obtain ⟨x0, e0a, e0b, e0c, e0d, e0e, e0f⟩ := e0
 have e1 := hE sort (inV env g) (E 7 env (nxt (nxt (incK g) 5) 4)).2 (by omega) (by omega) hin
 obtain ⟨x1, e1a, e1b, e1c, e1d, e1e, e1f⟩ := e1
 have e2 := hE sort env (E sort (inV env g) (E 7 env (nxt (nxt (incK g) 5) 4)).2).2 (by omega) (by omega) he
 obtain ⟨x2, e2a, e2b, e2c, e2d, e2e, e2f⟩ := e2
 refine ⟨?_, ?_, ?_, ?_, ?_, ?_, ?_⟩
 ·simp only [case3V, List.append_assoc]
  exact (Lx.c (clB_lc 80 _ (by decide +kernel)) (Lx.x x0 (So.app ⟨_, _, rfl, by decide⟩ _) (Lx.c (clB_lc 80 _ (by decide +kernel)) (Lx.x f1 (So.app ⟨_, _, rfl, by decide⟩ _) (Lx.c (clB_lc 80 _ (by decide +kernel)) (Lx.x f1 (So.app ⟨_, _, rfl, by decide⟩ _) (Lx.c (clB_lc 80 _ (by decide +kernel)) (Lx.x x1 (So.app ⟨_, _, rfl, by decide⟩ _) (Lx.c (clB_lc 80 _ (by decide +kernel)) (Lx.x x2 ⟨_, _, rfl, by decide⟩ (eatB_lx 80 _ (by decide +kernel))))))))))))
 ·simp only [case3V, List.length_append, List.length_cons, List.length_nil]; omega
 ·show g.k ≤ (E sort env (E sort (inV env g) (E 7 env (nxt (nxt (incK g) 5) 4)).2).2).2.k; omega
 ·show (E sort env (E sort (inV env g) (E 7 env (nxt (nxt (incK g) 5) 4)).2).2).2.k ≤ _; omega
 ·show (E sort env (E sort (inV env g) (E 7 env (nxt (nxt (incK g) 5) 4)).2).2).2.s.l.length = _; omega
 ·show _ ≤ (E sort env (E sort (inV env g) (E 7 env (nxt (nxt (incK g) 5) 4)).2).2).2.s.pos; omega
 ·show _ → (E sort env (E sort (inV env g) (E 7 env (nxt (nxt (incK g) 5) 4)).2).2).2.s.pos ≤ _; omega
theorem proc0V_nice {F : Nat} {E : Mk} (hE : NiceE F E) (g : Gn) (h0 : 0 ≤ g.k) (h1 : g.k + (3 * (F : Int) + 1) ≤ 900) (sort : Int) (env : List NamD) (he : EnvN env) : Nice (3 * F + 1) 89 g (proc0V E sort env g) := by
 obtain ⟨f1, f2, f3⟩ := fresh_facts g h0 (by omega)
 have hin : EnvN (inV env g) := he.snoc _ f1 f2
 have i1 : (incK g).s.pos = g.s.pos := rfl
 have i2 : (incK g).s.l.length = g.s.l.length := rfl
 obtain ⟨n0a, n0b, n0c, n0d, n0e⟩ := nxt_f (incK g) 3
 have e0 := hE sort env (nxt (incK g) 3) (by omega) (by omega) he
 obtain ⟨x0, e0a, e0b, e0c, e0d, e0e, e0f⟩ := e0
 have e1 := hE sort env (E sort env (nxt (incK g) 3)).2 (by omega) (by omega) he
 obtain ⟨x1, e1a, e1b, e1c, e1d, e1e, e1f⟩ := e1
 refine ⟨?_, ?_, ?_, ?_, ?_, ?_, ?_⟩
 ·simp only [proc0V, List.append_assoc]
  exact (Lx.c (clB_lc 80 _ (by decide +kernel)) (Lx.x x0 (So.app ⟨_, _, rfl, by decide⟩ _) (Lx.c (clB_lc 80 _ (by decide +kernel)) x1)))
 ·simp only [proc0V, List.length_append, List.length_cons, List.length_nil]; omega
 ·show g.k ≤ (E sort env (E sort env (nxt (incK g) 3)).2).2.k; omega
 ·show (E sort env (E sort env (nxt (incK g) 3)).2).2.k ≤ _; omega
 ·show (E sort env (E sort env (nxt (incK g) 3)).2).2.s.l.length = _; omega
 ·show _ ≤ (E sort env (E sort env (nxt (incK g) 3)).2).2.s.pos; omega
 ·show _ → (E sort env (E sort env (nxt (incK g) 3)).2).2.s.pos ≤ _; omega
theorem proc1V_nice {F : Nat} {E : Mk} (hE : NiceE F E) (g : Gn) (h0 : 0 ≤ g.k) (h1 : g.k + (3 * (F : Int) + 1) ≤ 900) (sort : Int) (env : List NamD) (he : EnvN env) (h2 : drawV (incK g).s 3 = 1) : Nice (3 * F + 1) 89 g (proc1V E sort env g) := by
 obtain ⟨f1, f2, f3⟩ := fresh_facts g h0 (by omega)
 have hin : EnvN (inV env g) := he.snoc _ f1 f2
 have i1 : (incK g).s.pos = g.s.pos := rfl
 have i2 : (incK g).s.l.length = g.s.l.length := rfl
 obtain ⟨n0a, n0b, n0c, n0d, n0e⟩ := nxt_f (incK g) 3
 have o0 := nxt_one (g := (incK g)) (n := 3) (by rw [h2]; decide)
 have e0 := hE sort env (nxt (incK g) 3) (by omega) (by omega) he
 obtain ⟨x0, e0a, e0b, e0c, e0d, e0e, e0f⟩ := e0
 have e1 := hE 7 env (E sort env (nxt (incK g) 3)).2 (by omega) (by omega) he
 obtain ⟨x1, e1a, e1b, e1c, e1d, e1e, e1f⟩ := e1
 have e2 := hE sort env (E 7 env (E sort env (nxt (incK g) 3)).2).2 (by omega) (by omega) he
 obtain ⟨x2, e2a, e2b, e2c, e2d, e2e, e2f⟩ := e2
 refine ⟨?_, ?_, ?_, ?_, ?_, ?_, ?_⟩
 ·simp only [proc1V, List.append_assoc]
  exact (Lx.c (clB_lc 80 _ (by decide +kernel)) (Lx.x f1 (So.app ⟨_, _, rfl, by decide⟩ _) (Lx.c (clB_lc 80 _ (by decide +kernel)) (Lx.x x0 (So.app ⟨_, _, rfl, by decide⟩ _) (Lx.c (clB_lc 80 _ (by decide +kernel)) (Lx.x f1 (So.app ⟨_, _, rfl, by decide⟩ _) (Lx.c (clB_lc 80 _ (by decide +kernel)) (Lx.x x1 (So.app ⟨_, _, rfl, by decide⟩ _) (Lx.c (clB_lc 80 _ (by decide +kernel)) x2)))))))))
 ·simp only [proc1V, List.length_append, List.length_cons, List.length_nil]; omega
 ·show g.k ≤ (E sort env (E 7 env (E sort env (nxt (incK g) 3)).2).2).2.k; omega
 ·show (E sort env (E 7 env (E sort env (nxt (incK g) 3)).2).2).2.k ≤ _; omega
 ·show (E sort env (E 7 env (E sort env (nxt (incK g) 3)).2).2).2.s.l.length = _; omega
 ·show _ ≤ (E sort env (E 7 env (E sort env (nxt (incK g) 3)).2).2).2.s.pos; omega
 ·show _ → (E sort env (E 7 env (E sort env (nxt (incK g) 3)).2).2).2.s.pos ≤ _; omega
theorem proc2V_nice {F : Nat} {E : Mk} (hE : NiceE F E) (g : Gn) (h0 : 0 ≤ g.k) (h1 : g.k + (3 * (F : Int) + 1) ≤ 900) (sort : Int) (env : List NamD) (he : EnvN env) (h2 : drawV (incK g).s 3 = 2) : Nice (3 * F + 1) 89 g (proc2V E sort env g) := by
 obtain ⟨f1, f2, f3⟩ := fresh_facts g h0 (by omega)
 have hin : EnvN (inV env g) := he.snoc _ f1 f2
 have i1 : (incK g).s.pos = g.s.pos := rfl
 have i2 : (incK g).s.l.length = g.s.l.length := rfl
 obtain ⟨n0a, n0b, n0c, n0d, n0e⟩ := nxt_f (incK g) 3
 have o0 := nxt_one (g := (incK g)) (n := 3) (by rw [h2]; decide)
 have e0 := hE sort env (nxt (incK g) 3) (by omega) (by omega) he
 obtain ⟨x0, e0a, e0b, e0c, e0d, e0e, e0f⟩ := e0
 have e1 := hE sort env (E sort env (nxt (incK g) 3)).2 (by omega) (by omega) he
 obtain ⟨x1, e1a, e1b, e1c, e1d, e1e, e1f⟩ := e1
 refine ⟨?_, ?_, ?_, ?_, ?_, ?_, ?_⟩
 ·simp only [proc2V, List.append_assoc]
  exact (Lx.c (clB_lc 80 _ (by decide +kernel)) (Lx.x x0 (So.app ⟨_, _, rfl, by decide⟩ _) (Lx.c (clB_lc 80 _ (by decide +kernel)) (Lx.x x1 ⟨_, _, rfl, by decide⟩ (eatB_lx 80 _ (by decide +kernel))))))
 ·simp only [proc2V, List.length_append, List.length_cons, List.length_nil]; omega
 ·show g.k ≤ (E sort env (E sort env (nxt (incK g) 3)).2).2.k; omega
 ·show (E sort env (E sort env (nxt (incK g) 3)).2).2.k ≤ _; omega
 ·show (E sort env (E sort env (nxt (incK g) 3)).2).2.s.l.length = _; omega
 ·show _ ≤ (E sort env (E sort env (nxt (incK g) 3)).2).2.s.pos; omega
 ·show _ → (E sort env (E sort env (nxt (incK g) 3)).2).2.s.pos ≤ _; omega
theorem proc3V_nice {F : Nat} {E : Mk} (hE : NiceE F E) (g : Gn) (h0 : 0 ≤ g.k) (h1 : g.k + (3 * (F : Int) + 1) ≤ 900) (sort : Int) (env : List NamD) (he : EnvN env) (h2 : drawV (incK g).s 3 = 2) : Nice (3 * F + 1) 89 g (proc3V E sort env g) := by
 obtain ⟨f1, f2, f3⟩ := fresh_facts g h0 (by omega)
 have hin : EnvN (inV env g) := he.snoc _ f1 f2
 have i1 : (incK g).s.pos = g.s.pos := rfl
 have i2 : (incK g).s.l.length = g.s.l.length := rfl
 obtain ⟨n0a, n0b, n0c, n0d, n0e⟩ := nxt_f (incK g) 3
 have o0 := nxt_one (g := (incK g)) (n := 3) (by rw [h2]; decide)
 have e0 := hE 0 (inV env g) (nxt (incK g) 3) (by omega) (by omega) hin
 obtain ⟨x0, e0a, e0b, e0c, e0d, e0e, e0f⟩ := e0
 have e1 := hE 0 env (E 0 (inV env g) (nxt (incK g) 3)).2 (by omega) (by omega) he
 obtain ⟨x1, e1a, e1b, e1c, e1d, e1e, e1f⟩ := e1
 refine ⟨?_, ?_, ?_, ?_, ?_, ?_, ?_⟩
 ·simp only [proc3V, List.append_assoc]
  exact (Lx.c (clB_lc 80 _ (by decide +kernel)) (Lx.x f1 (So.app ⟨_, _, rfl, by decide⟩ _) (Lx.c (clB_lc 80 _ (by decide +kernel)) (Lx.x f1 (So.app ⟨_, _, rfl, by decide⟩ _) (Lx.c (clB_lc 80 _ (by decide +kernel)) (Lx.x x0 (So.app ⟨_, _, rfl, by decide⟩ _) (Lx.c (clB_lc 80 _ (by decide +kernel)) (Lx.x x1 ⟨_, _, rfl, by decide⟩ (eatB_lx 80 _ (by decide +kernel))))))))))
 ·simp only [proc3V, List.length_append, List.length_cons, List.length_nil]; omega
 ·show g.k ≤ (E 0 env (E 0 (inV env g) (nxt (incK g) 3)).2).2.k; omega
 ·show (E 0 env (E 0 (inV env g) (nxt (incK g) 3)).2).2.k ≤ _; omega
 ·show (E 0 env (E 0 (inV env g) (nxt (incK g) 3)).2).2.s.l.length = _; omega
 ·show _ ≤ (E 0 env (E 0 (inV env g) (nxt (incK g) 3)).2).2.s.pos; omega
 ·show _ → (E 0 env (E 0 (inV env g) (nxt (incK g) 3)).2).2.s.pos ≤ _; omega
theorem funV_nice {F : Nat} {E : Mk} (hE : NiceE F E) (g : Gn) (h0 : 0 ≤ g.k) (h1 : g.k + (3 * (F : Int) + 1) ≤ 900) (env : List NamD) (he : EnvN env) : Nice (3 * F + 1) 89 g (funV E env g) := by
 obtain ⟨f1, f2, f3⟩ := fresh_facts g h0 (by omega)
 have hin : EnvN (env ++ [⟨freshV g, 0⟩]) := he.snoc _ f1 f2
 have i1 : (incK g).s.pos = g.s.pos := rfl
 have i2 : (incK g).s.l.length = g.s.l.length := rfl
 have e0 := hE 0 (env ++ [⟨freshV g, 0⟩]) (incK g) (by omega) (by omega) hin
 obtain ⟨x0, e0a, e0b, e0c, e0d, e0e, e0f⟩ := e0
 refine ⟨?_, ?_, ?_, ?_, ?_, ?_, ?_⟩
 ·simp only [funV, List.append_assoc]
  exact (Lx.c (clB_lc 80 _ (by decide +kernel)) (Lx.x f1 (So.app ⟨_, _, rfl, by decide⟩ _) (Lx.c (clB_lc 80 _ (by decide +kernel)) (Lx.x f1 (So.app ⟨_, _, rfl, by decide⟩ _) (Lx.c (clB_lc 80 _ (by decide +kernel)) (Lx.x x0 ⟨_, _, rfl, by decide⟩ (eatB_lx 80 _ (by decide +kernel))))))))
 ·simp only [funV, List.length_append, List.length_cons, List.length_nil]; omega
 ·show g.k ≤ (E 0 (env ++ [⟨freshV g, 0⟩]) (incK g)).2.k; omega
 ·show (E 0 (env ++ [⟨freshV g, 0⟩]) (incK g)).2.k ≤ _; omega
 ·show (E 0 (env ++ [⟨freshV g, 0⟩]) (incK g)).2.s.l.length = _; omega
 ·show _ ≤ (E 0 (env ++ [⟨freshV g, 0⟩]) (incK g)).2.s.pos; omega
 ·show _ → (E 0 (env ++ [⟨freshV g, 0⟩]) (incK g)).2.s.pos ≤ _; omega
theorem letV_nice {F : Nat} {E : Mk} (hE : NiceE F E) (g : Gn) (h0 : 0 ≤ g.k) (h1 : g.k + (3 * (F : Int) + 1) ≤ 900) (sort : Int) (env : List NamD) (he : EnvN env) : Nice (3 * F + 1) 89 g (letV E sort env g) := by
 obtain ⟨f1, f2, f3⟩ := fresh_facts g h0 (by omega)
 have hin : EnvN (env ++ [⟨freshV g, drawV (incK g).s 8⟩]) := he.snoc _ f1 f2
 have i1 : (incK g).s.pos = g.s.pos := rfl
 have i2 : (incK g).s.l.length = g.s.l.length := rfl
 obtain ⟨n0a, n0b, n0c, n0d, n0e⟩ := nxt_f (incK g) 8
 have e0 := hE (drawV (incK g).s 8) env (nxt (incK g) 8) (by omega) (by omega) he
 obtain ⟨x0, e0a, e0b, e0c, e0d, e0e, e0f⟩ := e0
 have e1 := hE sort (env ++ [⟨freshV g, drawV (incK g).s 8⟩]) (E (drawV (incK g).s 8) env (nxt (incK g) 8)).2 (by omega) (by omega) hin
 obtain ⟨x1, e1a, e1b, e1c, e1d, e1e, e1f⟩ := e1
 refine ⟨?_, ?_, ?_, ?_, ?_, ?_, ?_⟩
 ·simp only [letV, List.append_assoc]
  exact (Lx.c (clB_lc 80 _ (by decide +kernel)) (Lx.x f1 (So.app ⟨_, _, rfl, by decide⟩ _) (Lx.c (clB_lc 80 _ (by decide +kernel)) (Lx.x x0 (So.app ⟨_, _, rfl, by decide⟩ _) (Lx.c (clB_lc 80 _ (by decide +kernel)) x1)))))
 ·simp only [letV, List.length_append, List.length_cons, List.length_nil]; omega
 ·show g.k ≤ (E sort (env ++ [⟨freshV g, drawV (incK g).s 8⟩]) (E (drawV (incK g).s 8) env (nxt (incK g) 8)).2).2.k; omega
 ·show (E sort (env ++ [⟨freshV g, drawV (incK g).s 8⟩]) (E (drawV (incK g).s 8) env (nxt (incK g) 8)).2).2.k ≤ _; omega
 ·show (E sort (env ++ [⟨freshV g, drawV (incK g).s 8⟩]) (E (drawV (incK g).s 8) env (nxt (incK g) 8)).2).2.s.l.length = _; omega
 ·show _ ≤ (E sort (env ++ [⟨freshV g, drawV (incK g).s 8⟩]) (E (drawV (incK g).s 8) env (nxt (incK g) 8)).2).2.s.pos; omega
 ·show _ → (E sort (env ++ [⟨freshV g, drawV (incK g).s 8⟩]) (E (drawV (incK g).s 8) env (nxt (incK g) 8)).2).2.s.pos ≤ _; omega
theorem raiseV_nice {F : Nat} {E : Mk} (hE : NiceE F E) (g : Gn) (h0 : 0 ≤ g.k) (h1 : g.k + (3 * (F : Int) + 1) ≤ 900) (env : List NamD) (he : EnvN env) : Nice (3 * F + 1) 89 g (raiseV E env g) := by
 have e0 := hE 7 env g (by omega) (by omega) he
 obtain ⟨x0, e0a, e0b, e0c, e0d, e0e, e0f⟩ := e0
 refine ⟨?_, ?_, ?_, ?_, ?_, ?_, ?_⟩
 ·simp only [raiseV, List.append_assoc]
  exact (Lx.c (clB_lc 80 _ (by decide +kernel)) (Lx.x x0 ⟨_, _, rfl, by decide⟩ (eatB_lx 80 _ (by decide +kernel))))
 ·simp only [raiseV, List.length_append, List.length_cons, List.length_nil]; omega
 ·show g.k ≤ (E 7 env g).2.k; omega
 ·show (E 7 env g).2.k ≤ _; omega
 ·show (E 7 env g).2.s.l.length = _; omega
 ·show _ ≤ (E 7 env g).2.s.pos; omega
 ·show _ → (E 7 env g).2.s.pos ≤ _; omega
theorem nice_lit {g : Gn} {n : Int} {t : List UInt8} (h1 : Lx t) (h2 : t.length ≤ 29) : Nice 1 29 g (t, nxt g n) := by
 obtain ⟨a1, a2, a3, a4, a5⟩ := nxt_f g n
 refine ⟨h1, ?_, ?_, ?_, ?_, ?_, ?_⟩
 ·simp only; omega
 ·show g.k ≤ (nxt g n).k; omega
 ·show (nxt g n).k ≤ _; omega
 ·exact a4
 ·exact a2
 ·exact a5
theorem leafS_nice (sort : Int) (g : Gn) (h0 : 0 ≤ g.k) (h1 : g.k + 1 ≤ 900) : Nice 1 29 g (leafS sort g) := by
 have b2 := lit_facts boolL 10 5 (by decide +kernel) (drawV_in g.s (n := 2) (by omega))
 have b3 := lit_facts listL 10 6 (by decide +kernel) (drawV_in g.s (n := 3) (by omega))
 have b6 := lit_facts thingL 10 6 (by decide +kernel) (drawV_in g.s (n := 6) (by omega))
 obtain ⟨at1, at2⟩ := atom_facts g.s
 obtain ⟨s1, s2⟩ := small_facts g
 obtain ⟨t1, t2⟩ := small_facts (nxt g 4)
 obtain ⟨u1, u2⟩ := small_facts (incK g)
 obtain ⟨f1, f2, f3⟩ := fresh_facts g h0 (by omega)
 obtain ⟨n0a, n0b, n0c, n0d, n0e⟩ := nxt_f g 4
 obtain ⟨n1a, n1b, n1c, n1d, n1e⟩ := nxt_f (nxt g 4) 7
 obtain ⟨n2a, n2b, n2c, n2d, n2e⟩ := nxt_f (incK g) 7
 have i1 : (incK g).s.pos = g.s.pos := rfl
 have i2 : (incK g).s.l.length = g.s.l.length := rfl
 unfold leafS
 refine bif_nice _ (fun _ => nice_lit b2.1 (by omega)) fun _ => bif_nice _ (fun _ => nice_lit at1 (by omega)) fun _ => bif_nice _ (fun _ => nice_lit b3.1 (by omega)) fun _ => bif_nice _ (fun _ => ?_) fun _ => bif_nice _ (fun _ => ?_) fun _ => bif_nice _ (fun _ => ?_) fun _ => bif_nice _ (fun _ => nice_lit b6.1 (by omega)) fun _ => nice_lit s1 (by omega)
 ·refine ⟨?_, ?_, ?_, ?_, ?_, ?_, ?_⟩
  ·simp only [List.append_assoc]
   exact Lx.c (clB_lc 80 _ (by decide +kernel)) (Lx.x at1 (So.app ⟨_, _, rfl, by decide⟩ _) (Lx.c (clB_lc 80 _ (by decide +kernel)) (Lx.x t1 ⟨_, _, rfl, by decide⟩ (eatB_lx 80 _ (by decide +kernel)))))
  ·simp only [List.length_append, List.length_cons, List.length_nil]; omega
  ·show g.k ≤ (nxt (nxt g 4) 7).k; omega
  ·show (nxt (nxt g 4) 7).k ≤ _; omega
  ·show (nxt (nxt g 4) 7).s.l.length = _; omega
  ·show _ ≤ (nxt (nxt g 4) 7).s.pos; omega
  ·show _ → (nxt (nxt g 4) 7).s.pos ≤ _; omega
 ·refine ⟨?_, ?_, ?_, ?_, ?_, ?_, ?_⟩
  ·simp only [List.append_assoc]
   exact Lx.c (clB_lc 80 _ (by decide +kernel)) (Lx.x f1 (So.app ⟨_, _, rfl, by decide⟩ _) (Lx.c (clB_lc 80 _ (by decide +kernel)) (Lx.x f1 (So.app ⟨_, _, rfl, by decide⟩ _) (Lx.c (clB_lc 80 _ (by decide +kernel)) (Lx.x u1 ⟨_, _, rfl, by decide⟩ (eatB_lx 80 _ (by decide +kernel)))))))
  ·simp only [List.length_append, List.length_cons, List.length_nil]; omega
  ·show g.k ≤ (nxt (incK g) 7).k; omega
  ·show (nxt (incK g) 7).k ≤ _; omega
  ·show (nxt (incK g) 7).s.l.length = _; omega
  ·show _ ≤ (nxt (incK g) 7).s.pos; omega
  ·show _ → (nxt (incK g) 7).s.pos ≤ _; omega
 ·refine nice_lit ?_ ?_
  ·simp only [List.append_assoc]
   exact Lx.c (clB_lc 80 _ (by decide +kernel)) (Lx.x s1 ⟨_, _, rfl, by decide⟩ (eatB_lx 80 _ (by decide +kernel)))
  ·simp only [List.length_append, List.length_cons, List.length_nil]; omega
theorem leafV_nice (sort : Int) (env : List NamD) (g : Gn) (h0 : 0 ≤ g.k) (h1 : g.k + 1 ≤ 900) (he : EnvN env) : Nice 1 29 g (leafV sort env g) := by
  unfold leafV
  refine bif_nice _ (fun hl => bif_nice _ (fun _ => ?_) fun _ => nice_pre (leafS_nice sort _ h0 h1)) fun _ => leafS_nice sort g h0 h1
  rw [decide_eq_true_eq] at hl
  have hv := drawV_in (nxt g 4).s (n := ((ofV env sort).length : Int)) (by omega)
  refine nice_pre (nice_lit ?_ ?_) <;>
  (rw [List.getD_eq_getElem?_getD, List.getElem?_eq_getElem (show (drawV (nxt g 4).s ((ofV env sort).length : Int)).toNat < (ofV env sort).length by omega), Option.getD_some]
   have hm := List.getElem_mem (l := ofV env sort) (show (drawV (nxt g 4).s ((ofV env sort).length : Int)).toNat < (ofV env sort).length by omega)
   obtain ⟨y, hy, e⟩ := List.mem_map.1 hm
   rw [← e]
   have := he y (List.mem_filter.1 hy).1)
  · exact this.1
  · have := this.2; omega
theorem specialV_nice {F : Nat} {E : Mk} (hE : NiceE F E) (g : Gn) (h0 : 0 ≤ g.k) (h1 : g.k + (3 * (F : Int) + 1) ≤ 900) (sort : Int) (env : List NamD) (he : EnvN env) : Nice (3 * F + 1) 89 g (specialV E sort env g) := by
 unfold specialV
 refine bif_nice _ (fun _ => bif_nice _ (fun _ => addV_nice hE g h0 h1 env he) fun _ => bif_nice _ (fun _ => getV_nice hE g h0 h1 env he) fun _ => bif_nice _ (fun _ => applyV_nice hE g h0 h1 env he) fun _ => assertV_nice hE g h0 h1 env he) fun _ => bif_nice _ (fun _ => bif_nice _ (fun _ => lessV_nice hE g h0 h1 env he) fun _ => bif_nice _ (fun _ => eqlV_nice hE g h0 h1 env he) fun _ => notV_nice hE g h0 h1 env he) fun _ => bif_nice _ (fun _ => consV_nice hE g h0 h1 env he) fun _ => bif_nice _ (fun _ => pairV_nice hE g h0 h1 env he) fun _ => bif_nice _ (fun _ => funV_nice hE g h0 h1 env he) fun _ => bif_nice _ (fun _ => putV_nice hE g h0 h1 env he) fun _ => bif_nice _ (fun _ => thingV_nice hE g h0 h1 env he) fun _ => (leafV_nice sort env g h0 (by omega) he).mono (by omega) (by omega)
theorem branchV_nice {F : Nat} {E : Mk} (hE : NiceE F E) (g : Gn) (h0 : 0 ≤ g.k) (h1 : g.k + (3 * (F : Int) + 1) ≤ 900) (sort : Int) (env : List NamD) (he : EnvN env) : Nice (3 * F + 1) 89 g (branchV E sort env g) := by
 have hv := drawV_in (nxt (incK g) 5).s (n := 4) (by omega)
 unfold branchV
 refine bif_nice _ (fun _ => tryV_nice hE g h0 h1 sort env he) fun a => bif_nice _ (fun _ => case0V_nice hE g h0 h1 sort env he a) fun b0 => bif_nice _ (fun b => case1V_nice hE g h0 h1 sort env he a (by simpa using b)) fun b1 => bif_nice _ (fun b => case2V_nice hE g h0 h1 sort env he a (by simpa using b)) fun b2 => ?_
 rw [decide_eq_false_iff_not] at b0 b1 b2
 exact case3V_nice hE g h0 h1 sort env he a (by omega)
theorem processV_nice {F : Nat} {E : Mk} (hE : NiceE F E) (g : Gn) (h0 : 0 ≤ g.k) (h1 : g.k + (3 * (F : Int) + 1) ≤ 900) (sort : Int) (env : List NamD) (he : EnvN env) : Nice (3 * F + 1) 89 g (processV E sort env g) := by
 have hv := drawV_in (incK g).s (n := 3) (by omega)
 unfold processV
 refine bif_nice _ (fun _ => proc0V_nice hE g h0 h1 sort env he) fun b0 => bif_nice _ (fun b => proc1V_nice hE g h0 h1 sort env he (by simpa using b)) fun b1 => ?_
 rw [decide_eq_false_iff_not] at b0 b1
 exact bif_nice _ (fun _ => proc3V_nice hE g h0 h1 sort env he (by omega)) fun _ => proc2V_nice hE g h0 h1 sort env he (by omega)
/-- a function of the text's own -/
def CalN (d : CalD) : Prop := d.mod = [] ∧ d.name ∈ fghL ∧ d.params.length ≤ 2
theorem name_facts {d : CalD} (h : CalN d) : Lx d.name ∧ d.name.length = 1 := by
 have : ∀ x ∈ fghL, eatB 5 x = true ∧ x.length = 1 := by decide +kernel
 have := this _ h.2.1
 exact ⟨eatB_lx 5 _ this.1, this.2⟩
theorem head_lc {d : CalD} (h : CalN d) : Lc (d.name ++ [40]) := Lc.x (name_facts h).1 ⟨40, [], rfl, by decide⟩ (open_lc 40 (.inl rfl))
theorem argAt_nice {F : Nat} {E : Mk} (hE : NiceE F E) (env : List NamD) (he : EnvN env) (s : List UInt8) (hs : Lc s) (g : Gn) (ps : List Int) (h0 : 0 ≤ g.k) : ∀ k, k ≤ ps.length → g.k + ((k : Int) * F) ≤ 900 →
  Nice (k * F) (s.length + 31 * k) g (argAt E env s g ps k).2 ∧ (k = 0 → Lc (argAt E env s g ps k).2.1)
 | 0, _, _ => ⟨⟨hs.lx, by simp only [argAt, List.take_zero, List.foldl_nil]; omega, Int.le_refl _, by show g.k ≤ _; omega, rfl, Nat.le_refl _, fun h => h⟩, fun _ => hs⟩
 | k + 1, hk, hb => by
  have hkF : ((k + 1 : Nat) : Int) * (F : Int) = (k : Int) * F + F := by rw [Int.natCast_add, Int.add_mul]; simp
  rw [hkF] at hb
  obtain ⟨ih, ihc⟩ := argAt_nice hE env he s hs g ps h0 k (by omega) (by omega)
  have hfst := argAt_fst E env s g ps k (by omega)
  rw [argAt_succ E env s g ps k ps[k] (List.getElem?_eq_getElem (by omega))]
  obtain ⟨x1, x2, x3, x4, x5, x6, x7⟩ := ih
  have x4' : (argAt E env s g ps k).2.2.k ≤ g.k + (k : Int) * F := by rw [Int.natCast_mul] at x4; exact x4
  obtain ⟨y1, y2, y3, y4, y5, y6, y7⟩ := hE ps[k] env (argAt E env s g ps k).2.2 (by omega) (by omega) he
  refine ⟨⟨?_, ?_, ?_, ?_, ?_, ?_, ?_⟩, fun h => by omega⟩
  ·simp only [argStep, hfst]
   by_cases hk0 : k = 0
   ·rw [show decide (k = 0) = true by simp [hk0], cond_true]
    exact Lx.c (ihc hk0) y1
   ·rw [show decide (k = 0) = false by simp [hk0], cond_false]
    exact Lx.c (Lc.x x1 ⟨_, _, rfl, by decide⟩ (clB_lc 10 _ (by decide +kernel))) y1
  ·have hb : ∀ b : Bool, ∀ t : List UInt8, (bif b then t else t ++ [44, 32]).length ≤ t.length + 2 := by intro b t; cases b <;> simp
   have := hb (argAt E env s g ps k).1 (argAt E env s g ps k).2.1
   simp only [argStep, List.length_append]; omega
  ·show g.k ≤ (E ps[k] env (argAt E env s g ps k).2.2).2.k; omega
  ·show (E ps[k] env (argAt E env s g ps k).2.2).2.k ≤ _
   rw [Int.natCast_mul, hkF]; omega
  ·show (E ps[k] env (argAt E env s g ps k).2.2).2.s.l.length = _; omega
  ·show _ ≤ (E ps[k] env (argAt E env s g ps k).2.2).2.s.pos; omega
  ·show _ → (E ps[k] env (argAt E env s g ps k).2.2).2.s.pos ≤ _; omega
theorem callW_nice {F : Nat} {E : Mk} (hE : NiceE F E) (g : Gn) (h0 : 0 ≤ g.k) (h1 : g.k + (3 * (F : Int) + 1) ≤ 900) (env : List NamD) (he : EnvN env) (d : CalD) (hd : CalN d) : Nice (3 * F + 1) 89 g (callW E env d g) := by
 have hp := hd.2.2
 have hh : headV d = d.name ++ [40] := by unfold headV; rw [decide_eq_true hd.1]; rfl
 have hl : (headV d).length = 2 := by rw [hh, List.length_append, (name_facts hd).2]; rfl
 have hF : (d.params.length : Int) * (F : Int) ≤ 2 * F := Int.mul_le_mul_of_nonneg_right (by omega) (by omega)
 obtain ⟨⟨x1, x2, x3, x4, x5, x6, x7⟩, _⟩ := argAt_nice hE env he (headV d) (by rw [hh]; exact head_lc hd) g d.params h0 d.params.length (Nat.le_refl _) (by omega)
 rw [Int.natCast_mul] at x4
 refine ⟨Lx.x x1 ⟨_, _, rfl, by decide⟩ (eatB_lx 5 _ (by decide +kernel)), ?_, x3, ?_, x5, x6, x7⟩
 ·simp only [callW, List.length_append, List.length_cons, List.length_nil]; omega
 ·show (argAt E env (headV d) g d.params d.params.length).2.2.k ≤ _; omega
def CstN (c : Cst) : Prop := ∀ d ∈ c.calls, CalN d
theorem stepE_nice {c : Cst} (hc : CstN c) {F : Nat} {E : Mk} (hE : NiceE F E) : NiceE (3 * F + 1) (stepE c E) := by
 intro sort env g h0 h1 he
 have h1' : g.k + (3 * (F : Int) + 1) ≤ 900 := by omega
 have one : ∀ v : Int, v ≠ 0 → decide (drawV g.s 7 = v) = true → drawV g.s 7 ≠ 0 := fun v hv h => by rw [decide_eq_true_eq] at h; rw [h]; exact hv
 unfold stepE
 refine bif_nice _ (fun _ => nice_pre (Nice.mono (F' := 3 * F + 1) (c' := 29) (leafV_nice sort env (nxt g 7) h0 (by show g.k + 1 ≤ 900; omega) he) (by omega) (by omega))) fun a0 => ?_
 have hne : drawV g.s 7 ≠ 0 := by rwa [decide_eq_false_iff_not] at a0
 refine bif_nice _ (fun _ => ?_) fun _ => bif_nice _ (fun _ => nice_one hne (branchV_nice hE (nxt g 7) h0 h1' sort env he)) fun _ => bif_nice _ (fun _ => nice_one hne (letV_nice hE (nxt g 7) h0 h1' sort env he)) fun _ => bif_nice _ (fun _ => bif_nice _ (fun _ => nice_one hne (processV_nice hE (nxt g 7) h0 h1' sort env he)) fun _ => nice_one hne (specialV_nice hE (nxt g 7) h0 h1' sort env he)) fun _ => bif_nice _ (fun _ => bif_nice _ (fun _ => nice_one hne (nice_pre (raiseV_nice hE (nxt (nxt g 7) 6) h0 h1' env he))) fun _ => nice_one hne (nice_pre (specialV_nice hE (nxt (nxt g 7) 6) h0 h1' sort env he))) fun _ => nice_one hne (specialV_nice hE (nxt g 7) h0 h1' sort env he)
 refine bif_nice _ (fun _ => nice_one hne (specialV_nice hE (nxt g 7) h0 h1' sort env he)) fun b => ?_
 rw [decide_eq_false_iff_not] at b
 exact nice_one hne (nice_pre (callW_nice hE (nxt (nxt g 7) ((calsV c.calls sort).length : Int)) h0 h1' env he _ (hc _ (cals_mem (g := nxt g 7) (by omega)))))
def FN : Nat → Nat
 | 0 => 1
 | d + 1 => 3 * FN d + 1
theorem exprV_nice {c : Cst} (hc : CstN c) : ∀ d : Nat, NiceE (FN d) (exprV c d)
 | 0 => fun sort env g h0 h1 he => leafV_nice sort env g h0 h1 he
 | d + 1 => stepE_nice hc (exprV_nice hc d)
end Go.Proofs.YtogponhonjiidaaDoor

