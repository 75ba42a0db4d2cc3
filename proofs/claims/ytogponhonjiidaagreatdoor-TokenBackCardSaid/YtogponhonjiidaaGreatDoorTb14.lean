/- A part of the proof: lemmas about the walk of the program and about plain integers and lists. No conditions beyond those that each lemma states. -/
import Derived.Test.YtogponhonjiidaaGreatDoorTb13
import Derived.Test.YtogponhonjiidaaGreatDoorTb12
set_option linter.unusedSimpArgs false
set_option linter.unusedVariables false
set_option maxRecDepth 20000
namespace Go.Proofs.YtogponhonjiidaaGreatDoor
open Go Go.Sx
open Nat renaming reduceBEq → zA, reduceBNe → zB, reduceAdd → zC, reduceSub → zD, reduceMul → zE, reduceLeDiff → zF, reduceLT → zG, reduceEqDiff → zH
open Int renaming reduceToNat → zI, reduceLE → zJ, reduceLT → zK, reduceEq → zL
open Bool renaming not_eq_true' → zM, not_eq_false' → zN
def headDig (l : List UInt8) : Bool := match l with
  | c :: _ => digI c.toNat
  | [] => false
/-- the token at the head: the token, its code, how many bytes -/
def lexL (b : UInt8) (l : List UInt8) : (Tok × Int) × Nat :=
  bif lowI b.toNat then (wordV 1 (b :: l.take (cntW nameI l)), 1 + cntW nameI l)
  else bif uppI b.toNat then (wordV 2 (b :: l.take (cntW varI l)), 1 + cntW varI l)
  else bif decide ((b.toNat : Int) = 95) then ((⟨2, [95], 0, 0⟩, 0), 1)
  else bif digI b.toNat then (numT false (b :: l.take (cntW digI l)), 1 + cntW digI l)
  else bif decide ((b.toNat : Int) = 45) && headDig l then (numT true (l.take (cntW digI l)), 1 + cntW digI l)
  else bif decide ((b.toNat : Int) = 34) then (match qEnd l with
    | none => ((zeroTok, 5), 0)
    | some x => (qTok (b :: l.take (x + 1)), x + 2))
  else bif decide ((b.toNat : Int) = 96) then (bif decide (cntW noBq l < l.length) then ((⟨5, l.take (cntW noBq l), 0, 0⟩, 0), cntW noBq l + 2) else ((zeroTok, 5), 0))
  else signV (b :: l)
theorem nextV_lex (s : List UInt8) (i : Nat) (b : UInt8) (l : List UInt8) (h : s.drop i = b :: l) :
    nextV s i b (quoV s i) (encV s i) = ((lexL b l).1, i + (lexL b l).2) := by
  have hi : i < s.length := by
    have := congrArg List.length h
    rw [List.length_drop, List.length_cons] at this; omega
  have hd : s.drop (i + 1) = l := by rw [← List.drop_drop, h]; rfl
  have hsp : ∀ p, spanW p s (i + 1) = l.take (cntW p l) := fun p => by rw [spanW_eq, hd]
  have htw : ∀ p, toW p s (i + 1) = i + (1 + cntW p l) := fun p => by unfold toW; rw [hd]; omega
  have hnd : nextDig s i = headDig l := by
    unfold nextDig headDig
    have : s[i + 1]? = l[0]? := by rw [← hd, List.getElem?_drop]
    rw [this]
    cases l <;> rfl
  unfold nextV lexL
  simp only [hsp, htw, hnd, h]
  cases lowI b.toNat with
  | true => rfl
  | false =>
  cases uppI b.toNat with
  | true => rfl
  | false =>
  cases decide ((b.toNat : Int) = 95) with
  | true => rfl
  | false =>
  cases digI b.toNat with
  | true => rfl
  | false =>
  cases decide ((b.toNat : Int) = 45) && headDig l with
  | true => rfl
  | false =>
  cases decide ((b.toNat : Int) = 34) with
  | true =>
    simp only [cond_true, cond_false]
    unfold quoV qAt
    rw [hd]
    cases hq : qEnd l with
    | none => rfl
    | some x =>
      simp only [Option.map_some]
      have e : (s.take (x + (i + 1) + 1)).drop i = b :: l.take (x + 1) := by
        rw [List.drop_take, show x + (i + 1) + 1 - i = x + 1 + 1 by omega, h]; rfl
      rw [e]
      have : x + (i + 1) + 1 = i + (x + 2) := by omega
      rw [this]
  | false =>
  cases decide ((b.toNat : Int) = 96) with
  | true =>
    simp only [cond_true, cond_false]
    rw [encV_eq s i hi, htw]
    have hll : l.length = s.length - (i + 1) := by rw [← hd, List.length_drop]
    have hle := cntW_le noBq l
    by_cases hc : cntW noBq l < l.length
    · rw [decide_eq_true hc, decide_eq_true (show i + (1 + cntW noBq l) < s.length by omega)]
      have e : (s.take (i + (1 + cntW noBq l))).drop (i + 1) = l.take (cntW noBq l) := by
        rw [List.drop_take, hd, show i + (1 + cntW noBq l) - (i + 1) = cntW noBq l by omega]
      rw [e]
      simp only [cond_true]
      have : i + (1 + cntW noBq l) + 1 = i + (cntW noBq l + 2) := by omega
      rw [this]
    · rw [decide_eq_false hc, decide_eq_false (show ¬ i + (1 + cntW noBq l) < s.length by omega)]
      rfl
  | false => rfl
/-- what may follow a token: nothing, a separator, a note -/
def Calm (z : List UInt8) : Prop := ∀ c z', z = c :: z' → sepI c.toNat = true ∨ c = 37
theorem calm_nil : Calm [] := fun c z' h => by cases h
theorem calm_cls {c : UInt8} (h : sepI c.toNat = true ∨ c = 37) : nameI c.toNat = false ∧ varI c.toNat = false ∧ digI c.toNat = false := by
  have hc : c.toNat = 9 ∨ c.toNat = 10 ∨ c.toNat = 13 ∨ c.toNat = 32 ∨ c.toNat = 37 := by
    rcases h with h | rfl
    · unfold sepI at h
      simp only [Bool.or_eq_true, decide_eq_true_eq] at h
      omega
    · exact .inr (.inr (.inr (.inr rfl)))
  rcases hc with h | h | h | h | h <;> rw [h] <;> decide
theorem cntW_app {p : Int → Bool} : ∀ {u z : List UInt8}, (∀ x ∈ u, p x.toNat = true) → (∀ c z', z = c :: z' → p c.toNat = false) → cntW p (u ++ z) = u.length
  | [], z, _, hz => by
    cases z with
    | nil => rfl
    | cons c z' => rw [List.nil_append, cntW, hz c z' rfl]; rfl
  | b :: u, z, hu, hz => by
    rw [List.cons_append, cntW, hu b List.mem_cons_self, cond_true, cntW_app (fun x hx => hu x (List.mem_cons_of_mem _ hx)) hz, List.length_cons]; omega
theorem take_app {u z : List UInt8} : (u ++ z).take u.length = u := by simp
theorem take_len_cnt (p : Int → Bool) (l : List UInt8) : (l.take (cntW p l)).length = cntW p l := by
  rw [List.length_take]; have := cntW_le p l; omega
theorem cntW_calm {p : Int → Bool} (l z : List UInt8) (hz : Calm z) (hp : ∀ c : UInt8, (sepI c.toNat = true ∨ c = 37) → p c.toNat = false) : cntW p (l.take (cntW p l) ++ z) = cntW p l ∧ (l.take (cntW p l) ++ z).take (cntW p l) = l.take (cntW p l) := by
  have h := cntW_app (p := p) (u := l.take (cntW p l)) (z := z) (take_cnt p l) (fun c z' e => hp c (hz c z' e))
  rw [take_len_cnt] at h
  refine ⟨h, ?_⟩
  have := take_app (u := l.take (cntW p l)) (z := z)
  rwa [take_len_cnt] at this
theorem qEnd_take : ∀ (n : Nat) (l : List UInt8), l.length ≤ n → ∀ x, qEnd l = some x → ∀ z, qEnd (l.take (x + 1) ++ z) = some x
  | n, [], _, x, h, z => by rw [qEnd] at h; cases h
  | 0, c :: l, hn, x, h, z => by simp at hn
  | n + 1, c :: l, hn, x, h, z => by
    have hn' : l.length ≤ n := by simpa using hn
    rw [qEnd] at h
    cases h92 : decide ((c.toNat : Int) = 92) with
    | true =>
      rw [h92, cond_true] at h
      obtain ⟨y, hy, rfl⟩ := Option.map_eq_some_iff.1 h
      cases l with
      | nil => rw [List.drop_nil, qEnd] at hy; cases hy
      | cons d l =>
        rw [List.drop_succ_cons, List.drop_zero] at hy
        have ih := qEnd_take n l (by simp at hn'; omega) y hy z
        rw [show y + 2 + 1 = (y + 1) + 1 + 1 by omega, List.take_succ_cons, List.take_succ_cons, List.cons_append, List.cons_append, qEnd, h92, cond_true, List.drop_succ_cons, List.drop_zero, ih]; rfl
    | false =>
      rw [h92, cond_false] at h
      cases h34 : decide ((c.toNat : Int) = 34) with
      | true =>
        rw [h34, cond_true] at h
        cases h
        rw [List.take_succ_cons, List.take_zero, List.cons_append, qEnd, h92, h34]; rfl
      | false =>
        rw [h34, cond_false] at h
        obtain ⟨y, hy, rfl⟩ := Option.map_eq_some_iff.1 h
        have ih := qEnd_take n l hn' y hy z
        rw [List.take_succ_cons, List.cons_append, qEnd, h92, h34, cond_false, cond_false, ih]; rfl
theorem qEnd_lt' {l : List UInt8} {x : Nat} (h : qEnd l = some x) : x < l.length := qEnd_lt _ _ h
theorem dig_dec : ∀ (l : List UInt8), allDig l → ∀ acc, 1 ≤ acc → Lib.decDigits (decA acc l) = Lib.decDigits acc ++ l
  | [], _, acc, _ => by rw [decA, List.append_nil]
  | b :: l, hd, acc, ha => by
    obtain ⟨h1, h2⟩ := dig_bd (hd b List.mem_cons_self)
    obtain ⟨v, hv⟩ : ∃ v, v = b.toNat - 48 := ⟨_, rfl⟩
    rw [decA_cons, ← hv, dig_dec l (fun x hx => hd x (List.mem_cons_of_mem _ hx)) _ (by omega), dig_step (show ¬ acc * 10 + v < 10 by omega)]
    rw [show (acc * 10 + v) / 10 = acc by omega, show (acc * 10 + v) % 10 = v by omega]
    have hb : UInt8.ofNat (48 + v) = b := by rw [show 48 + v = b.toNat by omega, UInt8.ofNat_toNat]
    rw [hb, List.append_assoc]; rfl
theorem dig_canon {b : UInt8} {l : List UInt8} (hd : allDig (b :: l)) (hb : b ≠ 48) : 1 ≤ decA 0 (b :: l) ∧ Lib.decDigits (decA 0 (b :: l)) = b :: l := by
  obtain ⟨h1, h2⟩ := dig_bd (hd b List.mem_cons_self)
  have hb' : b.toNat ≠ 48 := fun e => hb (UInt8.toNat_inj.1 e)
  obtain ⟨v, hv⟩ : ∃ v, v = b.toNat - 48 := ⟨_, rfl⟩
  have e : decA 0 (b :: l) = decA v l := by rw [decA_cons, ← hv, Nat.zero_mul, Nat.zero_add]
  have hge := decA_ge l v
  refine ⟨by rw [e]; omega, ?_⟩
  rw [e, dig_dec l (fun x hx => hd x (List.mem_cons_of_mem _ hx)) v (by omega), Lib.decDigits, dif_pos (by omega)]
  have hb2 : UInt8.ofNat (48 + v) = b := by rw [show 48 + v = b.toNat by omega, UInt8.ofNat_toNat]
  rw [hb2]; rfl
theorem numT_ok {neg : Bool} {d : List UInt8} (hd : allDig d) (hne : d ≠ []) (h : (numT neg d).2 = 0) :
    ∃ m, (numT neg d).1 = ⟨3, [], m, 0⟩ ∧ Lib.itoa m = (bif neg then 45 :: d else d) ∧ -9223372036854775808 ≤ m ∧ m ≤ 9223372036854775807 := by
  cases d with
  | nil => exact absurd rfl hne
  | cons b l =>
  unfold numT at h ⊢
  cases hz : decide ((numM neg (b :: l)).2 = 0) with
  | false =>
    rw [hz, cond_false] at h
    rw [decide_eq_false_iff_not] at hz
    exact absurd h hz
  | true =>
    rw [decide_eq_true_eq] at hz
    rw [cond_true]
    refine ⟨(numM neg (b :: l)).1, rfl, ?_⟩
    unfold numM at hz ⊢
    cases hc : decide ((b :: l).head? = some 48) && (decide (1 < (b :: l).length) || neg) with
    | true => rw [hc, cond_true] at hz; exact absurd hz (by decide)
    | false =>
      rw [hc, cond_false] at hz
      cases neg with
      | true =>
        have hb : b ≠ 48 := by
          rintro rfl
          simp at hc
        obtain ⟨h1, h2⟩ := dig_canon hd hb
        simp only [cond_true, cond_false] at hz ⊢
        cases hr : decide (decA 0 (b :: l) ≤ 9223372036854775808) with
        | false => rw [hr, cond_false] at hz; exact absurd hz (by decide)
        | true =>
          rw [decide_eq_true_eq] at hr
          simp only [cond_true]
          generalize decA 0 (b :: l) = u at h1 h2 hr
          refine ⟨?_, by omega, by omega⟩
          rw [itoa_neg (by omega), show (-(u : Int)).natAbs = u by omega, h2]
      | false =>
        simp only [cond_false] at hz ⊢
        cases hr : decide (decA 0 (b :: l) < 9223372036854775808) with
        | false => rw [hr, cond_false] at hz; exact absurd hz (by decide)
        | true =>
          rw [decide_eq_true_eq] at hr
          simp only [cond_true]
          have hd2 : Lib.decDigits (decA 0 (b :: l)) = b :: l := by
            by_cases hb : b = 48
            · subst hb
              have hl : l = [] := by
                cases l with
                | nil => rfl
                | cons c l => simp at hc
              subst hl
              have e : decA 0 [48] = 0 := by rw [decA_cons, decA]; rfl
              rw [e, Lib.decDigits, dif_pos (by omega)]; rfl
            · exact (dig_canon hd hb).2
          generalize decA 0 (b :: l) = u at hd2 hr
          refine ⟨?_, by omega, by omega⟩
          rw [itoa_pos (by omega), Int.toNat_natCast, hd2]
theorem calm_five {z : List UInt8} (hz : Calm z) : z = [] ∨ ∃ c z', z = c :: z' ∧ (c = 9 ∨ c = 10 ∨ c = 13 ∨ c = 32 ∨ c = 37) := by
  cases z with
  | nil => exact .inl rfl
  | cons c z' =>
    refine .inr ⟨c, z', rfl, ?_⟩
    rcases hz c z' rfl with h | h
    · unfold sepI at h
      simp only [Bool.or_eq_true, decide_eq_true_eq] at h
      have e : ∀ k : UInt8, (c.toNat : Int) = (k.toNat : Int) → c = k := fun k hk => UInt8.toNat_inj.1 (by omega)
      rcases h with h | h | h | h
      · exact .inl (e 9 h)
      · exact .inr (.inl (e 10 h))
      · exact .inr (.inr (.inl (e 13 h)))
      · exact .inr (.inr (.inr (.inl (e 32 h))))
    · exact .inr (.inr (.inr (.inr h)))
theorem find_calm (x z : List UInt8) (hx : x ∈ signL) (hz : Calm z) : findS (x ++ z) signL = some x := by
  simp only [signL, List.mem_cons, List.not_mem_nil, or_false] at hx
  rcases calm_five hz with rfl | ⟨c, z', rfl, hc⟩
  · rw [List.append_nil]
    rcases hx with rfl | rfl | rfl | rfl | rfl | rfl | rfl | rfl | rfl | rfl | rfl | rfl | rfl | rfl | rfl | rfl | rfl | rfl | rfl | rfl | rfl | rfl | rfl <;> decide
  · rcases hc with rfl | rfl | rfl | rfl | rfl <;>
    rcases hx with rfl | rfl | rfl | rfl | rfl | rfl | rfl | rfl | rfl | rfl | rfl | rfl | rfl | rfl | rfl | rfl | rfl | rfl | rfl | rfl | rfl | rfl | rfl <;> rfl
theorem headDig_calm {z : List UInt8} (hz : Calm z) : headDig z = false := by
  cases z with
  | nil => rfl
  | cons c z' => exact (calm_cls (hz c z' rfl)).2.2
theorem headDig_take {l z : List UInt8} (hz : Calm z) (k : Nat) (h : headDig l = false) : headDig (l.take k ++ z) = false := by
  cases k with
  | zero => rw [List.take_zero, List.nil_append]; exact headDig_calm hz
  | succ k =>
    cases l with
    | nil => rw [List.take_nil, List.nil_append]; exact headDig_calm hz
    | cons d l => rw [List.take_succ_cons]; exact h
theorem headDig_take1 {l z : List UInt8} (k : Nat) (hk : 1 ≤ k) (h : headDig l = true) : headDig (l.take k ++ z) = true := by
  cases l with
  | nil => cases h
  | cons d l =>
    obtain ⟨j, rfl⟩ : ∃ j, k = j + 1 := ⟨k - 1, by omega⟩
    rw [List.take_succ_cons]; exact h
theorem cnt_head {l : List UInt8} (h : headDig l = true) : 1 ≤ cntW digI l := by
  cases l with
  | nil => cases h
  | cons d l =>
    have : digI d.toNat = true := h
    rw [cntW, this, cond_true]; omega
theorem cnt_stop {p : Int → Bool} : ∀ {l : List UInt8}, cntW p l < l.length → ∃ y, l[cntW p l]? = some y ∧ p y.toNat = false
  | [], h => by simp [cntW] at h
  | b :: l, h => by
    rw [cntW] at h ⊢
    cases hp : p b.toNat with
    | false => exact ⟨b, by simp, hp⟩
    | true =>
      rw [hp, cond_true, List.length_cons] at h
      obtain ⟨y, hy, hpy⟩ := cnt_stop (p := p) (l := l) (by omega)
      refine ⟨y, ?_, hpy⟩
      rw [cond_true, Nat.add_comm, List.getElem?_cons_succ]; exact hy
theorem take_bq {l : List UInt8} (h : cntW noBq l < l.length) : l.take (cntW noBq l + 1) = l.take (cntW noBq l) ++ [96] := by
  obtain ⟨y, hy, hp⟩ := cnt_stop h
  rw [noBq_eq] at hp
  have : y = 96 := by simpa using hp
  subst this
  rw [List.take_add_one, hy]; rfl
theorem wordV_ok {kind : Int} {x : List UInt8} {t : Tok} (h : wordV kind x = (t, 0)) : t = ⟨kind, x, 0, 0⟩ := by
  unfold wordV at h
  cases hc : decide ((16 : Int) < (x.length : Int)) with
  | true => rw [hc, cond_true] at h; exact absurd (Prod.mk.inj h).2 (by decide)
  | false => rw [hc, cond_false] at h; exact (Prod.mk.inj h).1.symm
theorem qTok_ok {x : List UInt8} {t : Tok} (h : qTok x = (t, 0)) : ∃ u, t = ⟨4, u, 0, 0⟩ ∧ Sx.quoteL u = x := by
  unfold qTok at h
  cases hu : unqV x with
  | none => rw [hu] at h; exact absurd (Prod.mk.inj h).2 (by decide)
  | some u =>
    rw [hu] at h
    simp only at h
    cases hc : decide ((64 : Int) < (u.length : Int)) with
    | true => rw [hc, cond_true] at h; exact absurd (Prod.mk.inj h).2 (by decide)
    | false => rw [hc, cond_false] at h; exact ⟨u, (Prod.mk.inj h).1.symm, unqV_some.1 hu⟩
theorem signV_ok {r : List UInt8} {t : Tok} {n : Nat} (h : signV r = ((t, 0), n)) : ∃ x, findS r signL = some x ∧ t = ⟨6, x, 0, 0⟩ ∧ n = x.length ∧ x ∈ signL ∧ r.take n = x := by
  unfold signV at h
  cases hf : findS r signL with
  | none => rw [hf] at h; exact absurd (Prod.mk.inj (Prod.mk.inj h).1).2 (by decide)
  | some x =>
    rw [hf] at h
    simp only [Prod.mk.injEq] at h
    obtain ⟨h1, h2⟩ := findS_some hf
    refine ⟨x, rfl, h.1.1.symm, h.2.symm, h1, ?_⟩
    unfold Lib.hasPrefix at h2
    rw [← h.2]
    exact (List.prefix_iff_eq_take.1 (List.isPrefixOf_iff_prefix.1 h2)).symm
theorem b_of {b k : UInt8} (h : decide ((b.toNat : Int) = (k.toNat : Int)) = true) : b = k := by
  rw [decide_eq_true_eq] at h; exact UInt8.toNat_inj.1 (by omega)
theorem allDig_take (l : List UInt8) : allDig (l.take (cntW digI l)) := take_cnt digI l
/-- a token is its own bytes, and is read again from them, whatever separator follows -/
theorem lexL_ok {b : UInt8} {l : List UInt8} {t : Tok} {n : Nat} (h : lexL b l = ((t, 0), n)) :
    1 ≤ n ∧ n ≤ l.length + 1 ∧ t.at_ = 0 ∧ (-9223372036854775808 ≤ t.num ∧ t.num ≤ 9223372036854775807) ∧ b :: l.take (n - 1) = txtV t ∧ ∀ z, Calm z → lexL b (l.take (n - 1) ++ z) = ((t, 0), n) := by
  have hn : (∀ c : UInt8, (sepI c.toNat = true ∨ c = 37) → nameI c.toNat = false) := fun c hc => (calm_cls hc).1
  have hv : (∀ c : UInt8, (sepI c.toNat = true ∨ c = 37) → varI c.toNat = false) := fun c hc => (calm_cls hc).2.1
  have hd : (∀ c : UInt8, (sepI c.toNat = true ∨ c = 37) → digI c.toNat = false) := fun c hc => (calm_cls hc).2.2
  have hz0 : (-9223372036854775808 : Int) ≤ 0 ∧ (0 : Int) ≤ 9223372036854775807 := by decide
  unfold lexL at h ⊢
  cases h1 : lowI b.toNat with
  | true =>
    rw [h1, cond_true] at h
    obtain ⟨ha, rfl⟩ := Prod.mk.inj h
    have ht := wordV_ok ha
    have hc := cntW_le nameI l
    rw [show 1 + cntW nameI l - 1 = cntW nameI l by omega]
    refine ⟨by omega, by omega, by rw [ht], by rw [ht]; exact hz0, by rw [ht]; rfl, fun z hz => ?_⟩
    obtain ⟨e1, e2⟩ := cntW_calm l z hz hn
    rw [cond_true, e1, e2, ha]
  | false =>
  rw [h1, cond_false] at h
  cases h2 : uppI b.toNat with
  | true =>
    rw [h2, cond_true] at h
    obtain ⟨ha, rfl⟩ := Prod.mk.inj h
    have ht := wordV_ok ha
    have hc := cntW_le varI l
    rw [show 1 + cntW varI l - 1 = cntW varI l by omega]
    refine ⟨by omega, by omega, by rw [ht], by rw [ht]; exact hz0, by rw [ht]; rfl, fun z hz => ?_⟩
    obtain ⟨e1, e2⟩ := cntW_calm l z hz hv
    rw [cond_true, cond_false, e1, e2, ha]
  | false =>
  rw [h2, cond_false] at h
  cases h3 : decide ((b.toNat : Int) = 95) with
  | true =>
    rw [h3, cond_true] at h
    obtain ⟨ha, rfl⟩ := Prod.mk.inj h
    have ht := (Prod.mk.inj ha).1
    have hb : b = 95 := b_of (k := 95) h3
    refine ⟨by omega, by omega, by rw [← ht], by rw [← ht]; exact hz0, by rw [← ht, hb]; rfl, fun z hz => ?_⟩
    rw [cond_false, cond_false, cond_true, ha]
  | false =>
  rw [h3, cond_false] at h
  cases h4 : digI b.toNat with
  | true =>
    rw [h4, cond_true] at h
    obtain ⟨ha, rfl⟩ := Prod.mk.inj h
    have hc := cntW_le digI l
    have had : allDig (b :: l.take (cntW digI l)) := fun x hx => by
      rcases List.mem_cons.1 hx with rfl | hx
      · exact h4
      · exact allDig_take l x hx
    obtain ⟨m, e1, e2, e3⟩ := numT_ok (neg := false) had (List.cons_ne_nil _ _) (by rw [ha])
    rw [ha] at e1
    simp only at e1
    rw [show 1 + cntW digI l - 1 = cntW digI l by omega]
    refine ⟨by omega, by omega, by rw [e1], by rw [e1]; exact e3, by rw [e1]; unfold txtV; simp only [cond_false] at e2; exact e2.symm, fun z hz => ?_⟩
    obtain ⟨c1, c2⟩ := cntW_calm l z hz hd
    rw [cond_false, cond_false, cond_false, cond_true, c1, c2, ha]
  | false =>
  rw [h4, cond_false] at h
  cases h5 : decide ((b.toNat : Int) = 45) && headDig l with
  | true =>
    rw [h5, cond_true] at h
    obtain ⟨ha, rfl⟩ := Prod.mk.inj h
    obtain ⟨h51, h52⟩ := Bool.and_eq_true_iff.1 h5
    have hb : b = 45 := b_of (k := 45) h51
    have hc := cntW_le digI l
    have hc1 := cnt_head h52
    have hne : l.take (cntW digI l) ≠ [] := fun e => by
      have := congrArg List.length e
      rw [take_len_cnt, List.length_nil] at this; omega
    obtain ⟨m, e1, e2, e3⟩ := numT_ok (neg := true) (allDig_take l) hne (by rw [ha])
    rw [ha] at e1
    simp only at e1
    rw [show 1 + cntW digI l - 1 = cntW digI l by omega]
    refine ⟨by omega, by omega, by rw [e1], by rw [e1]; exact e3, by rw [e1, hb]; unfold txtV; simp only [cond_true] at e2; exact e2.symm, fun z hz => ?_⟩
    obtain ⟨c1, c2⟩ := cntW_calm l z hz hd
    rw [cond_false, cond_false, cond_false, cond_false, h51, headDig_take1 _ hc1 h52, Bool.and_self, cond_true, c1, c2, ha]
  | false =>
  rw [h5, cond_false] at h
  have h5z : ∀ k z, Calm z → (decide ((b.toNat : Int) = 45) && headDig (l.take k ++ z)) = false := fun k z hz => by
    cases h51 : decide ((b.toNat : Int) = 45) with
    | false => rfl
    | true =>
      rw [h51, Bool.true_and] at h5
      rw [Bool.true_and]; exact headDig_take hz k h5
  cases h6 : decide ((b.toNat : Int) = 34) with
  | true =>
    rw [h6, cond_true] at h
    cases hq : qEnd l with
    | none => rw [hq] at h; exact absurd (Prod.mk.inj (Prod.mk.inj h).1).2 (by decide)
    | some x =>
      rw [hq] at h
      obtain ⟨ha, rfl⟩ := Prod.mk.inj h
      have hx := qEnd_lt' hq
      obtain ⟨u, e1, e2⟩ := qTok_ok ha
      rw [show x + 2 - 1 = x + 1 by omega]
      refine ⟨by omega, by omega, by rw [e1], by rw [e1]; exact hz0, by rw [e1, ← e2]; rfl, fun z hz => ?_⟩
      have hl : (l.take (x + 1)).length = x + 1 := by rw [List.length_take]; omega
      have ht : (l.take (x + 1) ++ z).take (x + 1) = l.take (x + 1) := by
        have := take_app (u := l.take (x + 1)) (z := z)
        rwa [hl] at this
      simp only [h5z _ z hz, qEnd_take _ l (Nat.le_refl _) x hq z, ht, cond_true, cond_false, ha]
  | false =>
  rw [h6, cond_false] at h
  cases h7 : decide ((b.toNat : Int) = 96) with
  | true =>
    rw [h7, cond_true] at h
    have hb : b = 96 := b_of (k := 96) h7
    cases hc : decide (cntW noBq l < l.length) with
    | false => rw [hc, cond_false] at h; exact absurd (Prod.mk.inj (Prod.mk.inj h).1).2 (by decide)
    | true =>
      rw [hc, cond_true] at h
      rw [decide_eq_true_eq] at hc
      obtain ⟨ha, rfl⟩ := Prod.mk.inj h
      have e1 := (Prod.mk.inj ha).1
      have htb := take_bq hc
      rw [show cntW noBq l + 2 - 1 = cntW noBq l + 1 by omega]
      refine ⟨by omega, by omega, by rw [← e1], by rw [← e1]; exact hz0, by rw [← e1, htb, hb]; rfl, fun z hz => ?_⟩
      have hcn : cntW noBq (l.take (cntW noBq l) ++ 96 :: z) = cntW noBq l := by
        have := cntW_app (p := noBq) (u := l.take (cntW noBq l)) (z := 96 :: z) (take_cnt noBq l) (fun c z' e => by cases e; decide)
        rwa [take_len_cnt] at this
      have hl2 : (l.take (cntW noBq l) ++ 96 :: z).take (cntW noBq l) = l.take (cntW noBq l) := by
        have := take_app (u := l.take (cntW noBq l)) (z := 96 :: z)
        rwa [take_len_cnt] at this
      have hlt : cntW noBq l < (l.take (cntW noBq l) ++ 96 :: z).length := by
        rw [List.length_append, take_len_cnt, List.length_cons]; omega
      have h5k := h5z (cntW noBq l + 1) z hz
      rw [htb, List.append_assoc, List.singleton_append] at h5k ⊢
      simp only [h5k, cond_true, cond_false, hcn, hl2, decide_eq_true hlt, ha]
  | false =>
    rw [h7, cond_false] at h
    obtain ⟨x, hf, e1, e2, hx, e3⟩ := signV_ok h
    have hx0 : 1 ≤ x.length := by
      have : ∀ y ∈ signL, 1 ≤ y.length := by decide
      exact this x hx
    have hxl : x.length ≤ l.length + 1 := by
      obtain ⟨_, hp⟩ := findS_some hf
      exact prefix_len hp
    obtain ⟨m, rfl⟩ : ∃ m, n = m + 1 := ⟨n - 1, by omega⟩
    rw [List.take_succ_cons] at e3
    rw [show m + 1 - 1 = m by omega]
    refine ⟨by omega, by omega, by rw [e1], by rw [e1]; exact hz0, by rw [e3, e1]; rfl, fun z hz => ?_⟩
    rw [h5z m z hz]
    simp only [cond_false]
    have : signV (b :: (l.take m ++ z)) = ((t, 0), m + 1) := by
      rw [← List.cons_append, e3]
      unfold signV
      rw [find_calm x z hx hz, e1, e2]
    exact this
end Go.Proofs.YtogponhonjiidaaGreatDoor
set_option linter.unusedSimpArgs false
set_option linter.unusedVariables false
set_option maxRecDepth 20000
set_option maxHeartbeats 16000000
namespace Go.Proofs.YtogponhonjiidaaGreatDoor
open Go Go.Sx
open Nat renaming reduceBEq → zA, reduceBNe → zB, reduceAdd → zC, reduceSub → zD, reduceMul → zE, reduceLeDiff → zF, reduceLT → zG, reduceEqDiff → zH
open Int renaming reduceToNat → zI, reduceLE → zJ, reduceLT → zK, reduceEq → zL
open Bool renaming not_eq_true' → zM, not_eq_false' → zN
def joinV (l : List Tok) : List UInt8 := Lib.join (l.map txtV) [32]
theorem joinTail_snoc (sep x : List UInt8) (r : List (List UInt8)) : Lib.joinTail sep (r ++ [x]) = Lib.joinTail sep r ++ (sep ++ x) := by unfold Lib.joinTail; simp
theorem joinV_snoc (l : List Tok) (t : Tok) : joinV (l ++ [t]) = bif decide (0 < l.length) then (joinV l ++ [32]) ++ txtV t else joinV l ++ txtV t := by
  unfold joinV
  cases l with
  | nil => simp [Lib.join_nil, Lib.join_one]
  | cons a r =>
    rw [List.cons_append, List.map_cons, List.map_append, List.map_cons, List.map_nil, Lib.join_cons, joinTail_snoc, List.map_cons, Lib.join_cons, decide_eq_true (show 0 < (a :: r).length by simp), cond_true]
    simp
theorem joinV_len : ∀ {l : List Tok}, (∀ t ∈ l, TokOk t) → ∀ k, (joinV (l.take k)).length ≤ 50000001 * k
  | l, h, 0 => by simp [joinV, Lib.join_nil]
  | l, h, k + 1 => by
    have ih := joinV_len h k
    by_cases hk : k < l.length
    · rw [List.take_add_one, List.getElem?_eq_getElem hk]
      simp only [Option.toList_some]
      rw [joinV_snoc]
      have := txt_len (h _ (List.getElem_mem hk))
      cases decide (0 < (l.take k).length) <;> simp only [cond_true, cond_false, List.length_append, List.length_cons, List.length_nil] <;> omega
    · rw [List.take_of_length_le (by omega)] at ih ⊢
      omega
theorem str_snoc (l : List (List UInt8)) (s : List UInt8) : l.map encStr ++ [[C.str s]] = (l ++ [s]).map encStr := by rw [List.map_append]; rfl
theorem ptexts_c (l : List Tok) (hl : l.length ≤ 10000) (h : ∀ t ∈ l, TokOk t) : PC Tryz.prog 10 [.one (.dat (.sl 4 (l.map encTok)))] (S (joinV l)) := by
  refine PCB.of_body Tryz.func10 rfl (by decide) Tryz.ntmps10 Tryz.results10 rfl rfl rfl ?_ rfl rfl
  repeat' (first | (simp only [go_sem, zA, zB, zC, zD, zE, zF, zG, reduceCtorEq, zH, zI, zJ, zK, zL, List.length_map]; all_goals fail_if_success guard_target =ₛ False) | (with_reducible first | ((first | refine seqVC_stepN rfl ?_ | refine AWP.seq ?_ | refine AWP.seqR (by kernel_rfl) ?_); intro K hK) | ((first | refine hK _ _ _ ?_ | refine hK _ _ ?_ | refine hK _ ?_); clear hK K) | refine seqVC_nil ?_ | refine AWP.block ?_ | (refine AWP.cond (by with_unfolding_all rfl) ?_ ?_ <;> intro h <;> (try simp only [zM, zN] at h) <;> try exact absurd h (by decide)) | refine AWP.skip ?_ | refine AWP.ret ?_ | refine AWP.exit ?_ | refine Or.inl ?_) | (clear hK K))
  refine AWP.gh (Gh.nilrow 3 900 rfl rfl rfl (by simp [Bx.fresh, Cell.freshs, Cell.fresh])) ?_
  refine AWP.len 6 rfl fun hlen0 => ?_
  (try rw [List.length_map] at hlen0)
  refine AWP.range (S := List (List UInt8)) (l) encTok (fun k s => (8, I .i64 (k : Nat)) :: [(3, .one (.own 900 s.length))]) (fun k s => [(900, .row 1 (s.map encStr))]) [6, 7] [] (fun k s => s = (l.take k).map txtV) ([]) (by simp only [go_sem, zA, zB, zC, zD, zE, zF, zG, reduceCtorEq, zH, zI, zJ, zK, zL]; exact Gh.to [] (by repeat (first | exact trivial | refine ⟨rfl, ?_⟩ | refine ⟨by (simp only [go_sem, zA, zB, zC, zD, zE, zF, zG, reduceCtorEq, zH, zI, zJ, zK, zL, List.length_append, List.length_map, List.length_cons, List.length_nil, Nat.zero_add]) <;> rfl, ?_⟩)) (by repeat (first | exact trivial | refine ⟨rfl, ?_⟩ | refine ⟨by (simp only [go_sem, zA, zB, zC, zD, zE, zF, zG, reduceCtorEq, zH, zI, zJ, zK, zL, List.length_append, List.length_map, List.length_cons, List.length_nil, Nat.zero_add]) <;> rfl, ?_⟩)) rfl rfl rfl) ?_ ?_ ?_
  · rfl
  · intro k s t hlt hx hx' hbb hok
    simp only [go_sem, zA, zB, zC, zD, zE, zF, zG, reduceCtorEq, zH, zI, zJ, zK, zL]
    have hc := ptext_c t (h t (List.mem_of_getElem? hx))
    unfold encTok at hc
    have hsl : s.length ≤ 10000 := by rw [hok, List.length_map, List.length_take]; omega
    have hok' : s ++ [txtV t] = (l.take (k + 1)).map txtV := by rw [List.take_add_one, hx, hok]; simp
    repeat' (first | (simp only [go_sem, zA, zB, zC, zD, zE, zF, zG, reduceCtorEq, zH, zI, zJ, zK, zL, List.length_map, hbb, encTok, str_snoc]; all_goals fail_if_success guard_target =ₛ False) | (with_reducible first | ((first | refine seqVC_stepN rfl ?_ | refine AWP.seq ?_ | refine AWP.seqR (by kernel_rfl) ?_); intro K hK) | ((first | refine hK _ _ _ ?_ | refine hK _ _ ?_ | refine hK _ ?_); clear hK K) | refine seqVC_nil ?_ | refine AWP.block ?_ | (refine AWP.cond (by with_unfolding_all rfl) ?_ ?_ <;> intro h <;> (try simp only [zM, zN] at h) <;> try exact absurd h (by decide)) | refine AWP.skip ?_ | refine AWP.ret ?_ | refine AWP.exit ?_ | refine ⟨_, hc, ?_⟩ | refine ⟨(by omega : _ ≤ _), ?_⟩ | refine ⟨(by omega : _ ≤ _), (by omega : _ ≤ _), ?_⟩ | refine ⟨by omega, encTok t, hx', ?_⟩ | refine ⟨encTok t, hx', ?_⟩ | refine Or.inl ?_) | (clear hK K))
    have hlk : (l.take (k + 1)).length = (s ++ [txtV t]).length := by rw [hok', List.length_map]
    all_goals (rw [wrap_succ hlt hlen0, ← hok', hlk])
    all_goals exact Gh.to [(900, 16)] (by repeat (first | exact trivial | refine ⟨rfl, ?_⟩ | refine ⟨by (simp only [go_sem, zA, zB, zC, zD, zE, zF, zG, reduceCtorEq, zH, zI, zJ, zK, zL, List.length_append, List.length_map, List.length_cons, List.length_nil, Nat.zero_add]) <;> rfl, ?_⟩)) (by repeat (first | exact trivial | refine ⟨rfl, ?_⟩ | refine ⟨by (simp only [go_sem, zA, zB, zC, zD, zE, zF, zG, reduceCtorEq, zH, zI, zJ, zK, zL, List.length_append, List.length_map, List.length_cons, List.length_nil, Nat.zero_add]) <;> rfl, ?_⟩)) rfl rfl rfl
  · intro s hbb hok
    simp only [go_sem, zA, zB, zC, zD, zE, zF, zG, reduceCtorEq, zH, zI, zJ, zK, zL]
    rw [List.take_length] at hok
    subst hok
    have hj := joinV_len h l.length
    rw [List.take_length] at hj
    have hc := join_c (l.map txtV) [32] (by rw [List.length_map]; omega) (by show (joinV l).length ≤ _; omega)
    refine AWP.gh (Gh.freeze 900 rfl rfl (by simp only [go_sem, zA, zB, zC, zD, zE, zF, zG, reduceCtorEq, zH, zI, zJ, zK, zL, List.length_map]) (by simp only [go_sem, zA, zB, zC, zD, zE, zF, zG, reduceCtorEq, zH, zI, zJ, zK, zL, List.length_map])) ?_
    simp only [go_sem, zA, zB, zC, zD, zE, zF, zG, reduceCtorEq, zH, zI, zJ, zK, zL, List.length_map]
    repeat' (first | (simp only [go_sem, zA, zB, zC, zD, zE, zF, zG, reduceCtorEq, zH, zI, zJ, zK, zL, List.length_map, hbb]; all_goals fail_if_success guard_target =ₛ False) | (with_reducible first | ((first | refine seqVC_stepN rfl ?_ | refine AWP.seq ?_ | refine AWP.seqR (by kernel_rfl) ?_); intro K hK) | ((first | refine hK _ _ _ ?_ | refine hK _ _ ?_ | refine hK _ ?_); clear hK K) | refine seqVC_nil ?_ | refine AWP.block ?_ | (refine AWP.cond (by with_unfolding_all rfl) ?_ ?_ <;> intro h <;> (try simp only [zM, zN] at h) <;> try exact absurd h (by decide)) | refine AWP.skip ?_ | refine AWP.ret ?_ | refine AWP.exit ?_ | refine ⟨_, hc, ?_⟩ | refine Or.inl ?_) | (clear hK K))
    all_goals (first | exact fun _ h => absurd h List.not_mem_nil | refine fin0 ?_)
    all_goals rfl
end Go.Proofs.YtogponhonjiidaaGreatDoor
set_option linter.unusedSimpArgs false
set_option linter.unusedVariables false
set_option maxRecDepth 20000
namespace Go.Proofs.YtogponhonjiidaaGreatDoor
open Go Go.Sx
open Nat renaming reduceBEq → zA, reduceBNe → zB, reduceAdd → zC, reduceSub → zD, reduceMul → zE, reduceLeDiff → zF, reduceLT → zG, reduceEqDiff → zH
open Int renaming reduceToNat → zI, reduceLE → zJ, reduceLT → zK, reduceEq → zL
open Bool renaming not_eq_true' → zM, not_eq_false' → zN
/-- a token begins with no separator -/
theorem lexL_head {b : UInt8} {l : List UInt8} {t : Tok} {n : Nat} (h : lexL b l = ((t, 0), n)) : sepI b.toNat = false ∧ decide ((b.toNat : Int) = 37) = false := by
  have no : ∀ c : UInt8, (c = 9 ∨ c = 10 ∨ c = 13 ∨ c = 32 ∨ c = 37) → ∀ l, (lexL c l).1.2 = 5 := by
    rintro c (rfl | rfl | rfl | rfl | rfl) l <;> rfl
  have h5 : ¬ (b = 9 ∨ b = 10 ∨ b = 13 ∨ b = 32 ∨ b = 37) := fun hb => by
    have := no b hb l
    rw [h] at this
    exact absurd (show (0 : Int) = 5 from this) (by decide)
  have e : ∀ k : UInt8, (b.toNat : Int) = (k.toNat : Int) → b = k := fun k hk => UInt8.toNat_inj.1 (by omega)
  constructor
  · cases hs : sepI b.toNat with
    | false => rfl
    | true =>
      exfalso
      unfold sepI at hs
      simp only [Bool.or_eq_true, decide_eq_true_eq] at hs
      rcases hs with hs | hs | hs | hs
      · exact h5 (.inl (e 9 hs))
      · exact h5 (.inr (.inl (e 10 hs)))
      · exact h5 (.inr (.inr (.inl (e 13 hs))))
      · exact h5 (.inr (.inr (.inr (.inl (e 32 hs)))))
  · rw [decide_eq_false_iff_not]
    intro hs
    exact h5 (.inr (.inr (.inr (.inr (e 37 hs)))))
/-- the tokens from k on -/
def Chain (s : List UInt8) : Nat → List Tok → Prop
  | k, [] => s.length ≤ k
  | k, t :: l => ∃ b r n, s.drop k = b :: r ∧ lexL b r = (({ t with at_ := 0 }, 0), n) ∧ t.at_ = (k : Int) ∧ Chain s (skipTo s (k + n)) l
theorem drop_at {s : List UInt8} {k : Nat} {b : UInt8} {r : List UInt8} (h : s.drop k = b :: r) : s[k]? = some b ∧ k < s.length ∧ r.length = s.length - k - 1 := by
  have hl := congrArg List.length h
  rw [List.length_drop, List.length_cons] at hl
  refine ⟨?_, by omega, by omega⟩
  have : (s.drop k)[0]? = some b := by rw [h]; rfl
  rwa [List.getElem?_drop, Nat.add_zero] at this
theorem tok_at0 {t : Tok} (h : t.at_ = 0) (k : Int) : ({ ({ t with at_ := k } : Tok) with at_ := 0 } : Tok) = t := by cases t; simp only at h; subst h; rfl
theorem scan_chain (s : List UInt8) : ∀ (n k : Nat) (acc x : List Tok) (a : Int), s.length < k + n → scanV (quoV s) (encV s) s n k acc = (x, a, 0) → ∃ l, x = acc ++ l ∧ Chain s k l
  | 0, k, acc, x, a, hn, h => ⟨[], by rw [scanV] at h; rw [List.append_nil]; exact (Prod.mk.inj h).1.symm, by show s.length ≤ k; omega⟩
  | n + 1, k, acc, x, a, hn, h => by
    by_cases hk : k < s.length
    · have hd : s.drop k = s[k] :: s.drop (k + 1) := List.drop_eq_getElem_cons hk
      have hb : s[k]? = some s[k] := List.getElem?_eq_getElem hk
      have hx := nextV_lex s k s[k] (s.drop (k + 1)) hd
      obtain ⟨⟨⟨t, e⟩, m⟩, hr⟩ : ∃ r, lexL s[k] (s.drop (k + 1)) = r := ⟨_, rfl⟩
      rw [hr] at hx
      rw [scanV_step _ _ s n k acc hb hx] at h
      cases he : decide (e = 0) with
      | false =>
        rw [he, cond_false] at h
        rw [decide_eq_false_iff_not] at he
        exact absurd (Prod.mk.inj (Prod.mk.inj h).2).2 he
      | true =>
        rw [he, cond_true] at h
        rw [decide_eq_true_eq] at he
        subst he
        obtain ⟨h1, h2, h3, _⟩ := lexL_ok hr
        have hge := skipTo_ge (s := s) (k := k + m)
        obtain ⟨l, e1, e2⟩ := scan_chain s n (skipTo s (k + m)) _ x a (by omega) h
        refine ⟨{ t with at_ := (k : Int) } :: l, by rw [e1, List.append_assoc]; rfl, s[k], s.drop (k + 1), m, hd, ?_, rfl, e2⟩
        rw [tok_at0 h3, hr]
    · refine ⟨[], ?_, by show s.length ≤ k; omega⟩
      rw [scanV_end _ _ s _ _ _ (by omega)] at h
      rw [List.append_nil]; exact (Prod.mk.inj h).1.symm
theorem chain_scan (s : List UInt8) : ∀ (l : List Tok) (n k : Nat) (acc : List Tok), Chain s k l → s.length < k + n → scanV (quoV s) (encV s) s n k acc = (acc ++ l, 0, 0)
  | [], n, k, acc, h, hn => by rw [scanV_end _ _ s _ _ _ h, List.append_nil]
  | t :: l, n, k, acc, h, hn => by
    obtain ⟨b, r, m, hd, hr, hat, hc⟩ := h
    obtain ⟨hb, hk, hrl⟩ := drop_at hd
    obtain ⟨n, rfl⟩ : ∃ j, n = j + 1 := ⟨n - 1, by omega⟩
    have hx := nextV_lex s k b r hd
    rw [hr] at hx
    obtain ⟨h1, h2, h3, _⟩ := lexL_ok hr
    have hge := skipTo_ge (s := s) (k := k + m)
    rw [scanV_step _ _ s n k acc hb hx, decide_eq_true rfl, cond_true, chain_scan s l n _ _ hc (by omega), List.append_assoc]
    have : ({ ({ t with at_ := 0 } : Tok) with at_ := (k : Int) } : Tok) = t := by rw [← hat]
    rw [this]; rfl
theorem scanR_ok {s : List UInt8} (h : (scanR s).2.2 = 0) : s.length ≤ 4000 ∧ Chain s (skipTo s 0) (scanR s).1 := by
  by_cases hl : s.length ≤ 4000
  · refine ⟨hl, ?_⟩
    rw [scan_short s hl] at h ⊢
    obtain ⟨⟨x, a, e⟩, hr⟩ : ∃ r, scanV (quoV s) (encV s) s (s.length + 1) (skipTo s 0) [] = r := ⟨_, rfl⟩
    rw [hr] at h ⊢
    simp only at h
    subst h
    obtain ⟨l, e1, e2⟩ := scan_chain s _ _ _ _ _ (by omega) hr
    simp only [e1, List.nil_append]; exact e2
  · rw [scan_long s (by omega)] at h
    exact absurd h (by decide)
theorem scanR_of {s : List UInt8} {l : List Tok} (hl : s.length ≤ 4000) (h : Chain s (skipTo s 0) l) : scanR s = (l, 0, 0) := by
  rw [scan_short s hl, chain_scan s l _ _ [] h (by omega), List.nil_append]
/-- a token of some text -/
def IsT (t : Tok) : Prop := ∃ b r n, lexL b r = (({ t with at_ := 0 }, 0), n)
theorem chain_isT (s : List UInt8) : ∀ (l : List Tok) (k : Nat), Chain s k l → ∀ t ∈ l, IsT t
  | [], k, h, t, ht => by cases ht
  | u :: l, k, h, t, ht => by
    obtain ⟨b, r, m, hd, hr, hat, hc⟩ := h
    rcases List.mem_cons.1 ht with rfl | ht
    · exact ⟨b, r, m, hr⟩
    · exact chain_isT s l _ hc t ht
theorem txt_at (t : Tok) : txtV { t with at_ := 0 } = txtV t := rfl
theorem isT_ok {t : Tok} (h : IsT t) : ∃ b r n, lexL b r = (({ t with at_ := 0 }, 0), n) ∧ txtV t = b :: r.take (n - 1) ∧ n = (txtV t).length ∧ (sepI b.toNat = false ∧ decide ((b.toNat : Int) = 37) = false) ∧ ∀ z, Calm z → lexL b (r.take (n - 1) ++ z) = (({ t with at_ := 0 }, 0), n) := by
  obtain ⟨b, r, n, hr⟩ := h
  obtain ⟨h1, h2, h3, h4, h5, h6⟩ := lexL_ok hr
  rw [txt_at] at h5
  refine ⟨b, r, n, hr, h5.symm, ?_, lexL_head hr, h6⟩
  rw [← h5, List.length_cons, List.length_take]; omega
/-- the tokens of texts with spaces between them -/
def spT (l : List Tok) : List UInt8 := l.flatMap fun t => 32 :: txtV t
theorem spT_cons (t : Tok) (l : List Tok) : spT (t :: l) = 32 :: (txtV t ++ spT l) := rfl
theorem spT_calm (l : List Tok) : Calm (spT l) := by
  cases l with
  | nil => exact calm_nil
  | cons t l => intro c z' e; rw [spT_cons] at e; cases e; exact .inl (by decide)
theorem joinV_cons (t : Tok) (l : List Tok) : joinV (t :: l) = txtV t ++ spT l := by
  unfold joinV spT
  rw [List.map_cons, Lib.join_cons]
  congr 1
  induction l with
  | nil => rfl
  | cons u l ih => rw [List.map_cons, List.flatMap_cons, ← ih]; unfold Lib.joinTail; simp
theorem back_chain : ∀ (l : List Tok) (t : Tok) (pre : List UInt8), IsT t → (∀ u ∈ l, IsT u) → ∃ l', Chain (pre ++ (txtV t ++ spT l)) pre.length l' ∧ l'.map (er true) = (t :: l).map (er true)
  | l, t, pre, ht, hl => by
    obtain ⟨b, r, n, hr, e1, e2, hb, hz⟩ := isT_ok ht
    have hd : (pre ++ (txtV t ++ spT l)).drop pre.length = b :: (r.take (n - 1) ++ spT l) := by
      rw [List.drop_left, e1]; rfl
    have hlex := hz (spT l) (spT_calm l)
    have hd2 : (pre ++ (txtV t ++ spT l)).drop (pre.length + n) = spT l := by
      rw [← List.drop_drop, List.drop_left, e2, List.drop_left]
    have hsk : skipTo (pre ++ (txtV t ++ spT l)) (pre.length + n) = pre.length + n + skipL (spT l) := by unfold skipTo; rw [hd2]
    cases l with
    | nil =>
      refine ⟨[{ t with at_ := (pre.length : Int) }], ⟨b, _, n, hd, by exact hlex, rfl, ?_⟩, rfl⟩
      show (pre ++ (txtV t ++ spT [])).length ≤ _
      rw [hsk]
      simp only [List.length_append, show spT [] = [] from rfl, List.length_nil]; omega
    | cons u l =>
      obtain ⟨b', r', n', hr', e1', e2', hb', hz'⟩ := isT_ok (hl u List.mem_cons_self)
      have h1 : skipL (spT (u :: l)) = 1 := by
        rw [spT_cons, skipL_32, e1', List.cons_append, skipL_non hb'.1 hb'.2]
      rw [h1] at hsk
      obtain ⟨l', c1, c2⟩ := back_chain l u (pre ++ (txtV t ++ [32])) (hl u List.mem_cons_self) (fun v hv => hl v (List.mem_cons_of_mem _ hv))
      have e : pre ++ (txtV t ++ [32]) ++ (txtV u ++ spT l) = pre ++ (txtV t ++ spT (u :: l)) := by rw [spT_cons]; simp
      have ek : (pre ++ (txtV t ++ [32])).length = pre.length + n + 1 := by simp only [List.length_append, List.length_cons, List.length_nil]; omega
      rw [e, ek] at c1
      refine ⟨{ t with at_ := (pre.length : Int) } :: l', ⟨b, _, n, hd, by exact hlex, rfl, by rw [hsk]; exact c1⟩, ?_⟩
      rw [List.map_cons, c2]; rfl
/-- tokens are read again from their text -/
theorem back_scan (s : List UInt8) (h : (scanR s).2.2 = 0) (hl : (joinV (scanR s).1).length ≤ 4000) :
    (scanR (joinV (scanR s).1)).2.2 = 0 ∧ (scanR (joinV (scanR s).1)).1.map (er true) = (scanR s).1.map (er true) := by
  obtain ⟨_, hc⟩ := scanR_ok h
  have hi := chain_isT s _ _ hc
  generalize (scanR s).1 = x at hl hi
  cases x with
  | nil =>
    have : scanR (joinV []) = ([], 0, 0) := scanR_of (by exact hl) (by show ([] : List UInt8).length ≤ _; exact Nat.zero_le _)
    rw [this]; exact ⟨rfl, rfl⟩
  | cons t l =>
    rw [joinV_cons] at hl ⊢
    obtain ⟨l', c1, c2⟩ := back_chain l t [] (hi t List.mem_cons_self) (fun u hu => hi u (List.mem_cons_of_mem _ hu))
    rw [List.nil_append] at c1
    obtain ⟨b, r, n, hr, e1, e2, hb, hz⟩ := isT_ok (hi t List.mem_cons_self)
    have h0 : skipTo (txtV t ++ spT l) 0 = 0 := by
      unfold skipTo
      rw [List.drop_zero, e1, List.cons_append, skipL_non hb.1 hb.2]
    have := scanR_of (l := l') hl (by rw [h0]; exact c1)
    rw [this]; exact ⟨rfl, c2⟩
theorem wordV_len {kind : Int} {x : List UInt8} {t : Tok} (h : wordV kind x = (t, 0)) : t.text.length ≤ 16 := by
  have ht := wordV_ok h
  unfold wordV at h
  cases hc : decide ((16 : Int) < (x.length : Int)) with
  | true => rw [hc, cond_true] at h; exact absurd (Prod.mk.inj h).2 (by decide)
  | false =>
    rw [decide_eq_false_iff_not] at hc
    rw [ht]; simp only; omega
theorem qTok_len {x : List UInt8} {t : Tok} (h : qTok x = (t, 0)) : t.text.length ≤ 64 := by
  unfold qTok at h
  cases hu : unqV x with
  | none => rw [hu] at h; exact absurd (Prod.mk.inj h).2 (by decide)
  | some u =>
    rw [hu] at h
    simp only at h
    cases hc : decide ((64 : Int) < (u.length : Int)) with
    | true => rw [hc, cond_true] at h; exact absurd (Prod.mk.inj h).2 (by decide)
    | false =>
      rw [hc, cond_false] at h
      rw [decide_eq_false_iff_not] at hc
      rw [← (Prod.mk.inj h).1]; simp only; omega
theorem numT_text (neg : Bool) (d : List UInt8) : (numT neg d).1.text = [] := by
  unfold numT
  cases decide ((numM neg d).2 = 0) <;> rfl
theorem lexL_text {b : UInt8} {l : List UInt8} {t : Tok} {n : Nat} (h : lexL b l = ((t, 0), n)) : t.text.length ≤ l.length + 100 := by
  unfold lexL at h
  cases h1 : lowI b.toNat with
  | true => rw [h1, cond_true] at h; have := wordV_len (Prod.mk.inj h).1; omega
  | false =>
  rw [h1, cond_false] at h
  cases h2 : uppI b.toNat with
  | true => rw [h2, cond_true] at h; have := wordV_len (Prod.mk.inj h).1; omega
  | false =>
  rw [h2, cond_false] at h
  cases h3 : decide ((b.toNat : Int) = 95) with
  | true =>
    rw [h3, cond_true] at h
    rw [← (Prod.mk.inj (Prod.mk.inj h).1).1]; simp only [List.length_cons, List.length_nil]; omega
  | false =>
  rw [h3, cond_false] at h
  cases h4 : digI b.toNat with
  | true =>
    rw [h4, cond_true] at h
    have := numT_text false (b :: l.take (cntW digI l))
    rw [(Prod.mk.inj h).1] at this
    simp only at this
    rw [this]; simp
  | false =>
  rw [h4, cond_false] at h
  cases h5 : decide ((b.toNat : Int) = 45) && headDig l with
  | true =>
    rw [h5, cond_true] at h
    have := numT_text true (l.take (cntW digI l))
    rw [(Prod.mk.inj h).1] at this
    simp only at this
    rw [this]; simp
  | false =>
  rw [h5, cond_false] at h
  cases h6 : decide ((b.toNat : Int) = 34) with
  | true =>
    rw [h6, cond_true] at h
    cases hq : qEnd l with
    | none => rw [hq] at h; exact absurd (Prod.mk.inj (Prod.mk.inj h).1).2 (by decide)
    | some x =>
      rw [hq] at h
      have := qTok_len (Prod.mk.inj h).1; omega
  | false =>
  rw [h6, cond_false] at h
  cases h7 : decide ((b.toNat : Int) = 96) with
  | true =>
    rw [h7, cond_true] at h
    cases hc : decide (cntW noBq l < l.length) with
    | false => rw [hc, cond_false] at h; exact absurd (Prod.mk.inj (Prod.mk.inj h).1).2 (by decide)
    | true =>
      rw [hc, cond_true] at h
      rw [← (Prod.mk.inj (Prod.mk.inj h).1).1]; simp only [List.length_take]; omega
  | false =>
    rw [h7, cond_false] at h
    obtain ⟨x, hf, e1, e2, hx, e3⟩ := signV_ok h
    have : ∀ y ∈ signL, y.length ≤ 2 := by decide
    have := this x hx
    rw [e1]; simp only; omega
/-- the tokens of a text: how many, how long -/
theorem chain_bd (s : List UInt8) (hs : s.length ≤ 4000) : ∀ (l : List Tok) (k : Nat), k ≤ s.length → Chain s k l → (∀ t ∈ l, TokOk t) ∧ (spT l).length + 2 * k ≤ 2 * s.length ∧ l.length + k ≤ s.length
  | [], k, hk, h => ⟨fun t ht => (by cases ht), by show ([] : List UInt8).length + _ ≤ _; simp only [List.length_nil]; omega, by simp only [List.length_nil]; omega⟩
  | t :: l, k, hk, h => by
    obtain ⟨b, r, n, hd, hr, hat, hc⟩ := h
    obtain ⟨hb, hlt, hrl⟩ := drop_at hd
    obtain ⟨h1, h2, h3, h4, h5, h6⟩ := lexL_ok hr
    have htx := lexL_text hr
    simp only at htx
    rw [txt_at] at h5
    have hn : (txtV t).length = n := by rw [← h5, List.length_cons, List.length_take]; omega
    have hge := skipTo_ge (s := s) (k := k + n)
    obtain ⟨i1, i2, i3⟩ := chain_bd s hs l _ (skipTo_le (by omega)) hc
    refine ⟨fun u hu => ?_, ?_, ?_⟩
    · rcases List.mem_cons.1 hu with rfl | hu
      · exact ⟨h4.1, h4.2, by omega⟩
      · exact i1 u hu
    · rw [spT_cons, List.length_cons, List.length_append, hn]; omega
    · rw [List.length_cons]; omega
theorem tok_facts (x : List UInt8) (h : (scanR x).2.2 = 0) : (∀ t ∈ (scanR x).1, TokOk t) ∧ (scanR x).1.length ≤ 10000 ∧ (joinV (scanR x).1).length ≤ 8000 := by
  obtain ⟨h1, h2⟩ := scanR_ok h
  obtain ⟨i1, i2, i3⟩ := chain_bd x h1 _ _ (skipTo_le (Nat.zero_le _)) h2
  refine ⟨i1, by omega, ?_⟩
  generalize (scanR x).1 = l at i2
  cases l with
  | nil => show ([] : List UInt8).length ≤ _; simp
  | cons t l =>
    rw [joinV_cons]
    rw [spT_cons, List.length_cons] at i2; omega
end Go.Proofs.YtogponhonjiidaaGreatDoor
set_option linter.unusedSimpArgs false
set_option linter.unusedVariables false
set_option maxRecDepth 20000
set_option maxHeartbeats 16000000
namespace Go.Proofs.YtogponhonjiidaaGreatDoor
open Go Go.Sx
open Nat renaming reduceBEq → zA, reduceBNe → zB, reduceAdd → zC, reduceSub → zD, reduceMul → zE, reduceLeDiff → zF, reduceLT → zG, reduceEqDiff → zH
open Int renaming reduceToNat → zI, reduceLE → zJ, reduceLT → zK, reduceEq → zL
open Bool renaming not_eq_true' → zM, not_eq_false' → zN
theorem tokenBack_c (l : List Int) (hl : l.length ≤ 9223372036854775807) (h : InI l) (at_ how : Int) (c : UInt8) (n : List Int) : PC Tryz.prog 4 [.one (.dat (.sl 1 (l.map encZ))), I .i64 at_, I .i64 how, .one (.dat (.int .u8 (c.toNat : Int))), .one (.dat (.sl 1 (n.map encI)))] (Bo true) := by
  have htl := textV_len l h
  have hsp := spoilV_len (textV l) at_ how c
  have hm := made_c l hl h at_ how c
  obtain ⟨s2, hs2, hp⟩ := pieces_c n
  have haw := awake_c
  generalize spoilV (textV l) at_ how c = s1 at hsp hm
  refine PCB.of_body Tryz.func4 rfl (by decide) Tryz.ntmps4 Tryz.results4 rfl rfl rfl ?_ rfl rfl
  repeat' (first | (simp only [go_sem, zA, zB, zC, zD, zE, zF, zG, reduceCtorEq, zH, zI, zJ, zK, zL, List.length_map, List.length_cons, List.length_nil]; all_goals fail_if_success guard_target =ₛ False) | (with_reducible first | ((first | refine seqVC_stepN rfl ?_ | refine seqVC_stepG rfl (by with_unfolding_all rfl) ?_ | refine AWP.seq ?_ | refine AWP.seqR (by kernel_rfl) ?_); intro K hK) | ((first | refine hK _ _ _ ?_ | refine hK _ _ ?_ | refine hK _ ?_); clear hK K) | refine seqVC_nil ?_ | refine AWP.block ?_ | (refine AWP.cond (by with_unfolding_all rfl) ?_ ?_ <;> intro h <;> (try simp only [zM, zN] at h) <;> try exact absurd h (by decide)) | refine AWP.skip ?_ | refine AWP.ret ?_ | refine AWP.exit ?_ | (refine ⟨fun h => ?_, fun h => ?_⟩ <;> (try simp only [zM, zN] at h) <;> try simp only [h]) | refine ⟨_, hm, ?_⟩ | refine ⟨_, hp, ?_⟩ | refine Or.inl ?_) | (clear hK K))
  refine AWP.len 27 rfl fun hlen0 => ?_
  (try rw [List.length_map] at hlen0)
  refine AWP.range (S := Unit) ([s1, s2]) encStr (fun k u => (29, I .i64 (k : Nat)) :: []) (fun k u => []) [27, 28] [] (fun k u => True) (()) (by simp only [go_sem, zA, zB, zC, zD, zE, zF, zG, reduceCtorEq, zH, zI, zJ, zK, zL]; exact Gh.to [] (by repeat (first | exact trivial | refine ⟨rfl, ?_⟩ | refine ⟨by (simp only [go_sem, zA, zB, zC, zD, zE, zF, zG, reduceCtorEq, zH, zI, zJ, zK, zL, List.length_append, List.length_map, List.length_cons, List.length_nil, Nat.zero_add]) <;> rfl, ?_⟩)) (by repeat (first | exact trivial | refine ⟨rfl, ?_⟩ | refine ⟨by (simp only [go_sem, zA, zB, zC, zD, zE, zF, zG, reduceCtorEq, zH, zI, zJ, zK, zL, List.length_append, List.length_map, List.length_cons, List.length_nil, Nat.zero_add]) <;> rfl, ?_⟩)) rfl rfl rfl) ?_ ?_ ?_
  · trivial
  · intro k u x hlt hx hx' hbb hok
    simp only [go_sem, zA, zB, zC, zD, zE, zF, zG, reduceCtorEq, zH, zI, zJ, zK, zL]
    have hxl : x.length ≤ 300000 := by
      have hmem := List.mem_of_getElem? hx
      simp only [List.mem_cons, List.not_mem_nil, or_false] at hmem
      rcases hmem with rfl | rfl <;> omega
    have h1 := pscan_c x (by omega)
    have hk2 : k < 2 := hlt
    have hb2 : decide ((k : Int) < 2) = true := by rw [decide_eq_true_eq]; omega
    have hx2 : [[C.str s1], [C.str s2]][k]? = some [C.str x] := hx'
    cases hc : decide ((scanR x).2.2 = 0) with
    | false =>
      repeat' (first | (simp only [go_sem, zA, zB, zC, zD, zE, zF, zG, reduceCtorEq, zH, zI, zJ, zK, zL, List.length_map, hb2, hc]; all_goals fail_if_success guard_target =ₛ False) | (with_reducible first | ((first | refine seqVC_stepN rfl ?_ | refine seqVC_stepG rfl (by with_unfolding_all rfl) ?_ | refine AWP.seq ?_ | refine AWP.seqR (by kernel_rfl) ?_); intro K hK) | ((first | refine hK _ _ _ ?_ | refine hK _ _ ?_ | refine hK _ ?_); clear hK K) | refine seqVC_nil ?_ | refine AWP.block ?_ | (refine AWP.cond (by with_unfolding_all rfl) ?_ ?_ <;> intro h <;> (try simp only [zM, zN] at h) <;> try exact absurd h (by decide)) | refine AWP.skip ?_ | refine AWP.ret ?_ | refine AWP.exit ?_ | (refine ⟨fun h => ?_, fun h => ?_⟩ <;> (try simp only [zM, zN] at h) <;> try simp only [h]) | refine ⟨_, h1, ?_⟩) | ( refine ⟨by omega, [C.str x], hx2, ?_⟩) | ( refine ⟨[C.str x], hx2, ?_⟩) | (with_reducible first | refine Or.inl ?_) | (clear hK K))
      all_goals (rw [wrap_succ hlt hlen0])
      all_goals first | exact ⟨(), trivial, Gh.to [] (by repeat (first | exact trivial | refine ⟨rfl, ?_⟩ | refine ⟨by (simp only [go_sem, zA, zB, zC, zD, zE, zF, zG, reduceCtorEq, zH, zI, zJ, zK, zL, List.length_append, List.length_map, List.length_cons, List.length_nil, Nat.zero_add]) <;> rfl, ?_⟩)) (by repeat (first | exact trivial | refine ⟨rfl, ?_⟩ | refine ⟨by (simp only [go_sem, zA, zB, zC, zD, zE, zF, zG, reduceCtorEq, zH, zI, zJ, zK, zL, List.length_append, List.length_map, List.length_cons, List.length_nil, Nat.zero_add]) <;> rfl, ?_⟩)) rfl rfl rfl⟩ | exact ⟨(), Gh.to [] (by repeat (first | exact trivial | refine ⟨rfl, ?_⟩ | refine ⟨by (simp only [go_sem, zA, zB, zC, zD, zE, zF, zG, reduceCtorEq, zH, zI, zJ, zK, zL, List.length_append, List.length_map, List.length_cons, List.length_nil, Nat.zero_add]) <;> rfl, ?_⟩)) (by repeat (first | exact trivial | refine ⟨rfl, ?_⟩ | refine ⟨by (simp only [go_sem, zA, zB, zC, zD, zE, zF, zG, reduceCtorEq, zH, zI, zJ, zK, zL, List.length_append, List.length_map, List.length_cons, List.length_nil, Nat.zero_add]) <;> rfl, ?_⟩)) rfl rfl rfl⟩ | exact Gh.to [] (by repeat (first | exact trivial | refine ⟨rfl, ?_⟩ | refine ⟨by (simp only [go_sem, zA, zB, zC, zD, zE, zF, zG, reduceCtorEq, zH, zI, zJ, zK, zL, List.length_append, List.length_map, List.length_cons, List.length_nil, Nat.zero_add]) <;> rfl, ?_⟩)) (by repeat (first | exact trivial | refine ⟨rfl, ?_⟩ | refine ⟨by (simp only [go_sem, zA, zB, zC, zD, zE, zF, zG, reduceCtorEq, zH, zI, zJ, zK, zL, List.length_append, List.length_map, List.length_cons, List.length_nil, Nat.zero_add]) <;> rfl, ?_⟩)) rfl rfl rfl
    | true =>
      have hc0 : (scanR x).2.2 = 0 := by simpa using hc
      obtain ⟨f1, f2, f3⟩ := tok_facts x hc0
      have h2 := ptexts_c _ f2 f1
      have h3 := pscan_c (joinV (scanR x).1) (by omega)
      cases hle : decide (((joinV (scanR x).1).length : Int) ≤ 4000) with
      | false =>
        repeat' (first | (simp only [go_sem, zA, zB, zC, zD, zE, zF, zG, reduceCtorEq, zH, zI, zJ, zK, zL, List.length_map, hb2, hc, hle]; all_goals fail_if_success guard_target =ₛ False) | (with_reducible first | ((first | refine seqVC_stepN rfl ?_ | refine seqVC_stepG rfl (by with_unfolding_all rfl) ?_ | refine AWP.seq ?_ | refine AWP.seqR (by kernel_rfl) ?_); intro K hK) | ((first | refine hK _ _ _ ?_ | refine hK _ _ ?_ | refine hK _ ?_); clear hK K) | refine seqVC_nil ?_ | refine AWP.block ?_ | (refine AWP.cond (by with_unfolding_all rfl) ?_ ?_ <;> intro h <;> (try simp only [zM, zN] at h) <;> try exact absurd h (by decide)) | refine AWP.skip ?_ | refine AWP.ret ?_ | refine AWP.exit ?_ | (refine ⟨fun h => ?_, fun h => ?_⟩ <;> (try simp only [zM, zN] at h) <;> try simp only [h]) | refine ⟨_, h1, ?_⟩ | refine ⟨_, h2, ?_⟩ | refine ⟨_, h3, ?_⟩) | ( refine ⟨by omega, [C.str x], hx2, ?_⟩) | ( refine ⟨[C.str x], hx2, ?_⟩) | (with_reducible first | refine Or.inl ?_) | (clear hK K))
        all_goals (rw [wrap_succ hlt hlen0])
        all_goals first | exact ⟨(), trivial, Gh.to [] (by repeat (first | exact trivial | refine ⟨rfl, ?_⟩ | refine ⟨by (simp only [go_sem, zA, zB, zC, zD, zE, zF, zG, reduceCtorEq, zH, zI, zJ, zK, zL, List.length_append, List.length_map, List.length_cons, List.length_nil, Nat.zero_add]) <;> rfl, ?_⟩)) (by repeat (first | exact trivial | refine ⟨rfl, ?_⟩ | refine ⟨by (simp only [go_sem, zA, zB, zC, zD, zE, zF, zG, reduceCtorEq, zH, zI, zJ, zK, zL, List.length_append, List.length_map, List.length_cons, List.length_nil, Nat.zero_add]) <;> rfl, ?_⟩)) rfl rfl rfl⟩ | exact ⟨(), Gh.to [] (by repeat (first | exact trivial | refine ⟨rfl, ?_⟩ | refine ⟨by (simp only [go_sem, zA, zB, zC, zD, zE, zF, zG, reduceCtorEq, zH, zI, zJ, zK, zL, List.length_append, List.length_map, List.length_cons, List.length_nil, Nat.zero_add]) <;> rfl, ?_⟩)) (by repeat (first | exact trivial | refine ⟨rfl, ?_⟩ | refine ⟨by (simp only [go_sem, zA, zB, zC, zD, zE, zF, zG, reduceCtorEq, zH, zI, zJ, zK, zL, List.length_append, List.length_map, List.length_cons, List.length_nil, Nat.zero_add]) <;> rfl, ?_⟩)) rfl rfl rfl⟩ | exact Gh.to [] (by repeat (first | exact trivial | refine ⟨rfl, ?_⟩ | refine ⟨by (simp only [go_sem, zA, zB, zC, zD, zE, zF, zG, reduceCtorEq, zH, zI, zJ, zK, zL, List.length_append, List.length_map, List.length_cons, List.length_nil, Nat.zero_add]) <;> rfl, ?_⟩)) (by repeat (first | exact trivial | refine ⟨rfl, ?_⟩ | refine ⟨by (simp only [go_sem, zA, zB, zC, zD, zE, zF, zG, reduceCtorEq, zH, zI, zJ, zK, zL, List.length_append, List.length_map, List.length_cons, List.length_nil, Nat.zero_add]) <;> rfl, ?_⟩)) rfl rfl rfl
      | true =>
        obtain ⟨b1, b2⟩ := back_scan x hc0 (by rw [decide_eq_true_eq] at hle; omega)
        have hb1 : decide ((scanR (joinV (scanR x).1)).2.2 = 0) = true := by rw [b1]; rfl
        have h4 := same_c (scanR x).1 (scanR (joinV (scanR x).1)).1 true (by omega) b2.symm
        repeat' (first | (simp only [go_sem, zA, zB, zC, zD, zE, zF, zG, reduceCtorEq, zH, zI, zJ, zK, zL, List.length_map, hb2, hc, hle, hb1]; all_goals fail_if_success guard_target =ₛ False) | (with_reducible first | ((first | refine seqVC_stepN rfl ?_ | refine seqVC_stepG rfl (by with_unfolding_all rfl) ?_ | refine AWP.seq ?_ | refine AWP.seqR (by kernel_rfl) ?_); intro K hK) | ((first | refine hK _ _ _ ?_ | refine hK _ _ ?_ | refine hK _ ?_); clear hK K) | refine seqVC_nil ?_ | refine AWP.block ?_ | (refine AWP.cond (by with_unfolding_all rfl) ?_ ?_ <;> intro h <;> (try simp only [zM, zN] at h) <;> try exact absurd h (by decide)) | refine AWP.skip ?_ | refine AWP.ret ?_ | refine AWP.exit ?_ | (refine ⟨fun h => ?_, fun h => ?_⟩ <;> (try simp only [zM, zN] at h) <;> try simp only [h]) | refine ⟨_, h1, ?_⟩ | refine ⟨_, h2, ?_⟩ | refine ⟨_, h3, ?_⟩ | refine ⟨_, h4, ?_⟩) | ( refine ⟨by omega, [C.str x], hx2, ?_⟩) | ( refine ⟨[C.str x], hx2, ?_⟩) | (with_reducible first | refine Or.inl ?_) | (clear hK K))
        all_goals (rw [wrap_succ hlt hlen0])
        all_goals first | exact ⟨(), trivial, Gh.to [] (by repeat (first | exact trivial | refine ⟨rfl, ?_⟩ | refine ⟨by (simp only [go_sem, zA, zB, zC, zD, zE, zF, zG, reduceCtorEq, zH, zI, zJ, zK, zL, List.length_append, List.length_map, List.length_cons, List.length_nil, Nat.zero_add]) <;> rfl, ?_⟩)) (by repeat (first | exact trivial | refine ⟨rfl, ?_⟩ | refine ⟨by (simp only [go_sem, zA, zB, zC, zD, zE, zF, zG, reduceCtorEq, zH, zI, zJ, zK, zL, List.length_append, List.length_map, List.length_cons, List.length_nil, Nat.zero_add]) <;> rfl, ?_⟩)) rfl rfl rfl⟩ | exact ⟨(), Gh.to [] (by repeat (first | exact trivial | refine ⟨rfl, ?_⟩ | refine ⟨by (simp only [go_sem, zA, zB, zC, zD, zE, zF, zG, reduceCtorEq, zH, zI, zJ, zK, zL, List.length_append, List.length_map, List.length_cons, List.length_nil, Nat.zero_add]) <;> rfl, ?_⟩)) (by repeat (first | exact trivial | refine ⟨rfl, ?_⟩ | refine ⟨by (simp only [go_sem, zA, zB, zC, zD, zE, zF, zG, reduceCtorEq, zH, zI, zJ, zK, zL, List.length_append, List.length_map, List.length_cons, List.length_nil, Nat.zero_add]) <;> rfl, ?_⟩)) rfl rfl rfl⟩ | exact Gh.to [] (by repeat (first | exact trivial | refine ⟨rfl, ?_⟩ | refine ⟨by (simp only [go_sem, zA, zB, zC, zD, zE, zF, zG, reduceCtorEq, zH, zI, zJ, zK, zL, List.length_append, List.length_map, List.length_cons, List.length_nil, Nat.zero_add]) <;> rfl, ?_⟩)) (by repeat (first | exact trivial | refine ⟨rfl, ?_⟩ | refine ⟨by (simp only [go_sem, zA, zB, zC, zD, zE, zF, zG, reduceCtorEq, zH, zI, zJ, zK, zL, List.length_append, List.length_map, List.length_cons, List.length_nil, Nat.zero_add]) <;> rfl, ?_⟩)) rfl rfl rfl
  · intro u hbb hok
    simp only [go_sem, zA, zB, zC, zD, zE, zF, zG, reduceCtorEq, zH, zI, zJ, zK, zL]
    have hb2 : decide ((2 : Int) < 2) = false := by decide
    repeat' (first | (simp only [go_sem, zA, zB, zC, zD, zE, zF, zG, reduceCtorEq, zH, zI, zJ, zK, zL, List.length_map, List.length_cons, List.length_nil, hb2]; all_goals fail_if_success guard_target =ₛ False) | (with_reducible first | ((first | refine seqVC_stepN rfl ?_ | refine seqVC_stepG rfl (by with_unfolding_all rfl) ?_ | refine AWP.seq ?_ | refine AWP.seqR (by kernel_rfl) ?_); intro K hK) | ((first | refine hK _ _ _ ?_ | refine hK _ _ ?_ | refine hK _ ?_); clear hK K) | refine seqVC_nil ?_ | refine AWP.block ?_ | (refine AWP.cond (by with_unfolding_all rfl) ?_ ?_ <;> intro h <;> (try simp only [zM, zN] at h) <;> try exact absurd h (by decide)) | refine AWP.skip ?_ | refine AWP.ret ?_ | refine AWP.exit ?_ | (refine ⟨fun h => ?_, fun h => ?_⟩ <;> (try simp only [zM, zN] at h) <;> try simp only [h]) | refine ⟨_, haw, ?_⟩ | refine Or.inl ?_) | (clear hK K))
    all_goals exact fun x hx => hx
end Go.Proofs.YtogponhonjiidaaGreatDoor
