/- A part of the proof: lemmas about the walk of the program and about plain integers and lists. No conditions beyond those that each lemma states. -/
import Derived.Test.YthpndlinlhapgaaDq7
import Derived.Lib.Bytealg
import Derived.Lib.Walk
import Derived.Test.YthpndlinlhapgaaDq6
set_option linter.unusedVariables false
namespace Go.Sx
variable {P : Program} {n : Nat} {Q : Exit → AS → Prop}
/-- equality that the walk's rewriting leaves alone -/
def Is {α : Type} (a b : α) : Prop := a = b
/-- the boxes of these names -/
def keepB (B : Bx) : List Nat → Bx
  | [] => []
  | d :: ds => match B.lookup d with
    | some t => (d, t) :: keepB B ds
    | none => keepB B ds
attribute [go_sem] keepB
/-- a loop of which only some slots and boxes change -/
theorem AWP.loopF {c : Code} {env : Env} {B : Bx} {X : Type} (chg : X → Env) (chB : X → Bx) (ks kb : List Nat) (ok : X → Prop) (meas : X → Nat) (x₀ : X)
    (hs : Gh n ⟨env, B⟩ ⟨chg x₀ ++ keepL env ks, chB x₀ ++ keepB B kb⟩) (h₀ : ok x₀)
    (round : ∀ x, ok x → AWP P n c ⟨chg x ++ keepL env ks, chB x ++ keepB B kb⟩ (Then (fun σ' => ∃ x', meas x' < meas x ∧ ok x' ∧ Gh n σ' ⟨chg x' ++ keepL env ks, chB x' ++ keepB B kb⟩) Q)) : AWP P n (.loop c) ⟨env, B⟩ Q :=
  AWP.loopS (fun x => chg x ++ keepL env ks) (fun x => chB x ++ keepB B kb) ok meas x₀ hs h₀ round
/-- a range over a list -/
theorem AWP.range {c : Code} {env : Env} {B : Bx} {α S : Type} (l : List α) (enc : α → List C) (chg : Nat → S → Env) (chB : Nat → S → Bx) (ks kb : List Nat) (ok : Nat → S → Prop) (s₀ : S)
    (hs : Gh n ⟨env, B⟩ ⟨chg 0 s₀ ++ keepL env ks, chB 0 s₀ ++ keepB B kb⟩) (h₀ : ok 0 s₀)
    (step : ∀ (k : Nat) (s : S) (x : α), k < l.length → l[k]? = some x → (l.map enc)[k]? = some (enc x) → decide ((k : Int) < (l.length : Int)) = true → ok k s →
      AWP P n c ⟨chg k s ++ keepL env ks, chB k s ++ keepB B kb⟩ (Then (fun σ' => ∃ s', ok (k + 1) s' ∧ Gh n σ' ⟨chg (k + 1) s' ++ keepL env ks, chB (k + 1) s' ++ keepB B kb⟩) Q))
    (done : ∀ s : S, decide ((l.length : Int) < (l.length : Int)) = false → ok l.length s → AWP P n c ⟨chg l.length s ++ keepL env ks, chB l.length s ++ keepB B kb⟩ (Then (fun _ => False) Q)) : AWP P n (.loop c) ⟨env, B⟩ Q := by
  refine AWP.loopF (X := Nat × S) (fun x => chg x.1 x.2) (fun x => chB x.1 x.2) ks kb (fun x => x.1 ≤ l.length ∧ ok x.1 x.2) (fun x => l.length - x.1) (0, s₀) hs ⟨Nat.zero_le _, h₀⟩ ?_
  rintro ⟨k, s⟩ ⟨hk, hok⟩
  simp only at hk hok ⊢
  by_cases hlt : k < l.length
  · obtain ⟨x, hx, hx', hb, _⟩ := at_lt (enc := enc) hlt
    refine (step k s x hlt hx hx' hb hok).mono ?_
    intro e σ' hq
    cases e with
    | normal => obtain ⟨s', h1, h2⟩ := hq; exact ⟨(k + 1, s'), by simp only; omega, ⟨by simp only; omega, h1⟩, h2⟩
    | exit id => exact hq
    | goto l => exact hq
    | ret => exact hq
    | panic ch => exact hq
    | outgrown => exact hq
  · have : k = l.length := by omega
    subst this
    refine (done s (by simp) hok).mono ?_
    intro e σ' hq
    cases e with
    | normal => exact hq.elim
    | exit id => exact hq
    | goto l => exact hq
    | ret => exact hq
    | panic ch => exact hq
    | outgrown => exact hq
theorem Cell.reps_get {M : Mem} {ν : Nu} : ∀ {cs : List Cell} {vs : List Value} {j : Nat} {c : Cell}, Cell.reps M ν cs vs → cs[j]? = some c → ∃ v, Cell.rep M ν c v
  | [], _, j, c, _, h => by simp at h
  | d :: cs, vs, 0, c, h, e => by
    simp only [Cell.reps] at h
    obtain ⟨v, vs', _, h1, _⟩ := h
    simp at e; subst e
    exact ⟨v, h1⟩
  | d :: cs, vs, j + 1, c, h, e => by
    simp only [Cell.reps] at h
    obtain ⟨v, vs', _, _, h2⟩ := h
    exact Cell.reps_get h2 (by simpa using e)
/-- a slice in a box is no longer than an int can tell -/
theorem AWP.lenB {c : Code} {env : Env} {B : Bx} (k j : Nat) {cs : List Cell} {sz : Nat} {rows : List (List C)} (hb : B.lookup k = some (.cells cs)) (hj : cs[j]? = some (.dat (.sl sz rows)))
    (h : rows.length ≤ 9223372036854775807 → AWP P n c ⟨env, B⟩ Q) : AWP P n c ⟨env, B⟩ Q := by
  intro κ M0 a w s
  refine h ?_ κ M0 a w s
  obtain ⟨M, ν, _, _, _, _, h5, _⟩ := s
  have := h5.res k _ (lookup_box hb)
  obtain ⟨b, c, et, _, _, hr⟩ := this
  obtain ⟨v, hv⟩ := Cell.reps_get hr hj
  simp only [Cell.rep, C.rep] at hv
  obtain ⟨_, cap, _, _, h1, h2, _⟩ := hv
  unfold maxLen at h2
  omega
end Go.Sx
set_option linter.unusedSimpArgs false
set_option linter.unusedVariables false
set_option maxRecDepth 20000
set_option maxHeartbeats 1000000
namespace Go.Proofs.Ythpndlinlhapgaa
open Go Go.Sx
open Bool renaming not_eq_true' → zM, not_eq_false' → zN
theorem isLower_c (b : UInt8) : PC Try.prog 53 [I .u8 b.toNat] (Bo (lowB b)) := by
  refine PCB.ob Try.func53 Try.ntmps53 Try.results53 ?_
  repeat' (first | (simp only [go_sem]; all_goals refine nf ?_) | (refine stp ?_; intro K hK) | (apply hK; clear hK K) | refine stn ?_ | (refine AWP.cnd ?_ ?_ <;> intro h <;> (try simp only [zM, zN] at h)) | (refine ⟨fun h => ?_, fun h => ?_⟩ <;> (try simp only [zM, zN] at h) <;> try simp only [h]) | refine stq ?_ | (clear hK K))
  all_goals (refine fin0 ?_; simp only [lowB, h, Bool.true_and, Bool.false_and])
theorem isDigit_c (b : UInt8) : PC Try.prog 55 [I .u8 b.toNat] (Bo (digB b)) := by
  refine PCB.ob Try.func55 Try.ntmps55 Try.results55 ?_
  repeat' (first | (simp only [go_sem]; all_goals refine nf ?_) | (refine stp ?_; intro K hK) | (apply hK; clear hK K) | refine stn ?_ | (refine AWP.cnd ?_ ?_ <;> intro h <;> (try simp only [zM, zN] at h)) | (refine ⟨fun h => ?_, fun h => ?_⟩ <;> (try simp only [zM, zN] at h) <;> try simp only [h]) | refine stq ?_ | (clear hK K))
  all_goals (refine fin0 ?_; simp only [digB, h, Bool.true_and, Bool.false_and])
theorem atomTail_c (b : UInt8) : PC Try.prog 54 [I .u8 b.toNat] (Bo (tailB b)) := by
  refine PCB.ob Try.func54 Try.ntmps54 Try.results54 ?_
  repeat' (first | (simp only [go_sem]; all_goals refine nf ?_) | (refine stp ?_; intro K hK) | (apply hK; clear hK K) | refine stn ?_ | (refine AWP.cnd ?_ ?_ <;> intro h <;> (try simp only [zM, zN] at h)) | (refine ⟨fun h => ?_, fun h => ?_⟩ <;> (try simp only [zM, zN] at h) <;> try simp only [h]) | (with_reducible first | refine ⟨_, isLower_c _, ?_⟩ | refine ⟨_, isDigit_c _, ?_⟩) | refine stq ?_ | (clear hK K))
  all_goals (refine fin0 ?_; simp only [tailB, *, Bool.true_or, Bool.false_or])
def nameB (p q : UInt8 → Bool) (s : List UInt8) : Bool := !(decide ((s.length : Int) < 1) || (decide ((16 : Int) < (s.length : Int)) || !p (s.headD 0))) && (s.drop 1).all q
theorem isName_c (s : List UInt8) (g h : FuncId) (p q : UInt8 → Bool) (hg : ∀ b : UInt8, PC Try.prog g [I .u8 b.toNat] (Bo (p b))) (hh : ∀ b : UInt8, PC Try.prog h [I .u8 b.toNat] (Bo (q b))) :
    PC Try.prog 52 [S s, .one (.dat (.fn g)), .one (.dat (.fn h))] (Bo (nameB p q s)) := by
  refine PCB.ob Try.func52 Try.ntmps52 Try.results52 ?_
  cases hl1 : decide ((s.length : Int) < 1) with
  | true =>
    repeat' (first | (simp only [go_sem, hl1]; all_goals refine nf ?_) | (refine stp ?_; intro K hK) | (apply hK; clear hK K) | refine stn ?_ | (refine AWP.cnd ?_ ?_ <;> intro h <;> (try simp only [zM, zN] at h)) | (refine ⟨fun h => ?_, fun h => ?_⟩ <;> (try simp only [zM, zN] at h) <;> try simp only [h]) | refine stq ?_ | (clear hK K))
    all_goals (first | exact fun _ h => absurd h List.not_mem_nil | refine fin0 ?_)
    all_goals simp only [nameB, hl1, Bool.true_or, Bool.not_true, Bool.false_and]
  | false =>
    have hpos : 0 < s.length := by simp only [decide_eq_false_iff_not] at hl1; omega
    obtain ⟨b, hb0⟩ : ∃ b, s[0]? = some b := ⟨s[0], by simp [hpos]⟩
    have hhd : s.headD 0 = b := by cases s <;> simp at hb0 hpos ⊢; exact hb0
    cases hlong : decide ((16 : Int) < (s.length : Int)) with
    | true =>
      repeat' (first | (simp only [go_sem, hl1, hlong]; all_goals refine nf ?_) | (refine stp ?_; intro K hK) | (apply hK; clear hK K) | refine stn ?_ | (refine AWP.cnd ?_ ?_ <;> intro h <;> (try simp only [zM, zN] at h)) | (refine ⟨fun h => ?_, fun h => ?_⟩ <;> (try simp only [zM, zN] at h) <;> try simp only [h]) | refine stq ?_ | (clear hK K))
      all_goals (first | exact fun _ h => absurd h List.not_mem_nil | refine fin0 ?_)
      all_goals simp only [nameB, hlong, Bool.true_or, Bool.or_true, Bool.not_true, Bool.false_and]
    | false =>
      have hlen : s.length ≤ 9223372036854775807 := by simp only [decide_eq_false_iff_not] at hlong; omega
      cases hlow : p b with
      | false =>
        repeat' (first | (simp only [go_sem, hl1, hlong, hlow]; all_goals refine nf ?_) | (refine stp ?_; intro K hK) | (apply hK; clear hK K) | refine stn ?_ | (refine AWP.cnd ?_ ?_ <;> intro h <;> (try simp only [zM, zN] at h)) | (refine ⟨fun h => ?_, fun h => ?_⟩ <;> (try simp only [zM, zN] at h) <;> try simp only [h]) | (with_reducible first | refine ⟨_, hg b, ?_⟩ | refine ⟨by omega, b, hb0, ?_⟩ | refine ⟨b, hb0, ?_⟩) | refine stq ?_ | (clear hK K))
        all_goals (first | exact fun _ h => absurd h List.not_mem_nil | refine fin0 ?_)
        all_goals simp only [nameB, hl1, hlong, hhd, hlow, Bool.false_or, Bool.not_false, Bool.not_true, Bool.false_and]
      | true =>
        have hmod : nameB p q s = (s.drop 1).all q := by simp only [nameB, hl1, hlong, hhd, hlow, Bool.not_true, Bool.false_or, Bool.not_false, Bool.true_and]
        repeat' (first | (simp only [go_sem, hl1, hlong, hlow]; all_goals refine nf ?_) | (refine stp ?_; intro K hK) | (apply hK; clear hK K) | refine stn ?_ | (refine AWP.cnd ?_ ?_ <;> intro h <;> (try simp only [zM, zN] at h)) | (refine ⟨fun h => ?_, fun h => ?_⟩ <;> (try simp only [zM, zN] at h) <;> try simp only [h]) | (with_reducible first | refine ⟨_, hg b, ?_⟩ | refine ⟨by omega, b, hb0, ?_⟩ | refine ⟨b, hb0, ?_⟩) | refine stq ?_ | (clear hK K))
        refine AWP.loopF (X := Nat) (fun k => [(7, I .i64 k)]) (fun k => []) [0, 2] [] (fun k => 1 ≤ k ∧ k ≤ s.length ∧ (s.drop 1).all q = (s.drop k).all q) (fun k => s.length - k) (1) (by refine sts ?_; exact Gh.tt []) ?_ ?_
        · exact ⟨Nat.le_refl _, by omega, rfl⟩
        rintro k ⟨hk1, hk, hp⟩
        refine sts ?_
        by_cases hlt : k < s.length
        · have hdrop := List.drop_eq_getElem_cons hlt
          have hd : s[k]? = some s[k] := List.getElem?_eq_getElem hlt
          have hbt : decide ((k : Int) < (s.length : Int)) = true := by simpa using hlt
          generalize s[k] = d at hd hdrop
          rw [hdrop, List.all_cons] at hp
          cases hq : q d
          all_goals simp only [hq, Bool.true_and, Bool.false_and] at hp
          repeat' (first | (simp only [go_sem, hbt, hq]; all_goals refine nf ?_) | (refine stp ?_; intro K hK) | (apply hK; clear hK K) | refine stn ?_ | (refine AWP.cnd ?_ ?_ <;> intro h <;> (try simp only [zM, zN] at h)) | (refine ⟨fun h => ?_, fun h => ?_⟩ <;> (try simp only [zM, zN] at h) <;> try simp only [h]) | (with_reducible first | refine ⟨_, hh d, ?_⟩ | refine ⟨by omega, d, hd, ?_⟩ | refine ⟨d, hd, ?_⟩) | refine stq ?_ | (clear hK K))
          all_goals first
            | (refine fin0 ?_; rw [hmod, hp])
            | (rw [wrap_succ hlt hlen]; refine ⟨k + 1, by omega, ⟨by omega, by omega, hp⟩, Gh.tt []⟩)
        · have hbt : decide ((k : Int) < (s.length : Int)) = false := by simpa using hlt
          rw [show s.drop k = [] from List.drop_eq_nil_of_le (by omega)] at hp
          repeat' (first | (simp only [go_sem, hbt]; all_goals refine nf ?_) | (refine stp ?_; intro K hK) | (apply hK; clear hK K) | refine stn ?_ | (refine AWP.cnd ?_ ?_ <;> intro h <;> (try simp only [zM, zN] at h)) | (refine ⟨fun h => ?_, fun h => ?_⟩ <;> (try simp only [zM, zN] at h) <;> try simp only [h]) | refine stq ?_ | (clear hK K))
          all_goals (refine fin0 ?_; rw [hmod, hp]; rfl)
theorem identIsAtom_c (s : List UInt8) : PC Try.prog 33 [S s] (Bo (isAtomB s)) := by
  have h := isName_c s 53 54 lowB tailB isLower_c atomTail_c
  refine PCB.ob Try.func33 Try.ntmps33 Try.results33 ?_
  repeat' (first | (simp only [go_sem]; all_goals refine nf ?_) | (refine stp ?_; intro K hK) | (apply hK; clear hK K) | refine stn ?_ | (refine AWP.cnd ?_ ?_ <;> intro h <;> (try simp only [zM, zN] at h)) | (refine ⟨fun h => ?_, fun h => ?_⟩ <;> (try simp only [zM, zN] at h) <;> try simp only [h]) | (with_reducible refine ⟨_, h, ?_⟩) | refine stq ?_ | (clear hK K))
  all_goals (first | exact fun _ h => absurd h List.not_mem_nil | refine fin0 ?_)
  all_goals rfl
theorem identValidKey_c (k : KeyD) : PC Try.prog 20 [.st (encKey k)] (Bo (validKeyB k)) := by
  refine PCB.ob Try.func20 Try.ntmps20 Try.results20 ?_
  cases h0 : decide (k.kind = 0) <;> cases h1 : decide (k.kind = 1)
  · 
    repeat' (first | (simp only [go_sem, encKey, h0, h1]; all_goals refine nf ?_) | (refine stp ?_; intro K hK) | (apply hK; clear hK K) | refine stn ?_ | (refine AWP.cnd ?_ ?_ <;> intro h <;> (try simp only [zM, zN] at h)) | (refine ⟨fun h => ?_, fun h => ?_⟩ <;> (try simp only [zM, zN] at h) <;> try simp only [h]) | (with_reducible refine ⟨_, identIsAtom_c _, ?_⟩) | refine stq ?_ | (clear hK K))
    all_goals (refine fin0 ?_; simp only [validKeyB, h0, h1, Bool.true_and, Bool.false_and, Bool.or_false, Bool.false_or])
  · 
    repeat' (first | (simp only [go_sem, encKey, h0, h1]; all_goals refine nf ?_) | (refine stp ?_; intro K hK) | (apply hK; clear hK K) | refine stn ?_ | (refine AWP.cnd ?_ ?_ <;> intro h <;> (try simp only [zM, zN] at h)) | (refine ⟨fun h => ?_, fun h => ?_⟩ <;> (try simp only [zM, zN] at h) <;> try simp only [h]) | (with_reducible refine ⟨_, identIsAtom_c _, ?_⟩) | refine stq ?_ | (clear hK K))
    all_goals (refine fin0 ?_; simp only [validKeyB, h0, h1, Bool.true_and, Bool.false_and, Bool.or_false, Bool.false_or])
  · 
    repeat' (first | (simp only [go_sem, encKey, h0, h1]; all_goals refine nf ?_) | (refine stp ?_; intro K hK) | (apply hK; clear hK K) | refine stn ?_ | (refine AWP.cnd ?_ ?_ <;> intro h <;> (try simp only [zM, zN] at h)) | (refine ⟨fun h => ?_, fun h => ?_⟩ <;> (try simp only [zM, zN] at h) <;> try simp only [h]) | (with_reducible refine ⟨_, identIsAtom_c _, ?_⟩) | refine stq ?_ | (clear hK K))
    all_goals (refine fin0 ?_; simp only [validKeyB, h0, h1, Bool.true_and, Bool.false_and, Bool.or_false, Bool.false_or])
  · exfalso
    simp only [decide_eq_true_eq] at h0 h1
    omega
structure PutA where
  keys : List KeyD
  kids : List Dat
  placed : Bool
def putStep (k : KeyD) (d : Dat) (a : PutA) (x : KeyD × Dat) : PutA :=
  let b : PutA := bif decide (keyCmp k x.1 ≤ 0) && !a.placed then ⟨a.keys ++ [k], a.kids ++ [d], true⟩ else a
  bif !decide (keyCmp k x.1 = 0) then ⟨b.keys ++ [x.1], b.kids ++ [x.2], b.placed⟩ else b
def putEnd (k : KeyD) (d : Dat) (a : PutA) : PutA := bif !a.placed then ⟨a.keys ++ [k], a.kids ++ [d], true⟩ else a
def mapDat (a : PutA) : Dat := { zeroDat with kind := 8, kids := a.kids, keys := a.keys }
def putBad (m : Dat) (k : KeyD) : Bool := !decide (m.kind = 8) || (!validKeyB k || !decide ((m.keys.length : Int) = (m.kids.length : Int)))
def putR (m : Dat) (k : KeyD) (d : Dat) : Dat × Bool := bif putBad m k then (zeroDat, false) else (mapDat (putEnd k d ((m.keys.zip m.kids).foldl (putStep k d) ⟨[], [], false⟩)), true)
abbrev Kr (n : Nat) (l : List KeyD) : Nat × Res := (n, .row 2 (l.map encKey))
abbrev Dr (n : Nat) (l : List Dat) : Nat × Res := (n, .row 13 (l.map encDat))
/-- a datum under way -/
abbrev outB (kn dn : Nat) (a : PutA) : Res := .cells [.dat (.int .i64 8), .dat (.int .i64 0), .dat (.str []), .own dn a.kids.length, .own kn a.keys.length, .dat (.str []), .dat (.int .i64 0), .dat (.int .i64 0), .dat (.bool false), .dat (.nil 8), .dat (.int .i64 0), .dat (.str []), .dat (.str [])]
abbrev zeroB : Res := .cells [.dat (.int .i64 0), .dat (.int .i64 0), .dat (.str []), .dat (.nil 13), .dat (.nil 2), .dat (.str []), .dat (.int .i64 0), .dat (.int .i64 0), .dat (.bool false), .dat (.nil 8), .dat (.int .i64 0), .dat (.str []), .dat (.str [])]
theorem key_snoc (l : List KeyD) (x : KeyD) : l.map encKey ++ [encKey x] = (l ++ [x]).map encKey := by simp
theorem dat_snoc (l : List Dat) (x : Dat) : l.map encDat ++ [encDat x] = (l ++ [x]).map encDat := by simp
theorem put_c (m : Dat) (k : KeyD) (d : Dat) (hm : m.kids.length ≤ 1000000) : PC Try.prog 9 [Dt m, .st (encKey k), Dt d] (.tup [Dt (putR m k d).1, Bo (putR m k d).2]) := by
  refine PCB.ob Try.func9 Try.ntmps9 Try.results9 ?_
  refine AWP.ghQ ?_
  cases hbad : putBad m k with
  | true =>
    cases h8 : decide (m.kind = 8) <;> cases hv : validKeyB k <;> cases hl : decide ((m.keys.length : Int) = (m.kids.length : Int))
    all_goals first
      | (exfalso; simp only [putBad, h8, hv, hl, Bool.not_true, Bool.or_false] at hbad; exact Bool.false_ne_true hbad)
      | skip
    repeat' (first | (simp only [go_sem, List.length_map, h8, hv, hl]; all_goals refine nf ?_) | (refine stp ?_; intro K hK) | (apply hK; clear hK K) | refine stn ?_ | (refine AWP.cnd ?_ ?_ <;> intro h <;> (try simp only [zM, zN] at h)) | (refine ⟨fun h => ?_, fun h => ?_⟩ <;> (try simp only [zM, zN] at h) <;> try simp only [h]) | (with_reducible refine ⟨_, validKey_c k, ?_⟩) | (with_reducible refine AWP.segP (id := 15) 8 mixed (by kernel_rfl) fun K hK => ?_; simp only [List.take_succ_cons, List.take_zero, List.drop_succ_cons, List.drop_zero]) | (refine stp' ?_; intro K hK) | refine stq ?_ | (clear hK K))
    all_goals (refine ⟨_, Gh.refl _, ?_⟩)
    all_goals simp only [go_sem]
    all_goals (refine fin0 ?_; simp only [putR, hbad, cond_true]; rfl)
  | false =>
    have hR : putR m k d = (mapDat (putEnd k d ((m.keys.zip m.kids).foldl (putStep k d) ⟨[], [], false⟩)), true) := by simp only [putR, hbad, cond_false]
    simp only [putBad, Bool.or_eq_false_iff, Bool.not_eq_false'] at hbad
    obtain ⟨h8, hv, hl⟩ := hbad
    have hlk : m.keys.length = m.kids.length := by simp only [decide_eq_true_eq] at hl; omega
    rw [hR]
    repeat' (first | (simp only [go_sem, List.length_map, h8, hv, hl]; all_goals refine nf ?_) | (refine stp ?_; intro K hK) | (apply hK; clear hK K) | refine stn ?_ | (refine AWP.cnd ?_ ?_ <;> intro h <;> (try simp only [zM, zN] at h)) | (refine ⟨fun h => ?_, fun h => ?_⟩ <;> (try simp only [zM, zN] at h) <;> try simp only [h]) | (with_reducible refine ⟨_, validKey_c k, ?_⟩) | (with_reducible refine AWP.segP (id := 15) 8 mixed (by kernel_rfl) fun K hK => ?_; simp only [List.take_succ_cons, List.take_zero, List.drop_succ_cons, List.drop_zero]) | (refine stp' ?_; intro K hK) | refine stq ?_ | (clear hK K))
    refine AWP.gh (Gh.nilcell 8 4 900 rfl rfl rfl (by simp only [go_sem]) (by simp only [go_sem])) ?_
    refine AWP.gh (Gh.nilcell 8 3 901 rfl rfl rfl (by simp only [go_sem]) (by simp only [go_sem])) ?_
    refine AWP.loopS (X := Nat × PutA) (fun x => [(35, I .i64 x.1), (34, I .i64 m.keys.length), (33, .one (.dat (.sl 2 (m.keys.map encKey)))), (9, Bo x.2.placed), (3, Sp 3), (4, Sp 4), (5, Sp 5), (6, Sp 6), (8, Sp 8)])
      (fun x => [(3, .cells ((encDat m).map .dat)), (4, .cells ((encKey k).map .dat)), (5, .cells ((encDat d).map .dat)), (6, zeroB), (8, outB 900 901 x.2), Kr 900 x.2.keys, Dr 901 x.2.kids])
      (fun x => x.1 ≤ m.keys.length ∧ (m.keys.zip m.kids).foldl (putStep k d) ⟨[], [], false⟩ = ((m.keys.zip m.kids).drop x.1).foldl (putStep k d) x.2 ∧ x.2.keys.length ≤ 2 * x.1 ∧ x.2.kids.length ≤ 2 * x.1) (fun x => m.keys.length - x.1) (0, ⟨[], [], false⟩) ?_ ⟨Nat.zero_le _, rfl, by simp, by simp⟩ ?_
    · exact Gh.tt []
    rintro ⟨i, a⟩ ⟨hi, hp, hk1, hk2⟩
    simp only at hi hp hk1 hk2
    by_cases hlt : i < m.keys.length
    · obtain ⟨kx, hkx, hkx', hb, _⟩ := at_lt (enc := encKey) hlt
      obtain ⟨dx, hdx, hdx', _, _⟩ := at_lt (enc := encDat) (show i < m.kids.length by omega)
      have hz : (m.keys.zip m.kids).drop i = (kx, dx) :: (m.keys.zip m.kids).drop (i + 1) := by
        have hlz : i < (m.keys.zip m.kids).length := by simp; omega
        rw [List.drop_eq_getElem_cons hlz]
        congr 1
        have e1 := List.getElem?_eq_getElem hlt
        have e2 := List.getElem?_eq_getElem (show i < m.kids.length by omega)
        rw [hkx] at e1
        rw [hdx] at e2
        simp only [List.getElem_zip]
        rw [← Option.some.inj e1, ← Option.some.inj e2]
      rw [hz, List.foldl_cons] at hp
      obtain ⟨ak, ad, ap⟩ := a
      simp only at hk1 hk2
      cases hc0 : decide (keyCmp k kx ≤ 0) <;> cases hc1 : decide (keyCmp k kx = 0) <;> cases ap
      all_goals (simp only [putStep, hc0, hc1, Bool.not_true, Bool.not_false, Bool.and_true, Bool.and_false, Bool.true_and, Bool.false_and, cond_true, cond_false] at hp)
      repeat' (first | (simp only [go_sem, List.length_map, hb, hc0, hc1, key_snoc, dat_snoc]; all_goals refine nf ?_) | (refine stp ?_; intro K hK) | (apply hK; clear hK K) | refine stn ?_ | (refine AWP.cnd ?_ ?_ <;> intro h <;> (try simp only [zM, zN] at h)) | (refine ⟨fun h => ?_, fun h => ?_⟩ <;> (try simp only [zM, zN] at h) <;> try simp only [h]) | (with_reducible first | refine ⟨_, compareKeys_c k kx, ?_⟩ | refine ⟨by omega, encKey kx, hkx', ?_⟩ | refine ⟨by omega, encDat dx, hdx', ?_⟩ | refine ⟨by omega, ?_⟩ | (refine ⟨by simp only [List.length_append, List.length_cons, List.length_nil]; omega, ?_⟩)) | (with_reducible refine AWP.segP (id := 15) 8 mixed (by kernel_rfl) fun K hK => ?_; simp only [List.take_succ_cons, List.take_zero, List.drop_succ_cons, List.drop_zero]) | (refine stp' ?_; intro K hK) | refine stq ?_ | (clear hK K))
      all_goals (rw [wrap_succ hlt (by omega)])
      all_goals first
        | refine ⟨(i + 1, ⟨ak, ad, _⟩), by simp only; omega, ⟨by simp only; omega, hp, by simp only; omega, by simp only; omega⟩, Gh.tt []⟩
        | refine ⟨(i + 1, ⟨ak ++ [k], ad ++ [d], _⟩), by simp only; omega, ⟨by simp only; omega, hp, by simp; omega, by simp; omega⟩, Gh.tt [(900, 53), (901, 59)]⟩
        | refine ⟨(i + 1, ⟨ak ++ [kx], ad ++ [dx], _⟩), by simp only; omega, ⟨by simp only; omega, hp, by simp; omega, by simp; omega⟩, Gh.tt [(900, 67), (901, 77)]⟩
        | refine ⟨(i + 1, ⟨ak ++ [k] ++ [kx], ad ++ [d] ++ [dx], _⟩), by simp only; omega, ⟨by simp only; omega, hp, by simp; omega, by simp; omega⟩, Gh.tt [(900, 67), (901, 77)]⟩
    · have hb : decide ((i : Int) < (m.keys.length : Int)) = false := by simpa using hlt
      rw [show (m.keys.zip m.kids).drop i = [] from List.drop_eq_nil_of_le (by simp; omega), List.foldl_nil] at hp
      rw [hp]
      obtain ⟨ak, ad, ap⟩ := a
      simp only at hk1 hk2
      cases ap
      ·
        repeat' (first | (simp only [go_sem, List.length_map, hb, key_snoc, dat_snoc]; all_goals refine nf ?_) | (refine stp ?_; intro K hK) | (apply hK; clear hK K) | refine stn ?_ | (refine AWP.cnd ?_ ?_ <;> intro h <;> (try simp only [zM, zN] at h)) | (refine ⟨fun h => ?_, fun h => ?_⟩ <;> (try simp only [zM, zN] at h) <;> try simp only [h]) | (with_reducible refine ⟨by omega, ?_⟩) | (with_reducible refine AWP.segP (id := 15) 8 mixed (by kernel_rfl) fun K hK => ?_; simp only [List.take_succ_cons, List.take_zero, List.drop_succ_cons, List.drop_zero]) | (refine stp' ?_; intro K hK) | refine stq ?_ | (clear hK K))
        refine GhQ.step (Gh.fz 86) ?_
        simp only [go_sem, List.length_map]
        refine ⟨_, Gh.fz 92, ?_⟩
        simp only [go_sem, List.length_map]
        all_goals (first | exact fun _ h => absurd h List.not_mem_nil | refine fin0 ?_)
        all_goals (simp only [hp, putEnd, Bool.not_false, cond_true, mapDat, Dt, encDat_eq, zeroDat]; rfl)
      ·
        repeat' (first | (simp only [go_sem, List.length_map, hb, key_snoc, dat_snoc]; all_goals refine nf ?_) | (refine stp ?_; intro K hK) | (apply hK; clear hK K) | refine stn ?_ | (refine AWP.cnd ?_ ?_ <;> intro h <;> (try simp only [zM, zN] at h)) | (refine ⟨fun h => ?_, fun h => ?_⟩ <;> (try simp only [zM, zN] at h) <;> try simp only [h]) | (with_reducible refine ⟨by omega, ?_⟩) | (with_reducible refine AWP.segP (id := 15) 8 mixed (by kernel_rfl) fun K hK => ?_; simp only [List.take_succ_cons, List.take_zero, List.drop_succ_cons, List.drop_zero]) | (refine stp' ?_; intro K hK) | refine stq ?_ | (clear hK K))
        refine GhQ.step (Gh.fz 900) ?_
        simp only [go_sem, List.length_map]
        refine ⟨_, Gh.fz 901, ?_⟩
        simp only [go_sem, List.length_map]
        all_goals (first | exact fun _ h => absurd h List.not_mem_nil | refine fin0 ?_)
        all_goals (simp only [hp, putEnd, Bool.not_true, cond_false, mapDat, Dt, encDat_eq, zeroDat]; rfl)
def cmpI (a b : Int) : Int := bif decide (a < b) then -1 else bif decide (b < a) then 1 else 0
theorem isNaN_c (a : Int) : PC Try.prog 56 [I .i64 a] (Bo false) := by
  refine PCB.ob Try.func56 Try.ntmps56 Try.results56 ?_
  repeat' (first | (simp only [go_sem, decide_true]; all_goals refine nf ?_) | (refine stp ?_; intro K hK) | (apply hK; clear hK K) | refine stn ?_ | (refine AWP.cnd ?_ ?_ <;> intro h <;> (try simp only [zM, zN] at h)) | (refine ⟨fun h => ?_, fun h => ?_⟩ <;> (try simp only [zM, zN] at h) <;> try simp only [h]) | refine stq ?_ | (clear hK K))
  all_goals (first | exact fun _ h => absurd h List.not_mem_nil | refine fin0 ?_)
  all_goals (simp)
theorem cmpInt_c (a b : Int) : PC Try.prog 34 [I .i64 a, I .i64 b] (I .i64 (cmpI a b)) := by
  refine PCB.ob Try.func34 Try.ntmps34 Try.results34 ?_
  cases h1 : decide (a < b) <;> cases h2 : decide (b < a)
  repeat' (first | (simp only [go_sem, h1, h2, gt_iff_lt]; all_goals refine nf ?_) | (refine stp ?_; intro K hK) | (apply hK; clear hK K) | refine stn ?_ | (refine AWP.cnd ?_ ?_ <;> intro h <;> (try simp only [zM, zN] at h)) | (refine ⟨fun h => ?_, fun h => ?_⟩ <;> (try simp only [zM, zN] at h) <;> try simp only [h]) | (with_reducible refine ⟨_, isNaN_c _, ?_⟩) | refine stq ?_ | (clear hK K))
  all_goals (refine fin0 ?_; simp only [cmpI, h1, h2, cond_true, cond_false])
theorem cmpI_zero {a b : Int} : cmpI a b = 0 ↔ a = b := by
  unfold cmpI
  cases h1 : decide (a < b) <;> cases h2 : decide (b < a) <;> simp only [decide_eq_true_eq, decide_eq_false_iff_not] at h1 h2 <;> simp <;> omega
/-- the entry below strings.Compare -/
theorem cmpString_calls (a b : ByteArray) (w : World) :
    Calls Try.prog 57 #[.string a, .string b] w fun e w' => e = .returned (.int .i64 (Lib.compareBytes a.data.toList b.data.toList)) ∧ w' = w := by
  go_enter Try.func57, Try.ntmps57
  go_wp2
  rw [run_callFunc_extern Try.func67 (by kernel_rfl) (by kernel_rfl) (by kernel_rfl) (e := Extern.BytealgCompare.compare) (by kernel_rfl), Lib.run_compareString]
  simp only [Result.andThen]
  rw [Oper.upon_value]
  go_wp2
  go_ret
  exact ⟨rfl, rfl⟩
theorem cmpString_c (a b : List UInt8) : PC Try.prog 57 [S a, S b] (I .i64 (Lib.compareBytes a b)) := by
  refine ⟨⟨_, Try.func57, rfl, rfl⟩, fun M ν w vs hs hr => ?_⟩
  simp only [T.reps, T.rep, Cell.rep, C.rep] at hr
  obtain ⟨v1, vs1, rfl, rfl, v2, vs2, rfl, rfl, rfl⟩ := hr
  refine Calls.mono (cmpString_calls ⟨a.toArray⟩ ⟨b.toArray⟩ w) ?_
  rintro e w' ⟨rfl, rfl⟩
  exact ⟨_, M, rfl, Mem.ext.refl _ M, by simp only [T.rep, Cell.rep, C.rep], hs⟩
theorem stringsCompare_c (a b : List UInt8) : PC Try.prog 35 [S a, S b] (I .i64 (Lib.compareBytes a b)) := by
  refine PCB.ob Try.func35 Try.ntmps35 Try.results35 ?_
  repeat' (first | (simp only [go_sem]; all_goals refine nf ?_) | (refine stp ?_; intro K hK) | (apply hK; clear hK K) | refine stn ?_ | (refine AWP.cnd ?_ ?_ <;> intro h <;> (try simp only [zM, zN] at h)) | (refine ⟨fun h => ?_, fun h => ?_⟩ <;> (try simp only [zM, zN] at h) <;> try simp only [h]) | (with_reducible refine ⟨_, cmpString_c _ _, ?_⟩) | refine stq ?_ | (clear hK K))
  all_goals (first | exact fun _ h => absurd h List.not_mem_nil | refine fin0 ?_)
  all_goals rfl
theorem cmpB_zero : ∀ {a b : List UInt8}, Lib.compareBytes a b = 0 ↔ a = b
  | [], [] => by simp [Lib.compareBytes]
  | [], _ :: _ => by simp [Lib.compareBytes]
  | _ :: _, [] => by simp [Lib.compareBytes]
  | x :: a, y :: b => by
    unfold Lib.compareBytes
    by_cases h1 : x < y
    · simp only [h1, if_true]
      constructor
      · intro h; cases h
      · intro h; cases h; exact absurd h1 (by simp)
    · by_cases h2 : y < x
      · simp only [h1, h2, if_true, if_false]
        constructor
        · intro h; cases h
        · intro h; cases h; exact absurd h2 (by simp)
      · have hxy : x = y := UInt8.le_antisymm (UInt8.not_lt.1 h2) (UInt8.not_lt.1 h1)
        subst hxy
        have ih := @cmpB_zero a b
        simp only [h1, if_false, ih, List.cons.injEq, true_and]
def chainC (a b : Int) : Int := bif decide (a = 0) then b else a
theorem chainC_zero {a b : Int} : chainC a b = 0 ↔ a = 0 ∧ b = 0 := by
  unfold chainC
  by_cases h : a = 0 <;> simp [h]
def keyC (a b : KeyD) : Int := chainC (cmpI a.kind b.kind) (Lib.compareBytes a.text b.text)
theorem identCompareKeys_c (a b : KeyD) : PC Try.prog 22 [.st (encKey a), .st (encKey b)] (I .i64 (keyC a b)) := by
  refine PCB.ob Try.func22 Try.ntmps22 Try.results22 ?_
  cases hz0 : decide (cmpI a.kind b.kind = 0)
  repeat' (first | (simp only [go_sem, encKey, hz0]; all_goals refine nf ?_) | (refine stp ?_; intro K hK) | (apply hK; clear hK K) | refine stn ?_ | (refine AWP.cnd ?_ ?_ <;> intro h <;> (try simp only [zM, zN] at h)) | (refine ⟨fun h => ?_, fun h => ?_⟩ <;> (try simp only [zM, zN] at h) <;> try simp only [h]) | (with_reducible first | refine ⟨_, cmpInt_c _ _, ?_⟩ | refine ⟨_, stringsCompare_c _ _, ?_⟩) | refine stq ?_ | (clear hK K))
  all_goals (refine fin0 ?_; simp only [keyC, chainC, hz0, cond_true, cond_false])
end Go.Proofs.Ythpndlinlhapgaa
set_option linter.unusedSimpArgs false
set_option linter.unusedVariables false
set_option maxRecDepth 20000
set_option maxHeartbeats 4000000
namespace Go.Proofs.Ythpndlinlhapgaa
open Go Go.Sx
open Bool renaming not_eq_true' → zM, not_eq_false' → zN
/-- the document's order of values is the same -/
theorem bytesLess_cmp : ∀ a b : List UInt8, Op.bytesLess a b = decide (Lib.compareBytes a b = -1)
  | [], [] => by simp [Op.bytesLess, Lib.compareBytes]
  | [], _ :: _ => by simp [Op.bytesLess, Lib.compareBytes]
  | _ :: _, [] => by simp [Op.bytesLess, Lib.compareBytes]
  | x :: a, y :: b => by
    have ih := bytesLess_cmp a b
    simp only [Op.bytesLess, Lib.compareBytes]
    by_cases h1 : x < y
    · simp [h1]
    · by_cases h2 : y < x
      · have hne : ¬ x = y := by intro e; subst e; exact h1 h2
        simp [h1, h2, hne]
      · have hxy : x = y := UInt8.le_antisymm (UInt8.not_lt.1 h2) (UInt8.not_lt.1 h1)
        simp [h1, h2, hxy, ih]
theorem cmpB_range : ∀ a b : List UInt8, Lib.compareBytes a b = -1 ∨ Lib.compareBytes a b = 0 ∨ Lib.compareBytes a b = 1
  | [], [] => by simp [Lib.compareBytes]
  | [], _ :: _ => by simp [Lib.compareBytes]
  | _ :: _, [] => by simp [Lib.compareBytes]
  | x :: a, y :: b => by
    have ih := cmpB_range a b
    simp only [Lib.compareBytes]
    split
    · simp
    · split
      · simp
      · exact ih
theorem textCmp_eq (a b : List UInt8) : textCmp a b = Lib.compareBytes a b := by
  unfold textCmp
  rw [bytesLess_cmp]
  have hz := @cmpB_zero a b
  rcases cmpB_range a b with h | h | h
  · simp [h]
  · have := hz.1 h
    simp [h, this]
    have h2 := (@cmpB_zero b b).2 rfl
    simp [h2]
  · have : ¬ a = b := fun e => by have := hz.2 e; omega
    simp [h, this]
theorem keyCmp_eq (a b : KeyD) : keyCmp a b = keyC a b := by
  unfold keyCmp keyC chainC
  rw [textCmp_eq]
  have : decide (cmpI a.kind b.kind = 0) = decide (a.kind = b.kind) := by
    rw [← Bool.coe_iff_coe]; simp [cmpI_zero]
  rw [this]
  cases decide (a.kind = b.kind) <;> rfl
end Go.Proofs.Ythpndlinlhapgaa
set_option linter.unusedSimpArgs false
set_option linter.unusedVariables false
set_option maxRecDepth 20000
set_option maxHeartbeats 1000000
namespace Go.Proofs.Ythpndlinlhapgaa
open Go Go.Sx
open Bool renaming not_eq_true' → zM, not_eq_false' → zN
def atoms4 : List (List UInt8) := [[116, 114, 117, 101], [102, 97, 108, 115, 101], [97], [111, 107]]
def mods2 : List (List UInt8) := [[109], [110]]
def funDat (s : Src) : Dat := { zeroDat with kind := 9, num := nextV s 3, mod := mods2.getD (nextV (nextS s 3) 2).toNat [], version := 1 + nextV (nextS (nextS s 3) 2) 2, routine := nextV (nextS (nextS (nextS s 3) 2) 2) 2 }
def madeBase (k : Int) (s : Src) : Dat × Src :=
  bif decide (k = 1) then (atomDat (atoms4.getD (nextV s 4).toNat []), nextS s 4) else
  bif decide (k = 2) then ({ zeroDat with kind := 2, text := wordV s }, nextS s 4) else
  bif decide (k = 3) then ({ zeroDat with kind := 4, num := nextV s 4 }, nextS s 4) else
  bif decide (k = 4) then ({ zeroDat with kind := 5 }, s) else
  bif decide (k = 5) then (funDat s, nextS (nextS (nextS (nextS s 3) 2) 2) 2) else
  bif decide (k = 6) then (intDat (numV s), nextS s 10) else
  (intDat (nextV s 5 - 1), nextS s 5)
def made0 (s : Src) : Dat × Src := madeBase (bif decide (6 < nextV s 12) then 0 else nextV s 12) (nextS s 12)
def node14 (n : Nat) : NodeD := ⟨14, 0, 0, [], List.replicate n 1, [], 0, 0⟩
def node2 : NodeD := ⟨2, 0, 0, [], [], [], 0, 0⟩
def wrapD (f : Dat) : Dat := { zeroDat with kind := 9, num := f.num, kids := [f], wrapped := true, nodes := [node14 (f.num + 1).toNat, node2], inner := [109], outer := [110] }
def consDat (a b : Dat) : Dat := { zeroDat with kind := 7, kids := [a, b] }
def madeN (f : Src → Dat × Src) : Nat → Src → List Dat → List Dat × Src
  | 0, s, acc => (acc, s)
  | n + 1, s, acc => madeN f n (f s).2 (acc ++ [(f s).1])
def listN (f : Src → Dat × Src) : Nat → Src → Dat → Dat × Src
  | 0, s, t => (t, s)
  | n + 1, s, t => listN f n (f s).2 (consDat (f s).1 t)
def mapN (f : Src → Dat × Src) : Nat → Src → Dat → Dat × Src
  | 0, s, m => (m, s)
  | n + 1, s, m => mapN f n (f (keyV s).2).2 (putR m (keyV s).1 (f (keyV s).2).1).1
def made : Nat → Src → Dat × Src
  | 0, s => made0 s
  | d + 1, s =>
    bif decide (nextV s 12 ≤ 6) then madeBase (nextV s 12) (nextS s 12) else
    bif decide (nextV s 12 = 7) then (bif decide ((made0 (nextS s 12)).1.kind = 9) then (wrapD (made0 (nextS s 12)).1, (made0 (nextS s 12)).2) else made0 (nextS s 12)) else
    bif decide (nextV s 12 ≤ 9) then
      ({ zeroDat with kind := 6, kids := (madeN (made d) (nextV (nextS s 12) 4).toNat (nextS (nextS s 12) 4) []).1 }, (madeN (made d) (nextV (nextS s 12) 4).toNat (nextS (nextS s 12) 4) []).2) else
    bif decide (nextV s 12 = 10) then listN (made d) (1 + nextV (nextS s 12) 2).toNat (nextS (nextS s 12) 2) { zeroDat with kind := 5 } else
    mapN (made d) (nextV (nextS s 12) 3).toNat (nextS (nextS s 12) 3) { zeroDat with kind := 8 }
theorem ok_base {k : Int} {s : Src} (h : s.ok) : (madeBase k s).2.ok := by
  unfold madeBase
  cases decide (k = 1) <;> cases decide (k = 2) <;> cases decide (k = 3) <;> cases decide (k = 4) <;> cases decide (k = 5) <;> cases decide (k = 6) <;>
    first | exact ok_next h _ | exact h | exact ok_next (ok_next (ok_next (ok_next h 3) 2) 2) 2
theorem ok_made0 {s : Src} (h : s.ok) : (made0 s).2.ok := ok_base (ok_next h 12)
theorem ok_madeN {f : Src → Dat × Src} (hf : ∀ s : Src, s.ok → (f s).2.ok) : ∀ (n : Nat) (s : Src) (acc : List Dat), s.ok → (madeN f n s acc).2.ok
  | 0, s, acc, h => h
  | n + 1, s, acc, h => ok_madeN hf n _ _ (hf s h)
theorem ok_listN {f : Src → Dat × Src} (hf : ∀ s : Src, s.ok → (f s).2.ok) : ∀ (n : Nat) (s : Src) (t : Dat), s.ok → (listN f n s t).2.ok
  | 0, s, t, h => h
  | n + 1, s, t, h => ok_listN hf n _ _ (hf s h)
theorem ok_mapN {f : Src → Dat × Src} (hf : ∀ s : Src, s.ok → (f s).2.ok) : ∀ (n : Nat) (s : Src) (t : Dat), s.ok → (mapN f n s t).2.ok
  | 0, s, t, h => h
  | n + 1, s, t, h => ok_mapN hf n _ _ (hf _ (ok_key h))
theorem ok_made : ∀ (d : Nat) {s : Src}, s.ok → (made d s).2.ok
  | 0, s, h => ok_made0 h
  | d + 1, s, h => by
    have h1 := ok_next h 12
    have hf : ∀ s : Src, s.ok → (made d s).2.ok := fun s h => ok_made d h
    unfold made
    cases decide (nextV s 12 ≤ 6) <;> cases decide (nextV s 12 = 7) <;> cases decide (nextV s 12 ≤ 9) <;> cases decide (nextV s 12 = 10) <;> cases decide ((made0 (nextS s 12)).1.kind = 9) <;>
      first | exact ok_base h1 | exact ok_made0 h1 | exact ok_madeN hf _ _ _ (ok_next h1 4) | exact ok_listN hf _ _ _ (ok_next h1 2) | exact ok_mapN hf _ _ _ (ok_next h1 3)
theorem made0_fun (s : Src) (h : (made0 s).1.kind = 9) : 0 ≤ (made0 s).1.num ∧ (made0 s).1.num ≤ 2 := by
  unfold made0 at *
  generalize nextS s 12 = s1 at *
  generalize (bif decide (6 < nextV s 12) then (0 : Int) else nextV s 12) = k at *
  unfold madeBase at *
  have hv := nextV_in s1 (n := 3) (by omega)
  cases h1 : decide (k = 1) <;> cases h2 : decide (k = 2) <;> cases h3 : decide (k = 3) <;> cases h4 : decide (k = 4) <;> cases h5 : decide (k = 5) <;> cases h6 : decide (k = 6) <;>
    simp only [h1, h2, h3, h4, h5, h6, cond_true, cond_false, atomDat, intDat, zeroDat, funDat] at h ⊢ <;> first | omega | (simp at h)
end Go.Proofs.Ythpndlinlhapgaa
set_option linter.unusedSimpArgs false
set_option linter.unusedVariables false
set_option maxRecDepth 20000
set_option maxHeartbeats 4000000
namespace Go.Proofs.Ythpndlinlhapgaa
open Go Go.Sx
open Bool renaming not_eq_true' → zM, not_eq_false' → zN
/-- the contract of Made at a depth -/
def MadeC (d : Nat) : Prop := ∀ s : Src, s.ok → PCB Try.prog 4 [Sp pin, I .i64 d] [(pin, srcB s)] (Dt (made d s).1) [(pin, srcB (made d s).2)]
theorem MadeC.k {d : Nat} (h : MadeC d) (k : Nat) (s : Src) (hs : s.ok) : PCBk Try.prog 4 [Sp k, I .i64 d] k (srcB s) (Dt (made d s).1) (srcB (made d s).2) := PCBk.mk k (h s hs)
theorem dec_pos {n : Nat} : decide ((0 : Int) < ((n + 1 : Nat) : Int)) = true := by simp
theorem wrap_pred_nat {n : Nat} (hm : n ≤ 1000000) : IntKind.i64.wrap (((n + 1 : Nat) : Int) - 1) = (n : Int) := by rw [w64 (by omega)]; omega
theorem made_c8 (d : Nat) (hd : d ≤ 1000) (IH : MadeC d) (s : Src) (hs : s.ok) (hk : nextV s 12 = 8) :
    PCB Try.prog 4 [Sp pin, I .i64 (d + 1 : Nat)] [(pin, srcB s)] (Dt (made (d + 1) s).1) [(pin, srcB (made (d + 1) s).2)] := by
  have hM : made (d + 1) s = ({ zeroDat with kind := 6, kids := (madeN (made d) (nextV (nextS s 12) 4).toNat (nextS (nextS s 12) 4) []).1 }, (madeN (made d) (nextV (nextS s 12) 4).toNat (nextS (nextS s 12) 4) []).2) := by
    simp only [made, hk]; rfl
  rw [hM]
  refine PCB.ob Try.func4 Try.ntmps4 Try.results4 ?_
  refine AWP.ghQ ?_
  have hs1 := ok_next hs 12
  have a1 := nextV_in (nextS s 12) (n := 4) (by omega)
  have hgt : decide ((6 : Int) < 8) = true := by decide
  have hd0 : decide (((d + 1 : Nat) : Int) = 0) = false := by simp; omega
  have hn : nextV (nextS s 12) 4 = (((nextV (nextS s 12) 4).toNat : Nat) : Int) := by omega
  repeat' (first | (simp only [go_sem, pin, hk, hgt, hd0]; all_goals refine nf ?_) | (refine stp ?_; intro K hK) | (apply hK; clear hK K) | refine stn ?_ | (refine AWP.cnd ?_ ?_ <;> intro h <;> (try simp only [zM, zN] at h)) | (refine ⟨fun h => ?_, fun h => ?_⟩ <;> (try simp only [zM, zN] at h) <;> try simp only [h]) | (refine ⟨1000000, _, _, _, next_k 1000000 _ (by repeat (first | with_reducible exact hs | with_reducible refine ok_next ?_ _)) _ (by omega), rfl, ?_⟩) | (with_reducible refine AWP.segP (id := 14) 13 mixed (by kernel_rfl) fun K hK => ?_; simp only [List.take_succ_cons, List.take_zero, List.drop_succ_cons, List.drop_zero]) | (with_reducible refine AWP.segP (id := 25) 8 mixed (by kernel_rfl) fun K hK => ?_; simp only [List.take_succ_cons, List.take_zero, List.drop_succ_cons, List.drop_zero]) | (with_reducible refine AWP.segP (id := 40) 7 mixed (by kernel_rfl) fun K hK => ?_; simp only [List.take_succ_cons, List.take_zero, List.drop_succ_cons, List.drop_zero]) | (with_reducible refine AWP.segP (id := 47) 11 mixed (by kernel_rfl) fun K hK => ?_; simp only [List.take_succ_cons, List.take_zero, List.drop_succ_cons, List.drop_zero]) | (refine stp' ?_; intro K hK) | refine stq ?_ | (clear hK K))
  refine AWP.gh (Gh.nilrow 9 900 rfl rfl rfl rfl) ?_
  rw [hn]
  refine AWP.loopS (X := Nat × Src × List Dat) (fun x => [(10, I .i64 x.1), (9, .one (.own 900 x.2.2.length)), (0, Sp 1000000), (1, I .i64 (d + 1 : Nat)), (4, Sp 4)])
    (fun x => [(1000000, srcB x.2.1), (4, zeroB), Dr 900 x.2.2])
    (fun x => x.1 + x.2.2.length ≤ 1000 ∧ x.2.1.ok ∧ madeN (made d) (nextV (nextS s 12) 4).toNat (nextS (nextS s 12) 4) [] = madeN (made d) x.1 x.2.1 x.2.2) (fun x => x.1) ((nextV (nextS s 12) 4).toNat, nextS (nextS s 12) 4, []) (Gh.tt []) ⟨by simp; omega, ok_next hs1 _, rfl⟩ ?_
  rintro ⟨n, t, acc⟩ ⟨hl, ht, hp⟩
  simp only at hl ht hp
  cases n with
  | succ n =>
    rw [madeN] at hp
    have hw : IntKind.i64.wrap (((d + 1 : Nat) : Int) - 1) = (d : Int) := wrap_pred_nat (by omega)
    have hw2 : IntKind.i64.wrap (((n + 1 : Nat) : Int) - 1) = (n : Int) := wrap_pred_nat (by omega)
    repeat' (first | (simp only [go_sem, pin, List.length_map, dec_pos, hw, hw2, dat_snoc]; all_goals refine nf ?_) | (refine stp ?_; intro K hK) | (apply hK; clear hK K) | refine stn ?_ | (refine AWP.cnd ?_ ?_ <;> intro h <;> (try simp only [zM, zN] at h)) | (refine ⟨fun h => ?_, fun h => ?_⟩ <;> (try simp only [zM, zN] at h) <;> try simp only [h]) | (with_reducible refine ⟨by omega, ?_⟩) | (refine ⟨1000000, _, _, _, IH.k 1000000 t ht, rfl, ?_⟩) | (with_reducible refine AWP.segP (id := 14) 13 mixed (by kernel_rfl) fun K hK => ?_; simp only [List.take_succ_cons, List.take_zero, List.drop_succ_cons, List.drop_zero]) | (with_reducible refine AWP.segP (id := 25) 8 mixed (by kernel_rfl) fun K hK => ?_; simp only [List.take_succ_cons, List.take_zero, List.drop_succ_cons, List.drop_zero]) | (with_reducible refine AWP.segP (id := 40) 7 mixed (by kernel_rfl) fun K hK => ?_; simp only [List.take_succ_cons, List.take_zero, List.drop_succ_cons, List.drop_zero]) | (with_reducible refine AWP.segP (id := 47) 11 mixed (by kernel_rfl) fun K hK => ?_; simp only [List.take_succ_cons, List.take_zero, List.drop_succ_cons, List.drop_zero]) | (refine stp' ?_; intro K hK) | refine stq ?_ | (clear hK K))
    all_goals (refine ⟨(n, (made d t).2, acc ++ [(made d t).1]), by simp only; omega, ⟨by simp only [List.length_append, List.length_cons, List.length_nil]; omega, ok_made d ht, hp⟩, Gh.tt [(900, 115)]⟩)
  | zero =>
    rw [madeN] at hp
    have h0 : decide ((0 : Int) < ((0 : Nat) : Int)) = false := by simp
    repeat' (first | (simp only [go_sem, pin, h0]; all_goals refine nf ?_) | (refine stp ?_; intro K hK) | (apply hK; clear hK K) | refine stn ?_ | (refine AWP.cnd ?_ ?_ <;> intro h <;> (try simp only [zM, zN] at h)) | (refine ⟨fun h => ?_, fun h => ?_⟩ <;> (try simp only [zM, zN] at h) <;> try simp only [h]) | (with_reducible refine AWP.segP (id := 14) 13 mixed (by kernel_rfl) fun K hK => ?_; simp only [List.take_succ_cons, List.take_zero, List.drop_succ_cons, List.drop_zero]) | (with_reducible refine AWP.segP (id := 25) 8 mixed (by kernel_rfl) fun K hK => ?_; simp only [List.take_succ_cons, List.take_zero, List.drop_succ_cons, List.drop_zero]) | (with_reducible refine AWP.segP (id := 40) 7 mixed (by kernel_rfl) fun K hK => ?_; simp only [List.take_succ_cons, List.take_zero, List.drop_succ_cons, List.drop_zero]) | (with_reducible refine AWP.segP (id := 47) 11 mixed (by kernel_rfl) fun K hK => ?_; simp only [List.take_succ_cons, List.take_zero, List.drop_succ_cons, List.drop_zero]) | (refine stp' ?_; intro K hK) | refine stq ?_ | (clear hK K))
    refine ⟨_, Gh.fz 900, ?_⟩
    simp only [go_sem, List.length_map]
    all_goals (refine ⟨by simp only [hp, Dt, encDat_eq, zeroDat]; rfl, fun x hx => ?_⟩)
    all_goals (simp only [List.mem_singleton] at hx; subst hx; simp [hp, pin])
theorem made_c9 (d : Nat) (hd : d ≤ 1000) (IH : MadeC d) (s : Src) (hs : s.ok) (hk : nextV s 12 = 9) :
    PCB Try.prog 4 [Sp pin, I .i64 (d + 1 : Nat)] [(pin, srcB s)] (Dt (made (d + 1) s).1) [(pin, srcB (made (d + 1) s).2)] := by
  have hM : made (d + 1) s = ({ zeroDat with kind := 6, kids := (madeN (made d) (nextV (nextS s 12) 4).toNat (nextS (nextS s 12) 4) []).1 }, (madeN (made d) (nextV (nextS s 12) 4).toNat (nextS (nextS s 12) 4) []).2) := by
    simp only [made, hk]; rfl
  rw [hM]
  refine PCB.ob Try.func4 Try.ntmps4 Try.results4 ?_
  refine AWP.ghQ ?_
  have hs1 := ok_next hs 12
  have a1 := nextV_in (nextS s 12) (n := 4) (by omega)
  have hgt : decide ((6 : Int) < 9) = true := by decide
  have hd0 : decide (((d + 1 : Nat) : Int) = 0) = false := by simp; omega
  have hn : nextV (nextS s 12) 4 = (((nextV (nextS s 12) 4).toNat : Nat) : Int) := by omega
  repeat' (first | (simp only [go_sem, pin, hk, hgt, hd0]; all_goals refine nf ?_) | (refine stp ?_; intro K hK) | (apply hK; clear hK K) | refine stn ?_ | (refine AWP.cnd ?_ ?_ <;> intro h <;> (try simp only [zM, zN] at h)) | (refine ⟨fun h => ?_, fun h => ?_⟩ <;> (try simp only [zM, zN] at h) <;> try simp only [h]) | (refine ⟨1000000, _, _, _, next_k 1000000 _ (by repeat (first | with_reducible exact hs | with_reducible refine ok_next ?_ _)) _ (by omega), rfl, ?_⟩) | (with_reducible refine AWP.segP (id := 14) 13 mixed (by kernel_rfl) fun K hK => ?_; simp only [List.take_succ_cons, List.take_zero, List.drop_succ_cons, List.drop_zero]) | (with_reducible refine AWP.segP (id := 25) 8 mixed (by kernel_rfl) fun K hK => ?_; simp only [List.take_succ_cons, List.take_zero, List.drop_succ_cons, List.drop_zero]) | (with_reducible refine AWP.segP (id := 40) 7 mixed (by kernel_rfl) fun K hK => ?_; simp only [List.take_succ_cons, List.take_zero, List.drop_succ_cons, List.drop_zero]) | (with_reducible refine AWP.segP (id := 47) 11 mixed (by kernel_rfl) fun K hK => ?_; simp only [List.take_succ_cons, List.take_zero, List.drop_succ_cons, List.drop_zero]) | (refine stp' ?_; intro K hK) | refine stq ?_ | (clear hK K))
  refine AWP.gh (Gh.nilrow 9 900 rfl rfl rfl rfl) ?_
  rw [hn]
  refine AWP.loopS (X := Nat × Src × List Dat) (fun x => [(10, I .i64 x.1), (9, .one (.own 900 x.2.2.length)), (0, Sp 1000000), (1, I .i64 (d + 1 : Nat)), (4, Sp 4)])
    (fun x => [(1000000, srcB x.2.1), (4, zeroB), Dr 900 x.2.2])
    (fun x => x.1 + x.2.2.length ≤ 1000 ∧ x.2.1.ok ∧ madeN (made d) (nextV (nextS s 12) 4).toNat (nextS (nextS s 12) 4) [] = madeN (made d) x.1 x.2.1 x.2.2) (fun x => x.1) ((nextV (nextS s 12) 4).toNat, nextS (nextS s 12) 4, []) (Gh.tt []) ⟨by simp; omega, ok_next hs1 _, rfl⟩ ?_
  rintro ⟨n, t, acc⟩ ⟨hl, ht, hp⟩
  simp only at hl ht hp
  cases n with
  | succ n =>
    rw [madeN] at hp
    have hw : IntKind.i64.wrap (((d + 1 : Nat) : Int) - 1) = (d : Int) := wrap_pred_nat (by omega)
    have hw2 : IntKind.i64.wrap (((n + 1 : Nat) : Int) - 1) = (n : Int) := wrap_pred_nat (by omega)
    repeat' (first | (simp only [go_sem, pin, List.length_map, dec_pos, hw, hw2, dat_snoc]; all_goals refine nf ?_) | (refine stp ?_; intro K hK) | (apply hK; clear hK K) | refine stn ?_ | (refine AWP.cnd ?_ ?_ <;> intro h <;> (try simp only [zM, zN] at h)) | (refine ⟨fun h => ?_, fun h => ?_⟩ <;> (try simp only [zM, zN] at h) <;> try simp only [h]) | (with_reducible refine ⟨by omega, ?_⟩) | (refine ⟨1000000, _, _, _, IH.k 1000000 t ht, rfl, ?_⟩) | (with_reducible refine AWP.segP (id := 14) 13 mixed (by kernel_rfl) fun K hK => ?_; simp only [List.take_succ_cons, List.take_zero, List.drop_succ_cons, List.drop_zero]) | (with_reducible refine AWP.segP (id := 25) 8 mixed (by kernel_rfl) fun K hK => ?_; simp only [List.take_succ_cons, List.take_zero, List.drop_succ_cons, List.drop_zero]) | (with_reducible refine AWP.segP (id := 40) 7 mixed (by kernel_rfl) fun K hK => ?_; simp only [List.take_succ_cons, List.take_zero, List.drop_succ_cons, List.drop_zero]) | (with_reducible refine AWP.segP (id := 47) 11 mixed (by kernel_rfl) fun K hK => ?_; simp only [List.take_succ_cons, List.take_zero, List.drop_succ_cons, List.drop_zero]) | (refine stp' ?_; intro K hK) | refine stq ?_ | (clear hK K))
    all_goals (refine ⟨(n, (made d t).2, acc ++ [(made d t).1]), by simp only; omega, ⟨by simp only [List.length_append, List.length_cons, List.length_nil]; omega, ok_made d ht, hp⟩, Gh.tt [(900, 115)]⟩)
  | zero =>
    rw [madeN] at hp
    have h0 : decide ((0 : Int) < ((0 : Nat) : Int)) = false := by simp
    repeat' (first | (simp only [go_sem, pin, h0]; all_goals refine nf ?_) | (refine stp ?_; intro K hK) | (apply hK; clear hK K) | refine stn ?_ | (refine AWP.cnd ?_ ?_ <;> intro h <;> (try simp only [zM, zN] at h)) | (refine ⟨fun h => ?_, fun h => ?_⟩ <;> (try simp only [zM, zN] at h) <;> try simp only [h]) | (with_reducible refine AWP.segP (id := 14) 13 mixed (by kernel_rfl) fun K hK => ?_; simp only [List.take_succ_cons, List.take_zero, List.drop_succ_cons, List.drop_zero]) | (with_reducible refine AWP.segP (id := 25) 8 mixed (by kernel_rfl) fun K hK => ?_; simp only [List.take_succ_cons, List.take_zero, List.drop_succ_cons, List.drop_zero]) | (with_reducible refine AWP.segP (id := 40) 7 mixed (by kernel_rfl) fun K hK => ?_; simp only [List.take_succ_cons, List.take_zero, List.drop_succ_cons, List.drop_zero]) | (with_reducible refine AWP.segP (id := 47) 11 mixed (by kernel_rfl) fun K hK => ?_; simp only [List.take_succ_cons, List.take_zero, List.drop_succ_cons, List.drop_zero]) | (refine stp' ?_; intro K hK) | refine stq ?_ | (clear hK K))
    refine ⟨_, Gh.fz 900, ?_⟩
    simp only [go_sem, List.length_map]
    all_goals (refine ⟨by simp only [hp, Dt, encDat_eq, zeroDat]; rfl, fun x hx => ?_⟩)
    all_goals (simp only [List.mem_singleton] at hx; subst hx; simp [hp, pin])
theorem put_len (m : Dat) (k : KeyD) (d : Dat) : (putR m k d).1.kids.length ≤ m.kids.length + 1 := by
  unfold putR
  cases putBad m k
  · simp only [cond_false, mapDat]
    have h : ∀ (l : List (KeyD × Dat)) (a : PutA), (l.foldl (putStep k d) a).kids.length + (bif (l.foldl (putStep k d) a).placed then 0 else 1) ≤ a.kids.length + (bif a.placed then 0 else 1) + l.length := by
      intro l
      induction l with
      | nil => intro a; exact Nat.le_refl _
      | cons x l ih =>
        intro a
        rw [List.foldl_cons]
        have h1 := ih (putStep k d a x)
        have h2 : (putStep k d a x).kids.length + (bif (putStep k d a x).placed then 0 else 1) ≤ a.kids.length + (bif a.placed then 0 else 1) + 1 := by
          obtain ⟨ak, ad, ap⟩ := a
          unfold putStep
          cases decide (keyCmp k x.1 ≤ 0) <;> cases decide (keyCmp k x.1 = 0) <;> cases ap <;> simp
        simp only [List.length_cons]
        omega
    have h1 := h (m.keys.zip m.kids) ⟨[], [], false⟩
    have h2 : (m.keys.zip m.kids).length ≤ m.kids.length := by simp; omega
    have h3 : ∀ a : PutA, (putEnd k d a).kids.length = a.kids.length + (bif a.placed then 0 else 1) := by
      intro a
      unfold putEnd
      cases a.placed <;> simp
    rw [h3]
    simp only [List.length_nil, cond_false, Nat.zero_add] at h1
    omega
  · simp [zeroDat]
theorem made_c10 (d : Nat) (hd : d ≤ 1000) (IH : MadeC d) (s : Src) (hs : s.ok) (hk : nextV s 12 = 10) :
    PCB Try.prog 4 [Sp pin, I .i64 (d + 1 : Nat)] [(pin, srcB s)] (Dt (made (d + 1) s).1) [(pin, srcB (made (d + 1) s).2)] := by
  have hM : made (d + 1) s = listN (made d) (1 + nextV (nextS s 12) 2).toNat (nextS (nextS s 12) 2) { zeroDat with kind := 5 } := by
    simp only [made, hk]; rfl
  rw [hM]
  refine PCB.ob Try.func4 Try.ntmps4 Try.results4 ?_
  have hs1 := ok_next hs 12
  have a1 := nextV_in (nextS s 12) (n := 2) (by omega)
  have hgt : decide ((6 : Int) < 10) = true := by decide
  have hd0 : decide (((d + 1 : Nat) : Int) = 0) = false := by simp; omega
  have hn : IntKind.i64.wrap (1 + nextV (nextS s 12) 2) = (((1 + nextV (nextS s 12) 2).toNat : Nat) : Int) := by rw [w64 (by omega)]; omega
  repeat' (first | (simp only [go_sem, pin, hk, hgt, hd0, hn]; all_goals refine nf ?_) | (refine stp ?_; intro K hK) | (apply hK; clear hK K) | refine stn ?_ | (refine AWP.cnd ?_ ?_ <;> intro h <;> (try simp only [zM, zN] at h)) | (refine ⟨fun h => ?_, fun h => ?_⟩ <;> (try simp only [zM, zN] at h) <;> try simp only [h]) | (refine ⟨1000000, _, _, _, next_k 1000000 _ (by repeat (first | with_reducible exact hs | with_reducible refine ok_next ?_ _)) _ (by omega), rfl, ?_⟩) | (with_reducible refine AWP.segP (id := 14) 13 mixed (by kernel_rfl) fun K hK => ?_; simp only [List.take_succ_cons, List.take_zero, List.drop_succ_cons, List.drop_zero]) | (with_reducible refine AWP.segP (id := 25) 8 mixed (by kernel_rfl) fun K hK => ?_; simp only [List.take_succ_cons, List.take_zero, List.drop_succ_cons, List.drop_zero]) | (with_reducible refine AWP.segP (id := 40) 7 mixed (by kernel_rfl) fun K hK => ?_; simp only [List.take_succ_cons, List.take_zero, List.drop_succ_cons, List.drop_zero]) | (with_reducible refine AWP.segP (id := 47) 11 mixed (by kernel_rfl) fun K hK => ?_; simp only [List.take_succ_cons, List.take_zero, List.drop_succ_cons, List.drop_zero]) | (refine stp' ?_; intro K hK) | refine stq ?_ | (clear hK K))
  refine AWP.gh (Gh.soft 11 rfl) ?_
  refine AWP.loopS (X := Nat × Src × Dat) (fun x => [(12, I .i64 x.1), (0, Sp 1000000), (1, I .i64 (d + 1 : Nat)), (4, Sp 4), (11, Sp 11)])
    (fun x => [(1000000, srcB x.2.1), (4, zeroB), (11, .cells ((encDat x.2.2).map .dat))])
    (fun x => x.1 ≤ 1000 ∧ x.2.1.ok ∧ listN (made d) (1 + nextV (nextS s 12) 2).toNat (nextS (nextS s 12) 2) { zeroDat with kind := 5 } = listN (made d) x.1 x.2.1 x.2.2) (fun x => x.1) ((1 + nextV (nextS s 12) 2).toNat, nextS (nextS s 12) 2, { zeroDat with kind := 5 }) (Gh.tt []) ⟨by simp only; omega, ok_next hs1 _, rfl⟩ ?_
  rintro ⟨n, t, acc⟩ ⟨hl, ht, hp⟩
  simp only at hl ht hp
  cases n with
  | succ n =>
    rw [listN] at hp
    have hw : IntKind.i64.wrap (((d + 1 : Nat) : Int) - 1) = (d : Int) := wrap_pred_nat (by omega)
    have hw2 : IntKind.i64.wrap (((n + 1 : Nat) : Int) - 1) = (n : Int) := wrap_pred_nat (by omega)
    repeat' (first | (simp only [go_sem, pin, List.length_map, dec_pos, hw, hw2]; all_goals refine nf ?_) | (refine stp ?_; intro K hK) | (apply hK; clear hK K) | refine stn ?_ | (refine AWP.cnd ?_ ?_ <;> intro h <;> (try simp only [zM, zN] at h)) | (refine ⟨fun h => ?_, fun h => ?_⟩ <;> (try simp only [zM, zN] at h) <;> try simp only [h]) | (refine ⟨1000000, _, _, _, IH.k 1000000 t ht, rfl, ?_⟩) | (with_reducible refine AWP.segE (id := 40) 7 1000000 mixed (by kernel_rfl) fun K hK => ?_; simp only [List.take_succ_cons, List.take_zero, List.drop_succ_cons, List.drop_zero, Bx.drop, cond_true, cond_false, Nat.reduceBEq]) | (with_reducible refine AWP.segP (id := 14) 13 mixed (by kernel_rfl) fun K hK => ?_; simp only [List.take_succ_cons, List.take_zero, List.drop_succ_cons, List.drop_zero]) | (with_reducible refine AWP.segP (id := 25) 8 mixed (by kernel_rfl) fun K hK => ?_; simp only [List.take_succ_cons, List.take_zero, List.drop_succ_cons, List.drop_zero]) | (with_reducible refine AWP.segP (id := 47) 11 mixed (by kernel_rfl) fun K hK => ?_; simp only [List.take_succ_cons, List.take_zero, List.drop_succ_cons, List.drop_zero]) | (refine stp' ?_; intro K hK) | refine stq ?_ | (clear hK K))
    all_goals (refine ⟨(n, (made d t).2, consDat (made d t).1 acc), by simp only; omega, ⟨by simp only; omega, ok_made d ht, hp⟩, Gh.trans (Gh.soft 11 rfl) (Gh.tt [])⟩)
  | zero =>
    rw [listN] at hp
    have h0 : decide ((0 : Int) < ((0 : Nat) : Int)) = false := by simp
    repeat' (first | (simp only [go_sem, pin, h0]; all_goals refine nf ?_) | (refine stp ?_; intro K hK) | (apply hK; clear hK K) | refine stn ?_ | (refine AWP.cnd ?_ ?_ <;> intro h <;> (try simp only [zM, zN] at h)) | (refine ⟨fun h => ?_, fun h => ?_⟩ <;> (try simp only [zM, zN] at h) <;> try simp only [h]) | (with_reducible refine AWP.segP (id := 14) 13 mixed (by kernel_rfl) fun K hK => ?_; simp only [List.take_succ_cons, List.take_zero, List.drop_succ_cons, List.drop_zero]) | (with_reducible refine AWP.segP (id := 25) 8 mixed (by kernel_rfl) fun K hK => ?_; simp only [List.take_succ_cons, List.take_zero, List.drop_succ_cons, List.drop_zero]) | (with_reducible refine AWP.segP (id := 40) 7 mixed (by kernel_rfl) fun K hK => ?_; simp only [List.take_succ_cons, List.take_zero, List.drop_succ_cons, List.drop_zero]) | (with_reducible refine AWP.segP (id := 47) 11 mixed (by kernel_rfl) fun K hK => ?_; simp only [List.take_succ_cons, List.take_zero, List.drop_succ_cons, List.drop_zero]) | (refine stp' ?_; intro K hK) | refine stq ?_ | (clear hK K))
    all_goals (refine ⟨by simp only [hp], fun x hx => ?_⟩)
    all_goals (simp only [List.mem_singleton] at hx; subst hx; simp [hp, pin])
theorem made_c11 (d : Nat) (hd : d ≤ 1000) (IH : MadeC d) (s : Src) (hs : s.ok) (hk : nextV s 12 = 11) :
    PCB Try.prog 4 [Sp pin, I .i64 (d + 1 : Nat)] [(pin, srcB s)] (Dt (made (d + 1) s).1) [(pin, srcB (made (d + 1) s).2)] := by
  have hM : made (d + 1) s = mapN (made d) (nextV (nextS s 12) 3).toNat (nextS (nextS s 12) 3) { zeroDat with kind := 8 } := by
    simp only [made, hk]; rfl
  rw [hM]
  refine PCB.ob Try.func4 Try.ntmps4 Try.results4 ?_
  have hs1 := ok_next hs 12
  have a1 := nextV_in (nextS s 12) (n := 3) (by omega)
  have hgt : decide ((6 : Int) < 11) = true := by decide
  have hd0 : decide (((d + 1 : Nat) : Int) = 0) = false := by simp; omega
  have hn : nextV (nextS s 12) 3 = (((nextV (nextS s 12) 3).toNat : Nat) : Int) := by omega
  repeat' (first | (simp only [go_sem, pin, hk, hgt, hd0]; all_goals refine nf ?_) | (refine stp ?_; intro K hK) | (apply hK; clear hK K) | refine stn ?_ | (refine AWP.cnd ?_ ?_ <;> intro h <;> (try simp only [zM, zN] at h)) | (refine ⟨fun h => ?_, fun h => ?_⟩ <;> (try simp only [zM, zN] at h) <;> try simp only [h]) | (refine ⟨1000000, _, _, _, next_k 1000000 _ (by repeat (first | with_reducible exact hs | with_reducible refine ok_next ?_ _)) _ (by omega), rfl, ?_⟩) | (with_reducible refine AWP.segP (id := 14) 13 mixed (by kernel_rfl) fun K hK => ?_; simp only [List.take_succ_cons, List.take_zero, List.drop_succ_cons, List.drop_zero]) | (with_reducible refine AWP.segP (id := 25) 8 mixed (by kernel_rfl) fun K hK => ?_; simp only [List.take_succ_cons, List.take_zero, List.drop_succ_cons, List.drop_zero]) | (with_reducible refine AWP.segP (id := 40) 7 mixed (by kernel_rfl) fun K hK => ?_; simp only [List.take_succ_cons, List.take_zero, List.drop_succ_cons, List.drop_zero]) | (with_reducible refine AWP.segP (id := 47) 11 mixed (by kernel_rfl) fun K hK => ?_; simp only [List.take_succ_cons, List.take_zero, List.drop_succ_cons, List.drop_zero]) | (refine stp' ?_; intro K hK) | refine stq ?_ | (clear hK K))
  refine AWP.gh (Gh.soft 13 rfl) ?_
  rw [hn]
  refine AWP.loopS (X := Nat × Src × Dat) (fun x => [(14, I .i64 x.1), (0, Sp 1000000), (1, I .i64 (d + 1 : Nat)), (4, Sp 4), (13, Sp 13)])
    (fun x => [(1000000, srcB x.2.1), (4, zeroB), (13, .cells ((encDat x.2.2).map .dat))])
    (fun x => x.1 + x.2.2.kids.length ≤ 1000 ∧ x.2.1.ok ∧ mapN (made d) (nextV (nextS s 12) 3).toNat (nextS (nextS s 12) 3) { zeroDat with kind := 8 } = mapN (made d) x.1 x.2.1 x.2.2) (fun x => x.1) ((nextV (nextS s 12) 3).toNat, nextS (nextS s 12) 3, { zeroDat with kind := 8 }) (Gh.tt []) ⟨by simp only [zeroDat, List.length_nil]; omega, ok_next hs1 _, rfl⟩ ?_
  rintro ⟨n, t, acc⟩ ⟨hl, ht, hp⟩
  simp only at hl ht hp
  cases n with
  | succ n =>
    rw [mapN] at hp
    have hw : IntKind.i64.wrap (((d + 1 : Nat) : Int) - 1) = (d : Int) := wrap_pred_nat (by omega)
    have hw2 : IntKind.i64.wrap (((n + 1 : Nat) : Int) - 1) = (n : Int) := wrap_pred_nat (by omega)
    repeat' (first | (simp only [go_sem, pin, List.length_map, dec_pos, hw, hw2]; all_goals refine nf ?_) | (refine stp ?_; intro K hK) | (apply hK; clear hK K) | refine stn ?_ | (refine AWP.cnd ?_ ?_ <;> intro h <;> (try simp only [zM, zN] at h)) | (refine ⟨fun h => ?_, fun h => ?_⟩ <;> (try simp only [zM, zN] at h) <;> try simp only [h]) | (with_reducible refine ⟨_, put_c acc _ _ (by omega), ?_⟩) | (refine ⟨1000000, _, _, _, key_k 1000000 t ht, rfl, ?_⟩) | (refine ⟨1000000, _, _, _, IH.k 1000000 (keyV t).2 (ok_key ht), rfl, ?_⟩) | (with_reducible refine AWP.segEE (id := 47) 9 1000000 13 mixed (by kernel_rfl) fun K hK => ?_; simp only [List.take_succ_cons, List.take_zero, List.drop_succ_cons, List.drop_zero, Bx.drop, cond_true, cond_false, Nat.reduceBEq]) | (with_reducible refine AWP.segP (id := 14) 13 mixed (by kernel_rfl) fun K hK => ?_; simp only [List.take_succ_cons, List.take_zero, List.drop_succ_cons, List.drop_zero]) | (with_reducible refine AWP.segP (id := 25) 8 mixed (by kernel_rfl) fun K hK => ?_; simp only [List.take_succ_cons, List.take_zero, List.drop_succ_cons, List.drop_zero]) | (with_reducible refine AWP.segP (id := 40) 7 mixed (by kernel_rfl) fun K hK => ?_; simp only [List.take_succ_cons, List.take_zero, List.drop_succ_cons, List.drop_zero]) | (with_reducible refine AWP.segP (id := 47) 11 mixed (by kernel_rfl) fun K hK => ?_; simp only [List.take_succ_cons, List.take_zero, List.drop_succ_cons, List.drop_zero]) | (refine stp' ?_; intro K hK) | refine stq ?_ | (clear hK K))
    all_goals (refine ⟨(n, (made d (keyV t).2).2, (putR acc (keyV t).1 (made d (keyV t).2).1).1), by simp only; omega, ⟨by have := put_len acc (keyV t).1 (made d (keyV t).2).1; simp only; omega, ok_made d (ok_key ht), hp⟩, Gh.tt []⟩)
  | zero =>
    rw [mapN] at hp
    have h0 : decide ((0 : Int) < ((0 : Nat) : Int)) = false := by simp
    repeat' (first | (simp only [go_sem, pin, h0]; all_goals refine nf ?_) | (refine stp ?_; intro K hK) | (apply hK; clear hK K) | refine stn ?_ | (refine AWP.cnd ?_ ?_ <;> intro h <;> (try simp only [zM, zN] at h)) | (refine ⟨fun h => ?_, fun h => ?_⟩ <;> (try simp only [zM, zN] at h) <;> try simp only [h]) | (with_reducible refine AWP.segP (id := 14) 13 mixed (by kernel_rfl) fun K hK => ?_; simp only [List.take_succ_cons, List.take_zero, List.drop_succ_cons, List.drop_zero]) | (with_reducible refine AWP.segP (id := 25) 8 mixed (by kernel_rfl) fun K hK => ?_; simp only [List.take_succ_cons, List.take_zero, List.drop_succ_cons, List.drop_zero]) | (with_reducible refine AWP.segP (id := 40) 7 mixed (by kernel_rfl) fun K hK => ?_; simp only [List.take_succ_cons, List.take_zero, List.drop_succ_cons, List.drop_zero]) | (with_reducible refine AWP.segP (id := 47) 11 mixed (by kernel_rfl) fun K hK => ?_; simp only [List.take_succ_cons, List.take_zero, List.drop_succ_cons, List.drop_zero]) | (refine stp' ?_; intro K hK) | refine stq ?_ | (clear hK K))
    all_goals (refine ⟨by simp only [hp], fun x hx => ?_⟩)
    all_goals (simp only [List.mem_singleton] at hx; subst hx; simp [hp, pin])
theorem base_c0 (dep : Nat) (s : Src) (hs : s.ok) (hk : nextV s 12 = 0) :
    PCB Try.prog 4 [Sp pin, I .i64 dep] [(pin, srcB s)] (Dt (madeBase 0 (nextS s 12)).1) [(pin, srcB (madeBase 0 (nextS s 12)).2)] := by
  refine PCB.ob Try.func4 Try.ntmps4 Try.results4 ?_
  have hs1 := ok_next hs 12
  have a1 := nextV_in (nextS s 12) (n := 4) (by omega)
  have a2 := nextV_in (nextS (nextS s 12) 3) (n := 2) (by omega)
  have a3 := nextV_in (nextS (nextS (nextS s 12) 3) 2) (n := 2) (by omega)
  have hw1 : IntKind.i64.wrap (1 + nextV (nextS (nextS (nextS s 12) 3) 2) 2) = 1 + nextV (nextS (nextS (nextS s 12) 3) 2) 2 := by rw [w64 (by omega)]
  have a4 := nextV_in (nextS s 12) (n := 5) (by omega)
  have hw2 : IntKind.i64.wrap (nextV (nextS s 12) 5 - 1) = nextV (nextS s 12) 5 - 1 := by rw [w64 (by omega)]
  have hgt : decide ((6 : Int) < 0) = false := by decide
  repeat' (first | (simp only [go_sem, pin, hk, hgt, hw1, hw2]; all_goals refine nf ?_) | (refine stp ?_; intro K hK) | (apply hK; clear hK K) | refine stn ?_ | (refine AWP.cnd ?_ ?_ <;> intro h <;> (try simp only [zM, zN] at h)) | (refine ⟨fun h => ?_, fun h => ?_⟩ <;> (try simp only [zM, zN] at h) <;> try simp only [h]) | (refine ⟨1000000, _, _, _, next_k 1000000 _ (by repeat (first | with_reducible exact hs | with_reducible refine ok_next ?_ _)) _ (by omega), rfl, ?_⟩) | (refine ⟨1000000, _, _, _, word_k 1000000 _ hs1, rfl, ?_⟩) | (refine ⟨1000000, _, _, _, number_k 1000000 _ hs1, rfl, ?_⟩) | (with_reducible refine AWP.genR (id := 14) [1,4,8,11,13] [1000000, 4] mixed (by kernel_rfl) fun K hK => ?_; simp only [Bx.outs, Bx.drop, cond_true, cond_false, Nat.reduceBEq, go_sem]) | (with_reducible refine AWP.segP (id := 25) 8 mixed (by kernel_rfl) fun K hK => ?_; simp only [List.take_succ_cons, List.take_zero, List.drop_succ_cons, List.drop_zero]) | (with_reducible refine AWP.segP (id := 40) 7 mixed (by kernel_rfl) fun K hK => ?_; simp only [List.take_succ_cons, List.take_zero, List.drop_succ_cons, List.drop_zero]) | (with_reducible refine AWP.segP (id := 47) 11 mixed (by kernel_rfl) fun K hK => ?_; simp only [List.take_succ_cons, List.take_zero, List.drop_succ_cons, List.drop_zero]) | (refine stp' ?_; intro K hK) | refine stq ?_ | (clear hK K))
  all_goals (refine ⟨by simp only [madeBase, cond_true, cond_false, decide_true, decide_false, Int.reduceEq, Dt, encDat_eq, atomDat, intDat, funDat, zeroDat]; rfl, fun x hx => ?_⟩)
  all_goals (simp only [List.mem_singleton] at hx; subst hx; simp [madeBase, pin])
theorem base_c1 (dep : Nat) (s : Src) (hs : s.ok) (hk : nextV s 12 = 1) :
    PCB Try.prog 4 [Sp pin, I .i64 dep] [(pin, srcB s)] (Dt (madeBase 1 (nextS s 12)).1) [(pin, srcB (madeBase 1 (nextS s 12)).2)] := by
  refine PCB.ob Try.func4 Try.ntmps4 Try.results4 ?_
  have hs1 := ok_next hs 12
  have a1 := nextV_in (nextS s 12) (n := 4) (by omega)
  have a2 := nextV_in (nextS (nextS s 12) 3) (n := 2) (by omega)
  have a3 := nextV_in (nextS (nextS (nextS s 12) 3) 2) (n := 2) (by omega)
  have hw1 : IntKind.i64.wrap (1 + nextV (nextS (nextS (nextS s 12) 3) 2) 2) = 1 + nextV (nextS (nextS (nextS s 12) 3) 2) 2 := by rw [w64 (by omega)]
  have a4 := nextV_in (nextS s 12) (n := 5) (by omega)
  have hw2 : IntKind.i64.wrap (nextV (nextS s 12) 5 - 1) = nextV (nextS s 12) 5 - 1 := by rw [w64 (by omega)]
  have hgt : decide ((6 : Int) < 1) = false := by decide
  repeat' (first | (simp only [go_sem, pin, hk, hgt, hw1, hw2]; all_goals refine nf ?_) | (refine stp ?_; intro K hK) | (apply hK; clear hK K) | refine stn ?_ | (refine AWP.cnd ?_ ?_ <;> intro h <;> (try simp only [zM, zN] at h)) | (refine ⟨fun h => ?_, fun h => ?_⟩ <;> (try simp only [zM, zN] at h) <;> try simp only [h]) | (refine ⟨1000000, _, _, _, next_k 1000000 _ (by repeat (first | with_reducible exact hs | with_reducible refine ok_next ?_ _)) _ (by omega), rfl, ?_⟩) | (refine ⟨1000000, _, _, _, word_k 1000000 _ hs1, rfl, ?_⟩) | (refine ⟨1000000, _, _, _, number_k 1000000 _ hs1, rfl, ?_⟩) | ( refine ⟨a1.1, [.str (atoms4.getD (nextV (nextS s 12) 4).toNat [])], lit_get (fun x => [C.str x]) atoms4 [] a1, ?_⟩) | (with_reducible refine AWP.genR (id := 14) [1,4,8,11,13] [1000000, 4] mixed (by kernel_rfl) fun K hK => ?_; simp only [Bx.outs, Bx.drop, cond_true, cond_false, Nat.reduceBEq, go_sem]) | (with_reducible refine AWP.segP (id := 25) 8 mixed (by kernel_rfl) fun K hK => ?_; simp only [List.take_succ_cons, List.take_zero, List.drop_succ_cons, List.drop_zero]) | (with_reducible refine AWP.segP (id := 40) 7 mixed (by kernel_rfl) fun K hK => ?_; simp only [List.take_succ_cons, List.take_zero, List.drop_succ_cons, List.drop_zero]) | (with_reducible refine AWP.segP (id := 47) 11 mixed (by kernel_rfl) fun K hK => ?_; simp only [List.take_succ_cons, List.take_zero, List.drop_succ_cons, List.drop_zero]) | (refine stp' ?_; intro K hK) | refine stq ?_ | (clear hK K))
  all_goals (refine ⟨by simp only [madeBase, cond_true, cond_false, decide_true, decide_false, Int.reduceEq, Dt, encDat_eq, atomDat, intDat, funDat, zeroDat]; rfl, fun x hx => ?_⟩)
  all_goals (simp only [List.mem_singleton] at hx; subst hx; simp [madeBase, pin])
theorem base_c2 (dep : Nat) (s : Src) (hs : s.ok) (hk : nextV s 12 = 2) :
    PCB Try.prog 4 [Sp pin, I .i64 dep] [(pin, srcB s)] (Dt (madeBase 2 (nextS s 12)).1) [(pin, srcB (madeBase 2 (nextS s 12)).2)] := by
  refine PCB.ob Try.func4 Try.ntmps4 Try.results4 ?_
  have hs1 := ok_next hs 12
  have a1 := nextV_in (nextS s 12) (n := 4) (by omega)
  have a2 := nextV_in (nextS (nextS s 12) 3) (n := 2) (by omega)
  have a3 := nextV_in (nextS (nextS (nextS s 12) 3) 2) (n := 2) (by omega)
  have hw1 : IntKind.i64.wrap (1 + nextV (nextS (nextS (nextS s 12) 3) 2) 2) = 1 + nextV (nextS (nextS (nextS s 12) 3) 2) 2 := by rw [w64 (by omega)]
  have a4 := nextV_in (nextS s 12) (n := 5) (by omega)
  have hw2 : IntKind.i64.wrap (nextV (nextS s 12) 5 - 1) = nextV (nextS s 12) 5 - 1 := by rw [w64 (by omega)]
  have hgt : decide ((6 : Int) < 2) = false := by decide
  repeat' (first | (simp only [go_sem, pin, hk, hgt, hw1, hw2]; all_goals refine nf ?_) | (refine stp ?_; intro K hK) | (apply hK; clear hK K) | refine stn ?_ | (refine AWP.cnd ?_ ?_ <;> intro h <;> (try simp only [zM, zN] at h)) | (refine ⟨fun h => ?_, fun h => ?_⟩ <;> (try simp only [zM, zN] at h) <;> try simp only [h]) | (refine ⟨1000000, _, _, _, next_k 1000000 _ (by repeat (first | with_reducible exact hs | with_reducible refine ok_next ?_ _)) _ (by omega), rfl, ?_⟩) | (refine ⟨1000000, _, _, _, word_k 1000000 _ hs1, rfl, ?_⟩) | (refine ⟨1000000, _, _, _, number_k 1000000 _ hs1, rfl, ?_⟩) | (with_reducible refine AWP.genR (id := 14) [1,4,8,11,13] [1000000, 4] mixed (by kernel_rfl) fun K hK => ?_; simp only [Bx.outs, Bx.drop, cond_true, cond_false, Nat.reduceBEq, go_sem]) | (with_reducible refine AWP.segP (id := 25) 8 mixed (by kernel_rfl) fun K hK => ?_; simp only [List.take_succ_cons, List.take_zero, List.drop_succ_cons, List.drop_zero]) | (with_reducible refine AWP.segP (id := 40) 7 mixed (by kernel_rfl) fun K hK => ?_; simp only [List.take_succ_cons, List.take_zero, List.drop_succ_cons, List.drop_zero]) | (with_reducible refine AWP.segP (id := 47) 11 mixed (by kernel_rfl) fun K hK => ?_; simp only [List.take_succ_cons, List.take_zero, List.drop_succ_cons, List.drop_zero]) | (refine stp' ?_; intro K hK) | refine stq ?_ | (clear hK K))
  all_goals (refine ⟨by simp only [madeBase, cond_true, cond_false, decide_true, decide_false, Int.reduceEq, Dt, encDat_eq, atomDat, intDat, funDat, zeroDat]; rfl, fun x hx => ?_⟩)
  all_goals (simp only [List.mem_singleton] at hx; subst hx; simp [madeBase, pin])
theorem base_c3 (dep : Nat) (s : Src) (hs : s.ok) (hk : nextV s 12 = 3) :
    PCB Try.prog 4 [Sp pin, I .i64 dep] [(pin, srcB s)] (Dt (madeBase 3 (nextS s 12)).1) [(pin, srcB (madeBase 3 (nextS s 12)).2)] := by
  refine PCB.ob Try.func4 Try.ntmps4 Try.results4 ?_
  have hs1 := ok_next hs 12
  have a1 := nextV_in (nextS s 12) (n := 4) (by omega)
  have a2 := nextV_in (nextS (nextS s 12) 3) (n := 2) (by omega)
  have a3 := nextV_in (nextS (nextS (nextS s 12) 3) 2) (n := 2) (by omega)
  have hw1 : IntKind.i64.wrap (1 + nextV (nextS (nextS (nextS s 12) 3) 2) 2) = 1 + nextV (nextS (nextS (nextS s 12) 3) 2) 2 := by rw [w64 (by omega)]
  have a4 := nextV_in (nextS s 12) (n := 5) (by omega)
  have hw2 : IntKind.i64.wrap (nextV (nextS s 12) 5 - 1) = nextV (nextS s 12) 5 - 1 := by rw [w64 (by omega)]
  have hgt : decide ((6 : Int) < 3) = false := by decide
  repeat' (first | (simp only [go_sem, pin, hk, hgt, hw1, hw2]; all_goals refine nf ?_) | (refine stp ?_; intro K hK) | (apply hK; clear hK K) | refine stn ?_ | (refine AWP.cnd ?_ ?_ <;> intro h <;> (try simp only [zM, zN] at h)) | (refine ⟨fun h => ?_, fun h => ?_⟩ <;> (try simp only [zM, zN] at h) <;> try simp only [h]) | (refine ⟨1000000, _, _, _, next_k 1000000 _ (by repeat (first | with_reducible exact hs | with_reducible refine ok_next ?_ _)) _ (by omega), rfl, ?_⟩) | (refine ⟨1000000, _, _, _, word_k 1000000 _ hs1, rfl, ?_⟩) | (refine ⟨1000000, _, _, _, number_k 1000000 _ hs1, rfl, ?_⟩) | (with_reducible refine AWP.genR (id := 14) [1,4,8,11,13] [1000000, 4] mixed (by kernel_rfl) fun K hK => ?_; simp only [Bx.outs, Bx.drop, cond_true, cond_false, Nat.reduceBEq, go_sem]) | (with_reducible refine AWP.segP (id := 25) 8 mixed (by kernel_rfl) fun K hK => ?_; simp only [List.take_succ_cons, List.take_zero, List.drop_succ_cons, List.drop_zero]) | (with_reducible refine AWP.segP (id := 40) 7 mixed (by kernel_rfl) fun K hK => ?_; simp only [List.take_succ_cons, List.take_zero, List.drop_succ_cons, List.drop_zero]) | (with_reducible refine AWP.segP (id := 47) 11 mixed (by kernel_rfl) fun K hK => ?_; simp only [List.take_succ_cons, List.take_zero, List.drop_succ_cons, List.drop_zero]) | (refine stp' ?_; intro K hK) | refine stq ?_ | (clear hK K))
  all_goals (refine ⟨by simp only [madeBase, cond_true, cond_false, decide_true, decide_false, Int.reduceEq, Dt, encDat_eq, atomDat, intDat, funDat, zeroDat]; rfl, fun x hx => ?_⟩)
  all_goals (simp only [List.mem_singleton] at hx; subst hx; simp [madeBase, pin])
theorem base_c4 (dep : Nat) (s : Src) (hs : s.ok) (hk : nextV s 12 = 4) :
    PCB Try.prog 4 [Sp pin, I .i64 dep] [(pin, srcB s)] (Dt (madeBase 4 (nextS s 12)).1) [(pin, srcB (madeBase 4 (nextS s 12)).2)] := by
  refine PCB.ob Try.func4 Try.ntmps4 Try.results4 ?_
  have hs1 := ok_next hs 12
  have a1 := nextV_in (nextS s 12) (n := 4) (by omega)
  have a2 := nextV_in (nextS (nextS s 12) 3) (n := 2) (by omega)
  have a3 := nextV_in (nextS (nextS (nextS s 12) 3) 2) (n := 2) (by omega)
  have hw1 : IntKind.i64.wrap (1 + nextV (nextS (nextS (nextS s 12) 3) 2) 2) = 1 + nextV (nextS (nextS (nextS s 12) 3) 2) 2 := by rw [w64 (by omega)]
  have a4 := nextV_in (nextS s 12) (n := 5) (by omega)
  have hw2 : IntKind.i64.wrap (nextV (nextS s 12) 5 - 1) = nextV (nextS s 12) 5 - 1 := by rw [w64 (by omega)]
  have hgt : decide ((6 : Int) < 4) = false := by decide
  repeat' (first | (simp only [go_sem, pin, hk, hgt, hw1, hw2]; all_goals refine nf ?_) | (refine stp ?_; intro K hK) | (apply hK; clear hK K) | refine stn ?_ | (refine AWP.cnd ?_ ?_ <;> intro h <;> (try simp only [zM, zN] at h)) | (refine ⟨fun h => ?_, fun h => ?_⟩ <;> (try simp only [zM, zN] at h) <;> try simp only [h]) | (refine ⟨1000000, _, _, _, next_k 1000000 _ (by repeat (first | with_reducible exact hs | with_reducible refine ok_next ?_ _)) _ (by omega), rfl, ?_⟩) | (refine ⟨1000000, _, _, _, word_k 1000000 _ hs1, rfl, ?_⟩) | (refine ⟨1000000, _, _, _, number_k 1000000 _ hs1, rfl, ?_⟩) | (with_reducible refine AWP.genR (id := 14) [1,4,8,11,13] [1000000, 4] mixed (by kernel_rfl) fun K hK => ?_; simp only [Bx.outs, Bx.drop, cond_true, cond_false, Nat.reduceBEq, go_sem]) | (with_reducible refine AWP.segP (id := 25) 8 mixed (by kernel_rfl) fun K hK => ?_; simp only [List.take_succ_cons, List.take_zero, List.drop_succ_cons, List.drop_zero]) | (with_reducible refine AWP.segP (id := 40) 7 mixed (by kernel_rfl) fun K hK => ?_; simp only [List.take_succ_cons, List.take_zero, List.drop_succ_cons, List.drop_zero]) | (with_reducible refine AWP.segP (id := 47) 11 mixed (by kernel_rfl) fun K hK => ?_; simp only [List.take_succ_cons, List.take_zero, List.drop_succ_cons, List.drop_zero]) | (refine stp' ?_; intro K hK) | refine stq ?_ | (clear hK K))
  all_goals (refine ⟨by simp only [madeBase, cond_true, cond_false, decide_true, decide_false, Int.reduceEq, Dt, encDat_eq, atomDat, intDat, funDat, zeroDat]; rfl, fun x hx => ?_⟩)
  all_goals (simp only [List.mem_singleton] at hx; subst hx; simp [madeBase, pin])
theorem base_c5 (dep : Nat) (s : Src) (hs : s.ok) (hk : nextV s 12 = 5) :
    PCB Try.prog 4 [Sp pin, I .i64 dep] [(pin, srcB s)] (Dt (madeBase 5 (nextS s 12)).1) [(pin, srcB (madeBase 5 (nextS s 12)).2)] := by
  refine PCB.ob Try.func4 Try.ntmps4 Try.results4 ?_
  have hs1 := ok_next hs 12
  have a1 := nextV_in (nextS s 12) (n := 4) (by omega)
  have a2 := nextV_in (nextS (nextS s 12) 3) (n := 2) (by omega)
  have a3 := nextV_in (nextS (nextS (nextS s 12) 3) 2) (n := 2) (by omega)
  have hw1 : IntKind.i64.wrap (1 + nextV (nextS (nextS (nextS s 12) 3) 2) 2) = 1 + nextV (nextS (nextS (nextS s 12) 3) 2) 2 := by rw [w64 (by omega)]
  have a4 := nextV_in (nextS s 12) (n := 5) (by omega)
  have hw2 : IntKind.i64.wrap (nextV (nextS s 12) 5 - 1) = nextV (nextS s 12) 5 - 1 := by rw [w64 (by omega)]
  have hgt : decide ((6 : Int) < 5) = false := by decide
  repeat' (first | (simp only [go_sem, pin, hk, hgt, hw1, hw2]; all_goals refine nf ?_) | (refine stp ?_; intro K hK) | (apply hK; clear hK K) | refine stn ?_ | (refine AWP.cnd ?_ ?_ <;> intro h <;> (try simp only [zM, zN] at h)) | (refine ⟨fun h => ?_, fun h => ?_⟩ <;> (try simp only [zM, zN] at h) <;> try simp only [h]) | (refine ⟨1000000, _, _, _, next_k 1000000 _ (by repeat (first | with_reducible exact hs | with_reducible refine ok_next ?_ _)) _ (by omega), rfl, ?_⟩) | (refine ⟨1000000, _, _, _, word_k 1000000 _ hs1, rfl, ?_⟩) | (refine ⟨1000000, _, _, _, number_k 1000000 _ hs1, rfl, ?_⟩) | ( refine ⟨a2.1, [.str (mods2.getD (nextV (nextS (nextS s 12) 3) 2).toNat [])], lit_get (fun x => [C.str x]) mods2 [] a2, ?_⟩) | (with_reducible refine AWP.genR (id := 14) [1,4,8,11,13] [1000000, 4] mixed (by kernel_rfl) fun K hK => ?_; simp only [Bx.outs, Bx.drop, cond_true, cond_false, Nat.reduceBEq, go_sem]) | (with_reducible refine AWP.segP (id := 25) 8 mixed (by kernel_rfl) fun K hK => ?_; simp only [List.take_succ_cons, List.take_zero, List.drop_succ_cons, List.drop_zero]) | (with_reducible refine AWP.segP (id := 40) 7 mixed (by kernel_rfl) fun K hK => ?_; simp only [List.take_succ_cons, List.take_zero, List.drop_succ_cons, List.drop_zero]) | (with_reducible refine AWP.segP (id := 47) 11 mixed (by kernel_rfl) fun K hK => ?_; simp only [List.take_succ_cons, List.take_zero, List.drop_succ_cons, List.drop_zero]) | (refine stp' ?_; intro K hK) | refine stq ?_ | (clear hK K))
  all_goals (refine ⟨by simp only [madeBase, cond_true, cond_false, decide_true, decide_false, Int.reduceEq, Dt, encDat_eq, atomDat, intDat, funDat, zeroDat]; rfl, fun x hx => ?_⟩)
  all_goals (simp only [List.mem_singleton] at hx; subst hx; simp [madeBase, pin])
theorem base_c6 (dep : Nat) (s : Src) (hs : s.ok) (hk : nextV s 12 = 6) :
    PCB Try.prog 4 [Sp pin, I .i64 dep] [(pin, srcB s)] (Dt (madeBase 6 (nextS s 12)).1) [(pin, srcB (madeBase 6 (nextS s 12)).2)] := by
  refine PCB.ob Try.func4 Try.ntmps4 Try.results4 ?_
  have hs1 := ok_next hs 12
  have a1 := nextV_in (nextS s 12) (n := 4) (by omega)
  have a2 := nextV_in (nextS (nextS s 12) 3) (n := 2) (by omega)
  have a3 := nextV_in (nextS (nextS (nextS s 12) 3) 2) (n := 2) (by omega)
  have hw1 : IntKind.i64.wrap (1 + nextV (nextS (nextS (nextS s 12) 3) 2) 2) = 1 + nextV (nextS (nextS (nextS s 12) 3) 2) 2 := by rw [w64 (by omega)]
  have a4 := nextV_in (nextS s 12) (n := 5) (by omega)
  have hw2 : IntKind.i64.wrap (nextV (nextS s 12) 5 - 1) = nextV (nextS s 12) 5 - 1 := by rw [w64 (by omega)]
  have hgt : decide ((6 : Int) < 6) = false := by decide
  repeat' (first | (simp only [go_sem, pin, hk, hgt, hw1, hw2]; all_goals refine nf ?_) | (refine stp ?_; intro K hK) | (apply hK; clear hK K) | refine stn ?_ | (refine AWP.cnd ?_ ?_ <;> intro h <;> (try simp only [zM, zN] at h)) | (refine ⟨fun h => ?_, fun h => ?_⟩ <;> (try simp only [zM, zN] at h) <;> try simp only [h]) | (refine ⟨1000000, _, _, _, next_k 1000000 _ (by repeat (first | with_reducible exact hs | with_reducible refine ok_next ?_ _)) _ (by omega), rfl, ?_⟩) | (refine ⟨1000000, _, _, _, word_k 1000000 _ hs1, rfl, ?_⟩) | (refine ⟨1000000, _, _, _, number_k 1000000 _ hs1, rfl, ?_⟩) | (with_reducible refine AWP.genR (id := 14) [1,4,8,11,13] [1000000, 4] mixed (by kernel_rfl) fun K hK => ?_; simp only [Bx.outs, Bx.drop, cond_true, cond_false, Nat.reduceBEq, go_sem]) | (with_reducible refine AWP.segP (id := 25) 8 mixed (by kernel_rfl) fun K hK => ?_; simp only [List.take_succ_cons, List.take_zero, List.drop_succ_cons, List.drop_zero]) | (with_reducible refine AWP.segP (id := 40) 7 mixed (by kernel_rfl) fun K hK => ?_; simp only [List.take_succ_cons, List.take_zero, List.drop_succ_cons, List.drop_zero]) | (with_reducible refine AWP.segP (id := 47) 11 mixed (by kernel_rfl) fun K hK => ?_; simp only [List.take_succ_cons, List.take_zero, List.drop_succ_cons, List.drop_zero]) | (refine stp' ?_; intro K hK) | refine stq ?_ | (clear hK K))
  all_goals (refine ⟨by simp only [madeBase, cond_true, cond_false, decide_true, decide_false, Int.reduceEq, Dt, encDat_eq, atomDat, intDat, funDat, zeroDat]; rfl, fun x hx => ?_⟩)
  all_goals (simp only [List.mem_singleton] at hx; subst hx; simp [madeBase, pin])
/-- the row of ones that grows -/
abbrev onesB (n : Nat) : Nat × Res := (900, .row 1 ((List.replicate n (1 : Int)).map encInt))
abbrev arrB (n : Nat) : Nat × Res := (75, .cells [.dat (.int .i64 14), .dat (.int .i64 0), .dat (.int .i64 0), .dat (.str []), .own 900 n, .dat (.nil 4), .dat (.int .i64 0), .dat (.int .i64 0), .dat (.int .i64 2), .dat (.int .i64 0), .dat (.int .i64 0), .dat (.str []), .dat (.nil 1), .dat (.nil 4), .dat (.int .i64 0), .dat (.int .i64 0)])
theorem ones_snoc (k : Nat) : (List.replicate k (1 : Int)).map encInt ++ [[C.int .i64 1]] = (List.replicate (k + 1) (1 : Int)).map encInt := by simp [List.replicate_succ', encInt]
theorem made_c7 (d : Nat) (hd : d ≤ 1000) (IH : MadeC 0) (s : Src) (hs : s.ok) (hk : nextV s 12 = 7) :
    PCB Try.prog 4 [Sp pin, I .i64 (d + 1 : Nat)] [(pin, srcB s)] (Dt (made (d + 1) s).1) [(pin, srcB (made (d + 1) s).2)] := by
  have hM : made (d + 1) s = bif decide ((made0 (nextS s 12)).1.kind = 9) then (wrapD (made0 (nextS s 12)).1, (made0 (nextS s 12)).2) else made0 (nextS s 12) := by
    simp only [made, hk]; rfl
  rw [hM]
  refine PCB.ob Try.func4 Try.ntmps4 Try.results4 ?_
  refine AWP.ghQ ?_
  have hs1 := ok_next hs 12
  have hgt : decide ((6 : Int) < 7) = true := by decide
  have hd0 : decide (((d + 1 : Nat) : Int) = 0) = false := by simp; omega
  cases h9 : decide ((made0 (nextS s 12)).1.kind = 9) with
  | false =>
    repeat' (first | (simp only [go_sem, pin, hk, hgt, hd0, h9, made]; all_goals refine nf ?_) | (refine stp ?_; intro K hK) | (apply hK; clear hK K) | refine stn ?_ | (refine AWP.cnd ?_ ?_ <;> intro h <;> (try simp only [zM, zN] at h)) | (refine ⟨fun h => ?_, fun h => ?_⟩ <;> (try simp only [zM, zN] at h) <;> try simp only [h]) | (refine ⟨1000000, _, _, _, next_k 1000000 _ (by repeat (first | with_reducible exact hs | with_reducible refine ok_next ?_ _)) _ (by omega), rfl, ?_⟩) | (refine ⟨1000000, _, _, _, IH.k 1000000 (nextS s 12) hs1, rfl, ?_⟩) | (with_reducible refine AWP.segP (id := 14) 13 mixed (by kernel_rfl) fun K hK => ?_; simp only [List.take_succ_cons, List.take_zero, List.drop_succ_cons, List.drop_zero]) | (with_reducible refine AWP.segP (id := 25) 8 mixed (by kernel_rfl) fun K hK => ?_; simp only [List.take_succ_cons, List.take_zero, List.drop_succ_cons, List.drop_zero]) | (with_reducible refine AWP.segP (id := 40) 7 mixed (by kernel_rfl) fun K hK => ?_; simp only [List.take_succ_cons, List.take_zero, List.drop_succ_cons, List.drop_zero]) | (with_reducible refine AWP.segP (id := 47) 11 mixed (by kernel_rfl) fun K hK => ?_; simp only [List.take_succ_cons, List.take_zero, List.drop_succ_cons, List.drop_zero]) | (refine stp' ?_; intro K hK) | refine stq ?_ | (clear hK K))
    all_goals (refine ⟨_, Gh.refl _, ?_⟩)
    all_goals simp only [go_sem]
    all_goals (intro x hx)
    all_goals (simp only [List.mem_singleton] at hx; subst hx; simp [pin])
  | true =>
    have hnum := made0_fun (nextS s 12) (by simpa using h9)
    repeat' (first | (simp only [go_sem, pin, hk, hgt, hd0, h9, made]; all_goals refine nf ?_) | (refine stp ?_; intro K hK) | (apply hK; clear hK K) | refine stn ?_ | (refine AWP.cnd ?_ ?_ <;> intro h <;> (try simp only [zM, zN] at h)) | (refine ⟨fun h => ?_, fun h => ?_⟩ <;> (try simp only [zM, zN] at h) <;> try simp only [h]) | (with_reducible (refine Or.inr (show vBuildOwn _ 75 _ _ _ _ _ _ from ?_); unfold vBuildOwn; with_reducible refine Or.inl ?_; simp only [vBuildArr, go_sem, pin, hk, hgt, hd0, h9, made])) | (refine ⟨1000000, _, _, _, next_k 1000000 _ (by repeat (first | with_reducible exact hs | with_reducible refine ok_next ?_ _)) _ (by omega), rfl, ?_⟩) | (refine ⟨1000000, _, _, _, IH.k 1000000 (nextS s 12) hs1, rfl, ?_⟩) | (with_reducible refine AWP.segP (id := 14) 13 mixed (by kernel_rfl) fun K hK => ?_; simp only [List.take_succ_cons, List.take_zero, List.drop_succ_cons, List.drop_zero]) | (with_reducible refine AWP.segP (id := 25) 8 mixed (by kernel_rfl) fun K hK => ?_; simp only [List.take_succ_cons, List.take_zero, List.drop_succ_cons, List.drop_zero]) | (with_reducible refine AWP.segP (id := 40) 7 mixed (by kernel_rfl) fun K hK => ?_; simp only [List.take_succ_cons, List.take_zero, List.drop_succ_cons, List.drop_zero]) | (with_reducible refine AWP.segP (id := 47) 11 mixed (by kernel_rfl) fun K hK => ?_; simp only [List.take_succ_cons, List.take_zero, List.drop_succ_cons, List.drop_zero]) | (refine stp' ?_; intro K hK) | refine stq ?_ | (clear hK K))
    refine AWP.gh (Gh.nilcell 75 4 900 rfl rfl rfl (by simp only [go_sem]) (by simp only [go_sem])) ?_
    refine AWP.loopS (X := Nat × Unit) (fun x => [(8, I .i64 x.1), (0, Sp 1000000), (1, I .i64 (d + 1 : Nat)), (4, Sp 4), (6, Sp 6), (7, Sp 7)])
      (fun x => [(1000000, srcB (made0 (nextS s 12)).2), (4, zeroB), (6, .cells ((encDat (made0 (nextS s 12)).1).map .dat)), (7, .cells [.arr 75 2, .dat (.int .i64 0)]), arrB x.1, onesB x.1])
      (fun x => (x.1 : Int) ≤ (made0 (nextS s 12)).1.num + 1) (fun x => 4 - x.1) (0, ()) ?_ (by simp only; omega) ?_
    · refine Gh.tt []
    rintro ⟨k, u⟩ hk1
    simp only at hk1
    by_cases hlt : (k : Int) ≤ (made0 (nextS s 12)).1.num
    · have hb : decide ((k : Int) ≤ (made0 (nextS s 12)).1.num) = true := by simpa using hlt
      repeat' (first | (simp only [go_sem, List.length_map, hb, ones_snoc, List.length_replicate]; all_goals refine nf ?_) | (refine stp ?_; intro K hK) | (apply hK; clear hK K) | refine stn ?_ | (refine AWP.cnd ?_ ?_ <;> intro h <;> (try simp only [zM, zN] at h)) | (refine ⟨fun h => ?_, fun h => ?_⟩ <;> (try simp only [zM, zN] at h) <;> try simp only [h]) | (with_reducible refine ⟨by omega, ?_⟩) | (with_reducible refine AWP.genR (id := 25) [6,8,11] [75,900] mixed (by kernel_rfl) fun K hK => ?_; simp only [Bx.outs, Bx.drop, cond_true, cond_false, Nat.reduceBEq, go_sem]) | (with_reducible refine AWP.segP (id := 14) 13 mixed (by kernel_rfl) fun K hK => ?_; simp only [List.take_succ_cons, List.take_zero, List.drop_succ_cons, List.drop_zero]) | (with_reducible refine AWP.segP (id := 40) 7 mixed (by kernel_rfl) fun K hK => ?_; simp only [List.take_succ_cons, List.take_zero, List.drop_succ_cons, List.drop_zero]) | (with_reducible refine AWP.segP (id := 47) 11 mixed (by kernel_rfl) fun K hK => ?_; simp only [List.take_succ_cons, List.take_zero, List.drop_succ_cons, List.drop_zero]) | (refine stp' ?_; intro K hK) | refine stq ?_ | (clear hK K))
      all_goals (rw [wrap_succ (m := 4) (by omega) (by omega)])
      all_goals (refine ⟨(k + 1, ()), by simp only; omega, by simp only; omega, Gh.tt [(900, 91)]⟩)
    · have hb : decide ((k : Int) ≤ (made0 (nextS s 12)).1.num) = false := by simpa using hlt
      repeat' (first | (simp only [go_sem, List.length_map, hb]; all_goals refine nf ?_) | (refine stp ?_; intro K hK) | (apply hK; clear hK K) | refine stn ?_ | (refine AWP.cnd ?_ ?_ <;> intro h <;> (try simp only [zM, zN] at h)) | (refine ⟨fun h => ?_, fun h => ?_⟩ <;> (try simp only [zM, zN] at h) <;> try simp only [h]) | (with_reducible refine AWP.segP (id := 14) 13 mixed (by kernel_rfl) fun K hK => ?_; simp only [List.take_succ_cons, List.take_zero, List.drop_succ_cons, List.drop_zero]) | (with_reducible refine AWP.segP (id := 25) 8 mixed (by kernel_rfl) fun K hK => ?_; simp only [List.take_succ_cons, List.take_zero, List.drop_succ_cons, List.drop_zero]) | (with_reducible refine AWP.segP (id := 40) 7 mixed (by kernel_rfl) fun K hK => ?_; simp only [List.take_succ_cons, List.take_zero, List.drop_succ_cons, List.drop_zero]) | (with_reducible refine AWP.segP (id := 47) 11 mixed (by kernel_rfl) fun K hK => ?_; simp only [List.take_succ_cons, List.take_zero, List.drop_succ_cons, List.drop_zero]) | (refine stp' ?_; intro K hK) | refine stq ?_ | (clear hK K))
      refine GhQ.step (Gh.freeze 900 rfl rfl (by simp only [go_sem, List.length_map, List.length_replicate]) (by simp only [go_sem, List.length_map, List.length_replicate])) ?_
      simp only [go_sem, List.length_map, List.length_replicate]
      refine GhQ.step (Gh.freezeA 75 8 [encNode (node14 k), encNode node2] rfl (by rfl) (by rfl) (by simp [maxLen]) rfl (by simp only [go_sem]) (by simp only [go_sem])) ?_
      have ek : ((made0 (nextS s 12)).1.num + 1).toNat = k := by omega
      refine ⟨_, Gh.refl _, ?_⟩
      simp only [go_sem]
      refine ⟨by rw [Dt, encDat_eq (wrapD _), wrapD, ek]; rfl, fun x hx => ?_⟩
      simp only [List.mem_singleton] at hx; subst hx; simp [pin]
theorem base_cz (s : Src) (hs : s.ok) (hk : 6 < nextV s 12) :
    PCB Try.prog 4 [Sp pin, I .i64 (0 : Nat)] [(pin, srcB s)] (Dt (madeBase 0 (nextS s 12)).1) [(pin, srcB (madeBase 0 (nextS s 12)).2)] := by
  refine PCB.ob Try.func4 Try.ntmps4 Try.results4 ?_
  have hs1 := ok_next hs 12
  have a4 := nextV_in (nextS s 12) (n := 5) (by omega)
  have hw2 : IntKind.i64.wrap (nextV (nextS s 12) 5 - 1) = nextV (nextS s 12) 5 - 1 := by rw [w64 (by omega)]
  have hgt : decide ((6 : Int) < nextV s 12) = true := by simpa using hk
  have h00 : decide (((0 : Nat) : Int) = 0) = true := by decide
  repeat' (first | (simp only [go_sem, pin, hgt, h00, hw2]; all_goals refine nf ?_) | (refine stp ?_; intro K hK) | (apply hK; clear hK K) | refine stn ?_ | (refine AWP.cnd ?_ ?_ <;> intro h <;> (try simp only [zM, zN] at h)) | (refine ⟨fun h => ?_, fun h => ?_⟩ <;> (try simp only [zM, zN] at h) <;> try simp only [h]) | (refine ⟨1000000, _, _, _, next_k 1000000 _ (by repeat (first | with_reducible exact hs | with_reducible refine ok_next ?_ _)) _ (by omega), rfl, ?_⟩) | (with_reducible refine AWP.segP (id := 14) 13 mixed (by kernel_rfl) fun K hK => ?_; simp only [List.take_succ_cons, List.take_zero, List.drop_succ_cons, List.drop_zero]) | (with_reducible refine AWP.segP (id := 25) 8 mixed (by kernel_rfl) fun K hK => ?_; simp only [List.take_succ_cons, List.take_zero, List.drop_succ_cons, List.drop_zero]) | (with_reducible refine AWP.segP (id := 40) 7 mixed (by kernel_rfl) fun K hK => ?_; simp only [List.take_succ_cons, List.take_zero, List.drop_succ_cons, List.drop_zero]) | (with_reducible refine AWP.segP (id := 47) 11 mixed (by kernel_rfl) fun K hK => ?_; simp only [List.take_succ_cons, List.take_zero, List.drop_succ_cons, List.drop_zero]) | (refine stp' ?_; intro K hK) | refine stq ?_ | (clear hK K))
  all_goals (refine ⟨by simp only [madeBase, cond_true, cond_false, decide_true, decide_false, Int.reduceEq, Dt, encDat_eq, atomDat, intDat, funDat, zeroDat]; rfl, fun x hx => ?_⟩)
  all_goals (simp only [List.mem_singleton] at hx; subst hx; simp [madeBase, pin])
theorem made_c0 : MadeC 0 := by
  intro s hs
  have hv := nextV_in s (n := 12) (by omega)
  by_cases h6 : nextV s 12 ≤ 6
  · have hk' : nextV s 12 = 0 ∨ nextV s 12 = 1 ∨ nextV s 12 = 2 ∨ nextV s 12 = 3 ∨ nextV s 12 = 4 ∨ nextV s 12 = 5 ∨ nextV s 12 = 6 := by omega
    have hM : made 0 s = madeBase (nextV s 12) (nextS s 12) := by
      have : decide (6 < nextV s 12) = false := by simpa using h6
      simp only [made, made0, this, cond_false]
    rw [hM]
    rcases hk' with h | h | h | h | h | h | h <;> rw [h]
    · exact base_c0 0 s hs h
    · exact base_c1 0 s hs h
    · exact base_c2 0 s hs h
    · exact base_c3 0 s hs h
    · exact base_c4 0 s hs h
    · exact base_c5 0 s hs h
    · exact base_c6 0 s hs h
  · have hM : made 0 s = madeBase 0 (nextS s 12) := by
      have : decide (6 < nextV s 12) = true := by simpa using h6
      simp only [made, made0, this, cond_true]
    rw [hM]
    exact base_cz s hs (by omega)
theorem made_c : ∀ d : Nat, d ≤ 1000 → MadeC d
  | 0, _ => made_c0
  | d + 1, hd => by
    intro s hs
    have IH := made_c d (by omega)
    have hv := nextV_in s (n := 12) (by omega)
    have hk' : nextV s 12 = 0 ∨ nextV s 12 = 1 ∨ nextV s 12 = 2 ∨ nextV s 12 = 3 ∨ nextV s 12 = 4 ∨ nextV s 12 = 5 ∨ nextV s 12 = 6 ∨ nextV s 12 = 7 ∨ nextV s 12 = 8 ∨ nextV s 12 = 9 ∨ nextV s 12 = 10 ∨ nextV s 12 = 11 := by omega
    have hM : nextV s 12 ≤ 6 → made (d + 1) s = madeBase (nextV s 12) (nextS s 12) := by
      intro h6
      have : decide (nextV s 12 ≤ 6) = true := by simpa using h6
      simp only [made, this, cond_true]
    rcases hk' with h | h | h | h | h | h | h | h | h | h | h | h
    · rw [hM (by omega), h]; exact base_c0 (d + 1) s hs h
    · rw [hM (by omega), h]; exact base_c1 (d + 1) s hs h
    · rw [hM (by omega), h]; exact base_c2 (d + 1) s hs h
    · rw [hM (by omega), h]; exact base_c3 (d + 1) s hs h
    · rw [hM (by omega), h]; exact base_c4 (d + 1) s hs h
    · rw [hM (by omega), h]; exact base_c5 (d + 1) s hs h
    · rw [hM (by omega), h]; exact base_c6 (d + 1) s hs h
    · exact made_c7 d (by omega) made_c0 s hs h
    · exact made_c8 d (by omega) IH s hs h
    · exact made_c9 d (by omega) IH s hs h
    · exact made_c10 d (by omega) IH s hs h
    · exact made_c11 d (by omega) IH s hs h
end Go.Proofs.Ythpndlinlhapgaa

set_option linter.unusedSimpArgs false
set_option linter.unusedVariables false
set_option maxRecDepth 20000
set_option maxHeartbeats 1000000
namespace Go.Proofs.Ythpndlinlhapgaa
open Go Go.Sx
open Bool renaming not_eq_true' → zM, not_eq_false' → zN
theorem cloneKeys_c (l : List KeyD) (hl : l.length ≤ 1000000) : PC Try.prog 31 [.one (.dat (.sl 2 (l.map encKey)))] (.one (.dat (.sl 2 (l.map encKey)))) := by
  refine PCB.ob Try.func31 Try.ntmps31 Try.results31 ?_
  refine AWP.ghQ ?_
  repeat' (first | ( refine AWP.nilR (e := 24) rfl (by decide) (by decide) rfl (fun hnil => ?_) ?_) | (simp only [go_sem, List.length_map]; all_goals refine nf ?_) | (refine stp ?_; intro K hK) | (apply hK; clear hK K) | refine stn ?_ | (refine AWP.cnd ?_ ?_ <;> intro h <;> (try simp only [zM, zN] at h)) | (refine ⟨fun h => ?_, fun h => ?_⟩ <;> (try simp only [zM, zN] at h) <;> try simp only [h]) | (with_reducible first | (refine Or.inr (show vBuildOwn _ 5 _ _ _ _ _ _ from ?_); unfold vBuildOwn; with_reducible refine Or.inr ?_; simp only [vBuildRow, go_sem, List.length_map]) | refine ⟨by omega, ?_⟩) | refine stq ?_ | (clear hK K))
  · refine ⟨_, Gh.refl _, ?_⟩
    simp only [go_sem]
    refine fin0 ?_
    rw [hnil]
  ·
    refine ⟨_, Gh.fz 7, ?_⟩
    simp only [go_sem, List.length_map]
    all_goals (first | exact fun _ h => absurd h List.not_mem_nil | refine fin0 ?_)
    all_goals rfl
/-- no row too long for an append -/
inductive Small : Dat → Prop
  | mk (d : Dat) (h1 : d.kids.length ≤ 1000000) (h2 : d.keys.length ≤ 1000000) (h : ∀ k ∈ d.kids, Small k) : Small d
theorem Small.kids {d : Dat} (h : Small d) : d.kids.length ≤ 1000000 := by cases h; assumption
theorem Small.keys {d : Dat} (h : Small d) : d.keys.length ≤ 1000000 := by cases h; assumption
theorem Small.kid {d : Dat} (h : Small d) : ∀ k ∈ d.kids, Small k := by cases h; assumption
end Go.Proofs.Ythpndlinlhapgaa

set_option linter.unusedVariables false
set_option linter.unusedSimpArgs false
namespace Go.Sx
variable {P : Program} {n : Nat} {Q : Exit → AS → Prop}
mutual
/-- the row k, that has len elements, is spoken of at its full length -/
def Cell.rfOk (k len : Nat) : Cell → Prop
  | .ptr j o => (j == k) = true → o ≤ len
  | .clo _ caps => Cell.rfOks k len caps
  | _ => True
def Cell.rfOks (k len : Nat) : List Cell → Prop
  | [] => True
  | c :: cs => Cell.rfOk k len c ∧ Cell.rfOks k len cs
end
mutual
def Cell.rf (k : Nat) (row : List C) : Cell → Cell
  | .ptr j o => bif j == k then .ref (row.drop o) else .ptr j o
  | .clo f caps => .clo f (Cell.rfs k row caps)
  | .dat c => .dat c
  | .own j m => .own j m
  | .rp j s i f => .rp j s i f
  | .arr j n => .arr j n
  | .ref r => .ref r
  | .mp j => .mp j
def Cell.rfs (k : Nat) (row : List C) : List Cell → List Cell
  | [] => []
  | c :: cs => Cell.rf k row c :: Cell.rfs k row cs
end
mutual
def T.rfOk (k len : Nat) : T → Prop
  | .one c => c.rfOk k len
  | .agg cs => Cell.rfOks k len cs
  | .tup ts => T.rfOks k len ts
  | _ => True
def T.rfOks (k len : Nat) : List T → Prop
  | [] => True
  | t :: ts => T.rfOk k len t ∧ T.rfOks k len ts
end
mutual
def T.rf (k : Nat) (row : List C) : T → T
  | .one c => .one (c.rf k row)
  | .agg cs => mkAgg (Cell.rfs k row cs)
  | .tup ts => .tup (T.rfs k row ts)
  | .st r => .st r
  | .un => .un
def T.rfs (k : Nat) (row : List C) : List T → List T
  | [] => []
  | t :: ts => T.rf k row t :: T.rfs k row ts
end
theorem At.drop {M : Mem} {b : Nat} {mid : List Value} (h : At (M b) 0 mid) (o : Nat) (ho : o ≤ mid.length) : At (M b) o (mid.drop o) := by
  obtain ⟨c, et, fz, pre, post, e, h1, h2⟩ := h
  have : pre = [] := List.length_eq_zero_iff.1 h2
  subst this
  refine ⟨c, et, fz, mid.take o, post, e, ?_, by simp; omega⟩
  rw [h1, List.nil_append, ← List.append_assoc, List.take_append_drop]
def rfE (k : Nat) (row : List C) : Env → Env
  | [] => []
  | p :: env => (p.1, p.2.rf k row) :: rfE k row env
def Env.rfOk (k len : Nat) : Env → Prop
  | [] => True
  | p :: env => p.2.rfOk k len ∧ Env.rfOk k len env
def rfB (k : Nat) (row : List C) : Bx → Bx
  | [] => []
  | p :: B => (match p.2 with
    | .cells cs => (p.1, .cells (Cell.rfs k row cs))
    | r => (p.1, r)) :: rfB k row B
def Bx.rfOk (k len : Nat) : Bx → Prop
  | [] => True
  | p :: B => (match p.2 with
    | .cells cs => Cell.rfOks k len cs
    | _ => True) ∧ Bx.rfOk k len B
/-- the cells of a box as data -/
def datRow : List Cell → Option (List C)
  | [] => some []
  | .dat c :: cs => match datRow cs with
    | some r => some (c :: r)
    | none => none
  | _ => none
attribute [go_sem] rfE rfB Env.rfOk Bx.rfOk T.rf T.rfs Cell.rf Cell.rfs T.rfOk T.rfOks Cell.rfOk Cell.rfOks datRow List.drop_zero
end Go.Sx
set_option linter.unusedSimpArgs false
set_option linter.unusedVariables false
set_option maxRecDepth 20000
set_option maxHeartbeats 8000000
namespace Go.Proofs.Ythpndlinlhapgaa
open Go Go.Sx
open Bool renaming not_eq_true' → zM, not_eq_false' → zN
structure Pat where
  kind : Int
  num : Int
  text : List UInt8
  kids : List Pat
  keys : List KeyD
mutual
def encP : Pat → List C
  | ⟨kind, num, text, kids, keys⟩ => [.int .i64 kind, .int .i64 num, .str text, .sl 5 (encPs kids), .sl 2 (keys.map encKey)]
def encPs : List Pat → List (List C)
  | [] => []
  | g :: l => encP g :: encPs l
end
theorem encPs_eq : ∀ l : List Pat, encPs l = l.map encP
  | [] => by simp only [encPs, List.map_nil]
  | g :: l => by simp only [encPs, List.map_cons, encPs_eq l]
theorem encP_eq (g : Pat) : encP g = [.int .i64 g.kind, .int .i64 g.num, .str g.text, .sl 5 (g.kids.map encP), .sl 2 (g.keys.map encKey)] := by cases g; simp only [encP, encPs_eq]
theorem encP_lit (x : Pat) : encP x = [.int .i64 x.kind, .int .i64 x.num, .str x.text, .sl 5 (x.kids.map encP), .sl 2 (x.keys.map encKey)] := encP_eq x
@[go_sem] theorem encP_cut (x : Pat) : cutC 5 (encP x) = some (encP x, []) := by rw [encP_eq]; rfl
@[go_sem low] theorem encP_cutk (x : Pat) (k : Nat) : cutC k (encP x) = cutC k [.int .i64 x.kind, .int .i64 x.num, .str x.text, .sl 5 (x.kids.map encP), .sl 2 (x.keys.map encKey)] := by rw [encP_lit]
@[go_sem] theorem encP_cutm (x : Pat) : cutC 5 ((encP x).map Cell.dat) = some ((encP x).map Cell.dat, []) := by rw [encP_eq]; rfl
@[go_sem low] theorem encP_cutmk (x : Pat) (k : Nat) : cutC k ((encP x).map Cell.dat) = cutC k (([.int .i64 x.kind, .int .i64 x.num, .str x.text, .sl 5 (x.kids.map encP), .sl 2 (x.keys.map encKey)] : List C).map Cell.dat) := by rw [encP_lit]
@[go_sem] theorem encP_soft (x : Pat) : (encP x).map C.soft = encP x := by rw [encP_eq]; rfl
@[go_sem] theorem encP_len (x : Pat) : lenIs 5 (encP x) = true := by rw [encP_eq]; rfl
@[go_sem high] theorem encP_takeP (x : Pat) (n : Nat) (K : T → Prop) : takeP false n (encP x) K = K (.one (.dat (.int .i64 x.kind))) := by rw [encP_lit]; rfl
@[go_sem high] theorem encP_takeT (x : Pat) (n : Nat) (K : T → Prop) : takeT false n ((encP x).map Cell.dat) K = K (.one (.dat (.int .i64 x.kind))) := by rw [encP_lit]; rfl
@[go_sem] theorem encP_lenm (x : Pat) : lenIs 5 ((encP x).map Cell.dat) = true := by rw [encP_eq]; rfl
mutual
def cntP : Pat → Nat
  | ⟨_, _, _, kids, _⟩ => 1 + cntPs kids
def cntPs : List Pat → Nat
  | [] => 0
  | g :: l => cntP g + cntPs l
end
theorem cntP_eq (g : Pat) : cntP g = 1 + cntPs g.kids := by cases g; simp only [cntP]
theorem cntPs_mem : ∀ {l : List Pat} {g : Pat}, g ∈ l → cntP g ≤ cntPs l
  | x :: l, g, h => by
    simp only [cntPs]
    rcases List.mem_cons.1 h with rfl | h
    · omega
    · have := cntPs_mem h; omega
abbrev PSm (g : Pat) : Prop := cntP g ≤ 100000000
theorem cntP_kid {g k : Pat} (h : k ∈ g.kids) : cntP k < cntP g := by have := cntP_eq g; have := cntPs_mem h; omega
theorem PSm.kid {g : Pat} (h : PSm g) : ∀ k ∈ g.kids, PSm k := fun k hk => by have := cntP_kid hk; unfold PSm at *; omega
end Go.Proofs.Ythpndlinlhapgaa
set_option linter.unusedSimpArgs false
set_option linter.unusedVariables false
set_option maxRecDepth 20000
set_option maxHeartbeats 4000000
namespace Go.Proofs.Ythpndlinlhapgaa
open Go Go.Sx
open Bool renaming not_eq_true' → zM, not_eq_false' → zN
mutual
def bulkV : Val → Nat
  | ⟨_, _, _, kids, keys, ents, labels⟩ => 1 + bulkVs kids + keys.length + bulkEs ents + labels.length
def bulkVs : List Val → Nat
  | [] => 0
  | v :: l => bulkV v + bulkVs l
def bulkE : List Val × Bool × Val → Nat
  | (a, _, r) => 1 + bulkVs a + bulkV r
def bulkEs : List (List Val × Bool × Val) → Nat
  | [] => 0
  | e :: l => bulkE e + bulkEs l
end
theorem bulkV_eq (v : Val) : bulkV v = 1 + bulkVs v.kids + v.keys.length + bulkEs v.ents + v.labels.length := by cases v; simp only [bulkV]
theorem bulkE_eq (e : List Val × Bool × Val) : bulkE e = 1 + bulkVs e.1 + bulkV e.2.2 := by obtain ⟨a, f, r⟩ := e; simp only [bulkE]
theorem bulkV_pos (v : Val) : 1 ≤ bulkV v := by rw [bulkV_eq]; omega
theorem bulkVs_len : ∀ l : List Val, l.length ≤ bulkVs l
  | [] => by simp [bulkVs]
  | v :: l => by have := bulkVs_len l; have := bulkV_pos v; simp only [bulkVs, List.length_cons]; omega
theorem bulkVs_mem : ∀ {l : List Val} {v : Val}, v ∈ l → bulkV v ≤ bulkVs l
  | w :: l, v, h => by
    simp only [bulkVs]
    rcases List.mem_cons.1 h with rfl | h
    · omega
    · have := bulkVs_mem h; omega
theorem bulkVs_append : ∀ a b : List Val, bulkVs (a ++ b) = bulkVs a + bulkVs b
  | [], b => by simp [bulkVs]
  | v :: a, b => by simp only [List.cons_append, bulkVs, bulkVs_append a b]; omega
abbrev Sm (v : Val) : Prop := bulkV v ≤ 100000000
theorem Sm.kids {v : Val} (h : Sm v) : v.kids.length ≤ 100000000 := by unfold Sm at h; have := bulkV_eq v; have := bulkVs_len v.kids; omega
theorem Sm.kid {v : Val} (h : Sm v) : ∀ k ∈ v.kids, Sm k := fun k hk => by unfold Sm at *; have := bulkV_eq v; have := bulkVs_mem hk; omega
theorem Sm.keys {v : Val} (h : Sm v) : v.keys.length ≤ 100000000 := by unfold Sm at h; have := bulkV_eq v; omega
/-- the values directly below -/
def partE (e : List Val × Bool × Val) : List Val := bif e.2.1 then e.1 else e.1 ++ [e.2.2]
def partsV (v : Val) : List Val := v.kids ++ v.ents.flatMap partE
theorem bulk_partE (e : List Val × Bool × Val) : bulkVs (partE e) ≤ bulkE e := by
  unfold partE; rw [bulkE_eq]
  cases e.2.1 <;> simp only [cond_true, cond_false, bulkVs_append, bulkVs] <;> omega
theorem bulk_flat : ∀ l : List (List Val × Bool × Val), bulkVs (l.flatMap partE) ≤ bulkEs l
  | [] => by simp [bulkVs]
  | e :: l => by have := bulk_flat l; have := bulk_partE e; simp only [List.flatMap_cons, bulkVs_append, bulkEs]; omega
theorem bulk_parts (v : Val) : bulkVs (partsV v) + 1 ≤ bulkV v := by
  have := bulk_flat v.ents
  rw [bulkV_eq, partsV, bulkVs_append]; omega
theorem bulk_part {v p : Val} (h : p ∈ partsV v) : bulkV p < bulkV v := by
  have := bulk_parts v; have := bulkVs_mem h; omega
end Go.Proofs.Ythpndlinlhapgaa

set_option linter.unusedSimpArgs false
set_option linter.unusedVariables false
set_option maxRecDepth 20000
set_option maxHeartbeats 4000000
namespace Go.Proofs.Ythpndlinlhapgaa
open Go Go.Sx
open Bool renaming not_eq_true' → zM, not_eq_false' → zN
theorem Sm.part {v p : Val} (h : Sm v) (hp : p ∈ partsV v) : Sm p := by unfold Sm at *; have := bulk_part hp; omega
end Go.Proofs.Ythpndlinlhapgaa


set_option linter.unusedSimpArgs false
set_option linter.unusedVariables false
set_option maxRecDepth 20000
set_option maxHeartbeats 4000000
namespace Go.Proofs.Ythpndlinlhapgaa
open Go Go.Sx
open Bool renaming not_eq_true' → zM, not_eq_false' → zN
/-- no datum of it has a contract -/
inductive NoNodes : Dat → Prop
  | mk (d : Dat) (h : d.nodes = []) (hk : ∀ k ∈ d.kids, NoNodes k) : NoNodes d
theorem NoNodes.nodes {d : Dat} (h : NoNodes d) : d.nodes = [] := by cases h; assumption
theorem NoNodes.kid {d : Dat} (h : NoNodes d) : ∀ k ∈ d.kids, NoNodes k := by cases h; assumption
end Go.Proofs.Ythpndlinlhapgaa

set_option linter.unusedSimpArgs false
set_option linter.unusedVariables false
set_option maxRecDepth 20000
set_option maxHeartbeats 4000000
namespace Go.Proofs.Ythpndlinlhapgaa
open Go Go.Sx
open Bool renaming not_eq_true' → zM, not_eq_false' → zN
/-- entries -/
abbrev Ent := List Val × Bool × Val
end Go.Proofs.Ythpndlinlhapgaa










