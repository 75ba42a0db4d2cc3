/- A part of the proof: lemmas about the walk of the program and about plain integers and lists. No conditions beyond those that each lemma states. -/
import Derived.Test.YtogponhonjiidaaDoorTr5
import Derived.Test.YtogponhonjiidaaDoorTr4
import Derived.Lib.SliceRun
import Derived.Lib.ParseIntB
import Derived.Shelf.Strings.Prefix
import Derived.Shelf.Strings.Cut
import Derived.Shelf.Strconv.ParseIntPublic10
import Derived.Shelf.Strconv.Itoa4
import Derived.Shelf.Small.Strs
import Derived.Test.YtogponhonjiidaaDoorProg
import Derived.Shelf.Vars
import Derived.Test.YtogponhonjiidaaDoorRows
set_option linter.unusedVariables false
namespace Go.Sx
variable {P : Program} {n : Nat}
theorem Gh.soft {env : Env} {B : Bx} (j : Nat) {cs : List Cell} (hb : B.lookup j = some (.cells cs)) : Gh n ⟨env, B⟩ ⟨env, Bx.put j (.cells (cs.map Cell.soft)) B⟩ := by
  intro κ M0 a w s
  obtain ⟨M, ν, h1, h2, h3, h4, h5, h6⟩ := s
  have hmem := lookup_box hb
  have hkeys : ∀ i r, (i, r) ∈ Bx.put j (.cells (cs.map Cell.soft)) B → ∃ r0, (i, r0) ∈ B := by
    intro i r hm
    rcases Bx.mem_put h5.nodup hm with e | ⟨hm, _⟩
    · cases e; exact ⟨_, hmem⟩
    · exact ⟨r, hm⟩
  refine ⟨M, ν, h1, h2, h3, h4, ⟨h5.os, h5.tape, h5.output, Nat.zero_le _, h5.size, h5.unch, h5.fro, ?_, ?_, ?_, ?_⟩, h6⟩
  · intro i r hm
    rcases Bx.mem_put h5.nodup hm with e | ⟨hm, _⟩
    · cases e
      have h0 := h5.res j _ hmem
      simp only [Res.ok] at h0 ⊢
      obtain ⟨b, c, et, g1, g2, g3⟩ := h0
      exact ⟨b, c, et, g1, g2, Cell.reps_soft g3⟩
    · exact h5.res i r hm
  · intro i r b hm hbk
    obtain ⟨r0, h0⟩ := hkeys i r hm
    exact h5.away i r0 b h0 hbk
  · intro i r i' r' b hm hm' hbk hbk'
    obtain ⟨r0, h0⟩ := hkeys i r hm
    obtain ⟨r1, h1⟩ := hkeys i' r' hm'
    exact h5.inj i r0 i' r1 b h0 h1 hbk hbk'
  · rw [Bx.put_keys]; exact h5.nodup
end Go.Sx
set_option linter.unusedVariables false
namespace Go.Sx
variable {P : Program} {n : Nat} {Q : Exit → AS → Prop}
/-- the boxes of these names -/
def keepB (B : Bx) : List Nat → Bx
  | [] => []
  | d :: ds => match B.lookup d with
    | some t => (d, t) :: keepB B ds
    | none => keepB B ds
attribute [go_sem] keepB
/-- a loop of which only some slots and boxes change -/
theorem AWP.loopF {c : Code} {env : Env} {B : Bx} {X : Type} (chg : X → Env) (chB : X → Bx) (ks kb : List Nat) (ok : X → Prop) (meas : X → Nat) (x₀ : X)
    (hs : Gh n ⟨env, B⟩ ⟨chg x₀ ++ keepL env ks, chB x₀ ++ keepB B kb⟩) (h₀ : ok x₀)
    (round : ∀ x, ok x → AWP P n c ⟨chg x ++ keepL env ks, chB x ++ keepB B kb⟩ (Then (fun σ' => ∃ x', meas x' < meas x ∧ ok x' ∧ Gh n σ' ⟨chg x' ++ keepL env ks, chB x' ++ keepB B kb⟩) Q)) : AWP P n (.loop c) ⟨env, B⟩ Q :=
  AWP.loopS (fun x => chg x ++ keepL env ks) (fun x => chB x ++ keepB B kb) ok meas x₀ hs h₀ round
/-- a range over a list -/
theorem AWP.range {c : Code} {env : Env} {B : Bx} {α S : Type} (l : List α) (enc : α → List C) (chg : Nat → S → Env) (chB : Nat → S → Bx) (ks kb : List Nat) (ok : Nat → S → Prop) (s₀ : S)
    (hs : Gh n ⟨env, B⟩ ⟨chg 0 s₀ ++ keepL env ks, chB 0 s₀ ++ keepB B kb⟩) (h₀ : ok 0 s₀)
    (step : ∀ (k : Nat) (s : S) (x : α), k < l.length → l[k]? = some x → (l.map enc)[k]? = some (enc x) → decide ((k : Int) < (l.length : Int)) = true → ok k s →
      AWP P n c ⟨chg k s ++ keepL env ks, chB k s ++ keepB B kb⟩ (Then (fun σ' => ∃ s', ok (k + 1) s' ∧ Gh n σ' ⟨chg (k + 1) s' ++ keepL env ks, chB (k + 1) s' ++ keepB B kb⟩) Q))
    (done : ∀ s : S, decide ((l.length : Int) < (l.length : Int)) = false → ok l.length s → AWP P n c ⟨chg l.length s ++ keepL env ks, chB l.length s ++ keepB B kb⟩ (Then (fun _ => False) Q)) : AWP P n (.loop c) ⟨env, B⟩ Q := by
  refine AWP.loopF (X := Nat × S) (fun x => chg x.1 x.2) (fun x => chB x.1 x.2) ks kb (fun x => x.1 ≤ l.length ∧ ok x.1 x.2) (fun x => l.length - x.1) (0, s₀) hs ⟨Nat.zero_le _, h₀⟩ ?_
  rintro ⟨k, s⟩ ⟨hk, hok⟩
  simp only at hk hok ⊢
  by_cases hlt : k < l.length
  · obtain ⟨x, hx, hx', hb, _⟩ := at_lt (enc := enc) hlt
    refine (step k s x hlt hx hx' hb hok).mono ?_
    intro e σ' hq
    cases e with
    | normal => obtain ⟨s', h1, h2⟩ := hq; exact ⟨(k + 1, s'), by simp only; omega, ⟨by simp only; omega, h1⟩, h2⟩
    | exit id => exact hq
    | goto l => exact hq
    | ret => exact hq
    | panic ch => exact hq
    | outgrown => exact hq
  · have : k = l.length := by omega
    subst this
    refine (done s (by simp) hok).mono ?_
    intro e σ' hq
    cases e with
    | normal => exact hq.elim
    | exit id => exact hq
    | goto l => exact hq
    | ret => exact hq
    | panic ch => exact hq
    | outgrown => exact hq
end Go.Sx
set_option linter.unusedVariables false
set_option linter.unusedSimpArgs false
namespace Go.Sx
variable {P : Program} {n : Nat} {σ : AS} {Q : Exit → AS → Prop}
def fxOf (ear : List Nat) (fixB fixC : Bx) (i : Nat) : Bx := bif memN i ear then fixC else fixB
def genOpVC2 (P : Program) (all : List Oper) (es ear : List Nat) (fixB : Bx) (j0 : Nat) (fixC : Bx) (i : Nat) (gs : List (Nat × Nat)) (o : Oper) (env : Env) (B : Bx) (K' : List (Nat × Nat) → Env → Bx → Prop) : Prop :=
  bif memN i es then effVC P o env B fun t B' => bxSub B' fixB ∧ (bif decide (i < j0) then bxSub B' fixC else True) ∧ FreshOr all i t gs ∧ K' (gsNext i o gs) (putE env o.dst t) B'
  else pureVC P o env (fxOf ear fixB fixC i) fun t => FreshOr all i t gs ∧ K' gs (putE env o.dst t) B
attribute [go_sem] genOpVC2 fxOf
def Res.plain (r : Res) : Prop := ∀ k cs, r = .cells cs → Cell.freshs k cs = true
def vAppendM (P : Program) (j : Nat) (t1 t2 : TypeId) (s x : Option T) (K : T → Res → Prop) : Prop :=
  match bsT P t1, byT P t1 with
  | some (_, n), some (by_ + 1) => match srcRows n x with
    | some ys => notInt P t2 = true ∧ (match s with
      | some (.one (.dat (.nil _))) => (2 * ys.length + 192) * (by_ + 1) ≤ 281474976710656 ∧ K (.one (.own j ys.length)) (.row n ys)
      | _ => False)
    | none => False
  | _, _ => False
/-- what is to be shown of an operation that makes a row -/
def mkOp (P : Program) (o : Oper) (env : Env) (K : T → Res → Prop) : Prop :=
  match o.op with
  | .alloc e => (match zeroT P e with
    | some zs => K (.one (.ptr (dstN o) 0)) (.cells (zs.map .dat))
    | none => False)
  | .call { callee := .builtin .append, args := ⟨[s, x]⟩, argTypes := ⟨[t1, t2]⟩ } => vAppendM P (dstN o) t1 t2 (ev P env t1 s) (softO (ev P env t2 x)) K
  | .call { callee := .value f, args := args, argTypes := ts } =>
    match calleeT (ev P env 0 f), evs P env args.toList ts.toList with
    | some (g, caps), some us => ∃ r sz rows, PCN P g (us ++ caps) r (.row sz rows) ∧ K (r.ren fun _ => dstN o) (.row sz rows)
    | _, _ => False
  | _ => False
def genOpVCM (P : Program) (all : List Oper) (es : List Nat) (B0 : Bx) (i : Nat) (gs : List (Nat × Nat)) (o : Oper) (env : Env) (B : Bx) (K' : List (Nat × Nat) → Env → Bx → Prop) : Prop :=
  bif memN i es then mkOp P o env fun t r => Env.fresh (dstN o) env = true ∧ Bx.fresh (dstN o) B = true ∧ FreshOr all i t gs ∧ K' ((i, dstN o) :: gs) (putE env o.dst t) ((dstN o, r) :: B)
  else pureVC P o env B0 fun t => FreshOr all i t gs ∧ K' gs (putE env o.dst t) B
attribute [go_sem] genOpVCM mkOp vAppendM
def lastVC (P : Program) : List Oper → Env → Bx → (Env → Bx → Prop) → Prop
  | [o], env, B, K => (match o.op with
    | .store t x y => vStore P t (ev P env 0 x) (ev P env t y) B (fun B' => K (putE env o.dst undefT) B')
    | _ => False)
  | _, _, _, _ => False
attribute [go_sem] lastVC
end Go.Sx

namespace Go.Sx
theorem Gh.fz {n : Nat} {env : Env} {B : Bx} (k : Nat) {sz : Nat} {rows : List (List C)} (hb : B.lookup k = some (.row sz rows) := by rfl) (hlow : lowN k = true := by rfl)
    (hE : Env.frOk k rows.length env := by simp only [go_sem, zA, zB, zC, zD, zE, zF, zG, reduceCtorEq, zH, zI, zJ, zK, zL, List.length_map]) (hB : Bx.frOk k rows.length B := by simp only [go_sem, zA, zB, zC, zD, zE, zF, zG, reduceCtorEq, zH, zI, zJ, zK, zL, List.length_map]) :
    Gh n ⟨env, B⟩ ⟨frE k sz rows env, frB k sz rows (Bx.drop k B)⟩ := Gh.freeze k hb hlow hE hB
end Go.Sx
set_option linter.unusedVariables false
namespace Go.Proofs.YtogponhonjiidaaDoor
open Go Go.Sx
open Nat renaming reduceBEq → zA, reduceBNe → zB, reduceAdd → zC, reduceSub → zD, reduceMul → zE, reduceLeDiff → zF, reduceLT → zG, reduceEqDiff → zH
open Int renaming reduceToNat → zI, reduceLE → zJ, reduceLT → zK, reduceEq → zL
open Bool renaming not_eq_true' → zM, not_eq_false' → zN
structure Tok where
  kind : Int
  text : List UInt8
  num : Int
  at_ : Int
  deriving DecidableEq
def encTok (t : Tok) : List C := [.int .i64 t.kind, .str t.text, .int .i64 t.num, .int .i64 t.at_]
def zeroTok : Tok := ⟨0, [], 0, 0⟩
def lowI (n : Int) : Bool := decide (97 ≤ n) && decide (n ≤ 122)
def uppI (n : Int) : Bool := decide (65 ≤ n) && decide (n ≤ 90)
def digI (n : Int) : Bool := decide (48 ≤ n) && decide (n ≤ 57)
/-- bytes of names, of variables -/
def nameI (n : Int) : Bool := lowI n || (digI n || decide (n = 95))
def varI (n : Int) : Bool := lowI n || (uppI n || (digI n || decide (n = 95)))
/-- how many bytes at the head meet p -/
def cntW (p : Int → Bool) : List UInt8 → Nat
  | [] => 0
  | b :: l => bif p b.toNat then 1 + cntW p l else 0
theorem cntW_le (p : Int → Bool) : ∀ l, cntW p l ≤ l.length
  | [] => Nat.le_refl _
  | b :: l => by
    have := cntW_le p l
    rw [cntW, List.length_cons]
    cases p b.toNat <;> simp only [cond_true, cond_false] <;> omega
theorem cntW_at {p : Int → Bool} {s : List UInt8} {k : Nat} {b : UInt8} (h : s[k]? = some b) : cntW p (s.drop k) = bif p b.toNat then 1 + cntW p (s.drop (k + 1)) else 0 := by
  obtain ⟨hk, rfl⟩ := List.getElem?_eq_some_iff.1 h
  rw [List.drop_eq_getElem_cons hk, cntW]
theorem cntW_end {p : Int → Bool} {s : List UInt8} {k : Nat} (h : s.length ≤ k) : cntW p (s.drop k) = 0 := by rw [List.drop_eq_nil_of_le h]; rfl
/-- the place behind the bytes from k on that meet p -/
def toW (p : Int → Bool) (s : List UInt8) (k : Nat) : Nat := k + cntW p (s.drop k)
theorem toW_le {p : Int → Bool} {s : List UInt8} {k : Nat} (h : k ≤ s.length) : toW p s k ≤ s.length := by
  have := cntW_le p (s.drop k); rw [List.length_drop] at this; unfold toW; omega
theorem toW_ge {p : Int → Bool} {s : List UInt8} {k : Nat} : k ≤ toW p s k := Nat.le_add_right _ _
theorem toW_yes {p : Int → Bool} {s : List UInt8} {k : Nat} {b : UInt8} (h : s[k]? = some b) (hp : p b.toNat = true) : toW p s k = toW p s (k + 1) := by unfold toW; rw [cntW_at h, hp, cond_true]; omega
theorem toW_no {p : Int → Bool} {s : List UInt8} {k : Nat} {b : UInt8} (h : s[k]? = some b) (hp : p b.toNat = false) : toW p s k = k := by unfold toW; rw [cntW_at h, hp]; rfl
theorem toW_end {p : Int → Bool} {s : List UInt8} {k : Nat} (h : s.length ≤ k) : toW p s k = k := by unfold toW; rw [cntW_end h]; rfl
def sepI (n : Int) : Bool := decide (n = 9) || (decide (n = 10) || (decide (n = 13) || decide (n = 32)))
def noLf (n : Int) : Bool := !decide (n = 10)
/-- how many bytes of separators stand at the head -/
def skipL : List UInt8 → Nat
  | [] => 0
  | b :: l => bif sepI b.toNat then 1 + skipL l else bif decide ((b.toNat : Int) = 37) then 1 + cntW noLf l + skipL (l.drop (cntW noLf l)) else 0
termination_by l => l.length
decreasing_by
  · simp
  · simp; omega
def skipTo (s : List UInt8) (k : Nat) : Nat := k + skipL (s.drop k)
theorem skipL_le : ∀ l : List UInt8, skipL l ≤ l.length
  | [] => by simp [skipL]
  | b :: l => by
    have h1 := skipL_le l
    have h2 := cntW_le noLf l
    have h3 := skipL_le (l.drop (cntW noLf l))
    rw [List.length_drop] at h3
    rw [skipL, List.length_cons]
    cases sepI b.toNat <;> cases decide ((b.toNat : Int) = 37) <;> simp only [cond_true, cond_false] <;> omega
termination_by l => l.length
decreasing_by
  · simp
  · simp; omega
theorem skipTo_le {s : List UInt8} {k : Nat} (h : k ≤ s.length) : skipTo s k ≤ s.length := by
  have := skipL_le (s.drop k); rw [List.length_drop] at this; unfold skipTo; omega
theorem skipTo_ge {s : List UInt8} {k : Nat} : k ≤ skipTo s k := Nat.le_add_right _ _
theorem skipTo_end {s : List UInt8} {k : Nat} (h : s.length ≤ k) : skipTo s k = k := by unfold skipTo; rw [List.drop_eq_nil_of_le h, skipL]; rfl
theorem skipTo_sep {s : List UInt8} {k : Nat} {b : UInt8} (h : s[k]? = some b) (hs : sepI b.toNat = true) : skipTo s k = skipTo s (k + 1) := by
  obtain ⟨hk, rfl⟩ := List.getElem?_eq_some_iff.1 h
  unfold skipTo
  rw [List.drop_eq_getElem_cons hk, skipL, hs, cond_true]; omega
theorem skipTo_com {s : List UInt8} {k : Nat} {b : UInt8} (h : s[k]? = some b) (hs : sepI b.toNat = false) (hc : decide ((b.toNat : Int) = 37) = true) : skipTo s k = skipTo s (toW noLf s (k + 1)) := by
  obtain ⟨hk, rfl⟩ := List.getElem?_eq_some_iff.1 h
  unfold skipTo toW
  rw [List.drop_eq_getElem_cons hk, skipL, hs, hc, cond_false, cond_true, List.drop_drop, Nat.add_assoc k 1]
  omega
theorem skipTo_no {s : List UInt8} {k : Nat} {b : UInt8} (h : s[k]? = some b) (hs : sepI b.toNat = false) (hc : decide ((b.toNat : Int) = 37) = false) : skipTo s k = k := by
  obtain ⟨hk, rfl⟩ := List.getElem?_eq_some_iff.1 h
  unfold skipTo
  rw [List.drop_eq_getElem_cons hk, skipL, hs, hc]; rfl
end Go.Proofs.YtogponhonjiidaaDoor
set_option linter.unusedSimpArgs false
set_option linter.unusedVariables false
set_option maxRecDepth 20000
set_option maxHeartbeats 16000000
namespace Go.Proofs.YtogponhonjiidaaDoor
open Go Go.Sx
open Nat renaming reduceBEq → zA, reduceBNe → zB, reduceAdd → zC, reduceSub → zD, reduceMul → zE, reduceLeDiff → zF, reduceLT → zG, reduceEqDiff → zH
open Int renaming reduceToNat → zI, reduceLE → zJ, reduceLT → zK, reduceEq → zL
open Bool renaming not_eq_true' → zM, not_eq_false' → zN
theorem wordslower_c (n : Int) : PC Tryd.prog 57 [I .u8 n] (Bo (lowI n)) := by
  refine PCB.of_body Tryd.func57 rfl (by decide) Tryd.ntmps57 Tryd.results57 rfl rfl rfl ?_ rfl rfl
  repeat' (first | (simp only [go_sem, zA, zB, zC, zD, zE, zF, zG, reduceCtorEq, zH, zI, zJ, zK, zL]; all_goals fail_if_success guard_target =ₛ False) | (with_reducible first | ((first | refine seqVC_stepN rfl ?_ | refine seqVC_stepG rfl (by with_unfolding_all rfl) ?_ | refine AWP.seq ?_ | refine AWP.seqR (by kernel_rfl) ?_); intro K hK) | ((first | refine hK _ _ _ ?_ | refine hK _ _ ?_ | refine hK _ ?_); clear hK K) | refine seqVC_nil ?_ | refine AWP.block ?_ | (refine AWP.cond (by with_unfolding_all rfl) ?_ ?_ <;> intro h <;> (try simp only [zM, zN] at h) <;> try exact absurd h (by decide)) | refine AWP.skip ?_ | refine AWP.ret ?_ | refine AWP.exit ?_ | (refine ⟨fun h => ?_, fun h => ?_⟩ <;> (try simp only [zM, zN] at h) <;> try simp only [h]) | refine Or.inl ?_) | (clear hK K))
  all_goals (first | exact fun _ h => absurd h List.not_mem_nil | (refine fin0 ?_; first | rfl | (simp only [lowI, Bool.true_and, Bool.false_and, Bool.and_false, Bool.and_true, *, zb, cond_true, cond_false, decide_true, decide_false] <;> rfl)))
theorem wordsupper_c (n : Int) : PC Tryd.prog 62 [I .u8 n] (Bo (uppI n)) := by
  refine PCB.of_body Tryd.func62 rfl (by decide) Tryd.ntmps62 Tryd.results62 rfl rfl rfl ?_ rfl rfl
  repeat' (first | (simp only [go_sem, zA, zB, zC, zD, zE, zF, zG, reduceCtorEq, zH, zI, zJ, zK, zL]; all_goals fail_if_success guard_target =ₛ False) | (with_reducible first | ((first | refine seqVC_stepN rfl ?_ | refine seqVC_stepG rfl (by with_unfolding_all rfl) ?_ | refine AWP.seq ?_ | refine AWP.seqR (by kernel_rfl) ?_); intro K hK) | ((first | refine hK _ _ _ ?_ | refine hK _ _ ?_ | refine hK _ ?_); clear hK K) | refine seqVC_nil ?_ | refine AWP.block ?_ | (refine AWP.cond (by with_unfolding_all rfl) ?_ ?_ <;> intro h <;> (try simp only [zM, zN] at h) <;> try exact absurd h (by decide)) | refine AWP.skip ?_ | refine AWP.ret ?_ | refine AWP.exit ?_ | (refine ⟨fun h => ?_, fun h => ?_⟩ <;> (try simp only [zM, zN] at h) <;> try simp only [h]) | refine Or.inl ?_) | (clear hK K))
  all_goals (first | exact fun _ h => absurd h List.not_mem_nil | (refine fin0 ?_; first | rfl | (simp only [uppI, Bool.true_and, Bool.false_and, Bool.and_false, Bool.and_true, *, zb, cond_true, cond_false, decide_true, decide_false] <;> rfl)))
theorem wordsdigit_c (n : Int) : PC Tryd.prog 61 [I .u8 n] (Bo (digI n)) := by
  refine PCB.of_body Tryd.func61 rfl (by decide) Tryd.ntmps61 Tryd.results61 rfl rfl rfl ?_ rfl rfl
  repeat' (first | (simp only [go_sem, zA, zB, zC, zD, zE, zF, zG, reduceCtorEq, zH, zI, zJ, zK, zL]; all_goals fail_if_success guard_target =ₛ False) | (with_reducible first | ((first | refine seqVC_stepN rfl ?_ | refine seqVC_stepG rfl (by with_unfolding_all rfl) ?_ | refine AWP.seq ?_ | refine AWP.seqR (by kernel_rfl) ?_); intro K hK) | ((first | refine hK _ _ _ ?_ | refine hK _ _ ?_ | refine hK _ ?_); clear hK K) | refine seqVC_nil ?_ | refine AWP.block ?_ | (refine AWP.cond (by with_unfolding_all rfl) ?_ ?_ <;> intro h <;> (try simp only [zM, zN] at h) <;> try exact absurd h (by decide)) | refine AWP.skip ?_ | refine AWP.ret ?_ | refine AWP.exit ?_ | (refine ⟨fun h => ?_, fun h => ?_⟩ <;> (try simp only [zM, zN] at h) <;> try simp only [h]) | refine Or.inl ?_) | (clear hK K))
  all_goals (first | exact fun _ h => absurd h List.not_mem_nil | (refine fin0 ?_; first | rfl | (simp only [digI, Bool.true_and, Bool.false_and, Bool.and_false, Bool.and_true, *, zb, cond_true, cond_false, decide_true, decide_false] <;> rfl)))
theorem wName_c (n : Int) : PC Tryd.prog 60 [I .u8 n] (Bo (nameI n)) := by
  have h1 := wordslower_c n
  have h2 := wordsdigit_c n
  generalize h3 : lowI n = a at h1
  generalize h4 : digI n = b at h2
  refine PCB.of_body Tryd.func60 rfl (by decide) Tryd.ntmps60 Tryd.results60 rfl rfl rfl ?_ rfl rfl
  repeat' (first | (simp only [go_sem, zA, zB, zC, zD, zE, zF, zG, reduceCtorEq, zH, zI, zJ, zK, zL]; all_goals fail_if_success guard_target =ₛ False) | (with_reducible first | ((first | refine seqVC_stepN rfl ?_ | refine seqVC_stepG rfl (by with_unfolding_all rfl) ?_ | refine AWP.seq ?_ | refine AWP.seqR (by kernel_rfl) ?_); intro K hK) | ((first | refine hK _ _ _ ?_ | refine hK _ _ ?_ | refine hK _ ?_); clear hK K) | refine seqVC_nil ?_ | refine AWP.block ?_ | (refine AWP.cond (by with_unfolding_all rfl) ?_ ?_ <;> intro h <;> (try simp only [zM, zN] at h) <;> try exact absurd h (by decide)) | refine AWP.skip ?_ | refine AWP.ret ?_ | refine AWP.exit ?_ | (refine ⟨fun h => ?_, fun h => ?_⟩ <;> (try simp only [zM, zN] at h) <;> try simp only [h]) | refine ⟨_, h1, ?_⟩ | refine ⟨_, h2, ?_⟩ | refine Or.inl ?_) | (clear hK K))
  all_goals (first | exact fun _ h => absurd h List.not_mem_nil | (refine fin0 ?_; first | rfl | (simp only [nameI, h3, h4, Bool.true_or, Bool.false_or, Bool.or_false, *, zb, cond_true, cond_false, decide_true, decide_false] <;> rfl)))
theorem wVar_c (n : Int) : PC Tryd.prog 63 [I .u8 n] (Bo (varI n)) := by
  have h1 := wordslower_c n
  have h2 := wordsdigit_c n
  have h0 := wordsupper_c n
  generalize h3 : lowI n = a at h1
  generalize h4 : digI n = b at h2
  generalize h5 : uppI n = c at h0
  refine PCB.of_body Tryd.func63 rfl (by decide) Tryd.ntmps63 Tryd.results63 rfl rfl rfl ?_ rfl rfl
  repeat' (first | (simp only [go_sem, zA, zB, zC, zD, zE, zF, zG, reduceCtorEq, zH, zI, zJ, zK, zL]; all_goals fail_if_success guard_target =ₛ False) | (with_reducible first | ((first | refine seqVC_stepN rfl ?_ | refine seqVC_stepG rfl (by with_unfolding_all rfl) ?_ | refine AWP.seq ?_ | refine AWP.seqR (by kernel_rfl) ?_); intro K hK) | ((first | refine hK _ _ _ ?_ | refine hK _ _ ?_ | refine hK _ ?_); clear hK K) | refine seqVC_nil ?_ | refine AWP.block ?_ | (refine AWP.cond (by with_unfolding_all rfl) ?_ ?_ <;> intro h <;> (try simp only [zM, zN] at h) <;> try exact absurd h (by decide)) | refine AWP.skip ?_ | refine AWP.ret ?_ | refine AWP.exit ?_ | (refine ⟨fun h => ?_, fun h => ?_⟩ <;> (try simp only [zM, zN] at h) <;> try simp only [h]) | refine ⟨_, h1, ?_⟩ | refine ⟨_, h2, ?_⟩ | refine ⟨_, h0, ?_⟩ | refine Or.inl ?_) | (clear hK K))
  all_goals (first | exact fun _ h => absurd h List.not_mem_nil | (refine fin0 ?_; first | rfl | (simp only [varI, h3, h4, h5, Bool.true_or, Bool.false_or, Bool.or_false, *, zb, cond_true, cond_false, decide_true, decide_false] <;> rfl)))
/-- the scanner's box -/
abbrev scB (s : List UInt8) (k : Nat) : Res := .cells [.dat (.str s), .dat (.int .i64 k)]
abbrev Scp (k : Nat) : T := .one (.ptr k 0)
/-- run: from the place i on, at least one byte -/
theorem run_c (F : FuncId) (p : Int → Bool) (hF : ∀ n : Int, PC Tryd.prog F [I .u8 n] (Bo (p n))) (s : List UInt8) (hs : s.length ≤ 1000000000000) (i : Nat) (hi : i < s.length) :
    PCB Tryd.prog 59 [Scp pin, .one (.dat (.fn F))] [(pin, scB s i)] (S ((s.take (toW p s (i + 1))).drop i)) [(pin, scB s (toW p s (i + 1)))] := by
  have hw : IntKind.i64.wrap ((i : Int) + 1) = ((i + 1 : Nat) : Int) := by rw [w64 (by omega)]; rfl
  refine PCB.of_body Tryd.func59 rfl (by decide) Tryd.ntmps59 Tryd.results59 rfl rfl rfl ?_ rfl rfl
  repeat' (first | (simp only [go_sem, zA, zB, zC, zD, zE, zF, zG, reduceCtorEq, zH, zI, zJ, zK, zL, pin, hw]; all_goals fail_if_success guard_target =ₛ False) | (with_reducible first | ((first | refine seqVC_stepN rfl ?_ | refine seqVC_stepG rfl (by with_unfolding_all rfl) ?_ | refine AWP.seq ?_ | refine AWP.seqR (by kernel_rfl) ?_ | refine parVC_stepN rfl ?_ | refine parVC_stepG rfl (by with_unfolding_all rfl) ?_ | refine parEVC_stepN rfl ?_ | refine parEVC_stepG rfl (by with_unfolding_all rfl) ?_ | refine genVC_stepN rfl ?_ | refine genVC_stepG rfl (by with_unfolding_all rfl) ?_); intro K hK) | ((first | refine hK _ _ _ ?_ | refine hK _ _ ?_ | refine hK _ ?_); clear hK K) | refine seqVC_nil ?_ | refine parVC_nil ?_ | refine parEVC_nil ?_ | refine genVC_nil ?_ | refine AWP.block ?_ | (refine AWP.cond (by with_unfolding_all rfl) ?_ ?_ <;> intro h <;> (try simp only [zM, zN] at h) <;> try exact absurd h (by decide)) | refine AWP.skip ?_ | refine AWP.ret ?_ | refine AWP.exit ?_ | (refine ⟨fun h => ?_, fun h => ?_⟩ <;> (try simp only [zM, zN] at h) <;> try simp only [h]) | refine AWP.parR mixed (by kernel_rfl) fun K hK => ?_ | refine ⟨(by kernel_rfl : depB _ _ _ = true), ?_⟩ | refine Or.inl ?_) | (clear hK K))
  refine AWP.loopF (X := Nat) (fun k => [(0, Scp 1000000)]) (fun k => [(1000000, scB s k)]) [1, 5] [] (fun k => i + 1 ≤ k ∧ k ≤ s.length ∧ toW p s (i + 1) = toW p s k) (fun k => s.length - k) (i + 1) (by simp only [go_sem, zA, zB, zC, zD, zE, zF, zG, reduceCtorEq, zH, zI, zJ, zK, zL]; exact Gh.to [] (by repeat (first | exact trivial | refine ⟨rfl, ?_⟩ | refine ⟨by (simp only [go_sem, zA, zB, zC, zD, zE, zF, zG, reduceCtorEq, zH, zI, zJ, zK, zL, List.length_append, List.length_map, List.length_cons, List.length_nil, Nat.zero_add]) <;> rfl, ?_⟩)) (by repeat (first | exact trivial | refine ⟨rfl, ?_⟩ | refine ⟨by (simp only [go_sem, zA, zB, zC, zD, zE, zF, zG, reduceCtorEq, zH, zI, zJ, zK, zL, List.length_append, List.length_map, List.length_cons, List.length_nil, Nat.zero_add]) <;> rfl, ?_⟩)) rfl rfl rfl) ?_ ?_
  · exact ⟨Nat.le_refl _, hi, rfl⟩
  rintro k ⟨hk, hkl, hok⟩
  simp only [go_sem, zA, zB, zC, zD, zE, zF, zG, reduceCtorEq, zH, zI, zJ, zK, zL]
  by_cases hlt : k < s.length
  · obtain ⟨b, hb⟩ : ∃ b, s[k]? = some b := ⟨s[k], List.getElem?_eq_getElem hlt⟩
    have hd : decide ((k : Int) < (s.length : Int)) = true := by rw [decide_eq_true_eq]; omega
    have hwk : IntKind.i64.wrap ((k : Int) + 1) = ((k + 1 : Nat) : Int) := by rw [w64 (by omega)]; rfl
    have hp := hF b.toNat
    cases hz : p b.toNat <;> rw [hz] at hp
    ·
      rw [toW_no hb hz] at hok
      repeat' (first | (simp only [go_sem, zA, zB, zC, zD, zE, zF, zG, reduceCtorEq, zH, zI, zJ, zK, zL, pin, hd, hwk]; all_goals fail_if_success guard_target =ₛ False) | (with_reducible first | ((first | refine seqVC_stepN rfl ?_ | refine seqVC_stepG rfl (by with_unfolding_all rfl) ?_ | refine AWP.seq ?_ | refine AWP.seqR (by kernel_rfl) ?_ | refine parVC_stepN rfl ?_ | refine parVC_stepG rfl (by with_unfolding_all rfl) ?_ | refine parEVC_stepN rfl ?_ | refine parEVC_stepG rfl (by with_unfolding_all rfl) ?_ | refine genVC_stepN rfl ?_ | refine genVC_stepG rfl (by with_unfolding_all rfl) ?_); intro K hK) | ((first | refine hK _ _ _ ?_ | refine hK _ _ ?_ | refine hK _ ?_); clear hK K) | refine seqVC_nil ?_ | refine parVC_nil ?_ | refine parEVC_nil ?_ | refine genVC_nil ?_ | refine AWP.block ?_ | (refine AWP.cond (by with_unfolding_all rfl) ?_ ?_ <;> intro h <;> (try simp only [zM, zN] at h) <;> try exact absurd h (by decide)) | refine AWP.skip ?_ | refine AWP.ret ?_ | refine AWP.exit ?_ | (refine ⟨fun h => ?_, fun h => ?_⟩ <;> (try simp only [zM, zN] at h) <;> try simp only [h]) | refine ⟨_, hp, ?_⟩ | refine ⟨by omega, b, hb, ?_⟩ | refine ⟨by omega, by omega, by omega, ?_⟩ | refine AWP.parR mixed (by kernel_rfl) fun K hK => ?_ | refine ⟨(by kernel_rfl : depB _ _ _ = true), ?_⟩ | refine Or.inl ?_) | (clear hK K))
      all_goals (simp only [hok, Int.toNat_natCast])
      all_goals (refine ⟨by first | trivial | rfl, fun x hx => ?_⟩; simp only [List.mem_singleton] at hx; subst hx; simp)
    ·
      rw [toW_yes hb hz] at hok
      repeat' (first | (simp only [go_sem, zA, zB, zC, zD, zE, zF, zG, reduceCtorEq, zH, zI, zJ, zK, zL, pin, hd, hwk]; all_goals fail_if_success guard_target =ₛ False) | (with_reducible first | ((first | refine seqVC_stepN rfl ?_ | refine seqVC_stepG rfl (by with_unfolding_all rfl) ?_ | refine AWP.seq ?_ | refine AWP.seqR (by kernel_rfl) ?_ | refine parVC_stepN rfl ?_ | refine parVC_stepG rfl (by with_unfolding_all rfl) ?_ | refine parEVC_stepN rfl ?_ | refine parEVC_stepG rfl (by with_unfolding_all rfl) ?_ | refine genVC_stepN rfl ?_ | refine genVC_stepG rfl (by with_unfolding_all rfl) ?_); intro K hK) | ((first | refine hK _ _ _ ?_ | refine hK _ _ ?_ | refine hK _ ?_); clear hK K) | refine seqVC_nil ?_ | refine parVC_nil ?_ | refine parEVC_nil ?_ | refine genVC_nil ?_ | refine AWP.block ?_ | (refine AWP.cond (by with_unfolding_all rfl) ?_ ?_ <;> intro h <;> (try simp only [zM, zN] at h) <;> try exact absurd h (by decide)) | refine AWP.skip ?_ | refine AWP.ret ?_ | refine AWP.exit ?_ | (refine ⟨fun h => ?_, fun h => ?_⟩ <;> (try simp only [zM, zN] at h) <;> try simp only [h]) | refine ⟨_, hp, ?_⟩ | refine ⟨by omega, b, hb, ?_⟩ | refine AWP.parR mixed (by kernel_rfl) fun K hK => ?_ | refine ⟨(by kernel_rfl : depB _ _ _ = true), ?_⟩ | refine Or.inl ?_) | (clear hK K))
      all_goals (refine ⟨k + 1, by first | omega | (simp only; omega), ⟨by omega, by omega, hok⟩, Gh.to [] (by repeat (first | exact trivial | refine ⟨rfl, ?_⟩ | refine ⟨by (simp only [go_sem, zA, zB, zC, zD, zE, zF, zG, reduceCtorEq, zH, zI, zJ, zK, zL, List.length_append, List.length_map, List.length_cons, List.length_nil, Nat.zero_add]) <;> rfl, ?_⟩)) (by repeat (first | exact trivial | refine ⟨rfl, ?_⟩ | refine ⟨by (simp only [go_sem, zA, zB, zC, zD, zE, zF, zG, reduceCtorEq, zH, zI, zJ, zK, zL, List.length_append, List.length_map, List.length_cons, List.length_nil, Nat.zero_add]) <;> rfl, ?_⟩)) rfl rfl rfl⟩)
  · have hd : decide ((k : Int) < (s.length : Int)) = false := by rw [decide_eq_false_iff_not]; omega
    rw [toW_end (s := s) (k := k) (by omega)] at hok
    repeat' (first | (simp only [go_sem, zA, zB, zC, zD, zE, zF, zG, reduceCtorEq, zH, zI, zJ, zK, zL, pin, hd]; all_goals fail_if_success guard_target =ₛ False) | (with_reducible first | ((first | refine seqVC_stepN rfl ?_ | refine seqVC_stepG rfl (by with_unfolding_all rfl) ?_ | refine AWP.seq ?_ | refine AWP.seqR (by kernel_rfl) ?_ | refine parVC_stepN rfl ?_ | refine parVC_stepG rfl (by with_unfolding_all rfl) ?_ | refine parEVC_stepN rfl ?_ | refine parEVC_stepG rfl (by with_unfolding_all rfl) ?_ | refine genVC_stepN rfl ?_ | refine genVC_stepG rfl (by with_unfolding_all rfl) ?_); intro K hK) | ((first | refine hK _ _ _ ?_ | refine hK _ _ ?_ | refine hK _ ?_); clear hK K) | refine seqVC_nil ?_ | refine parVC_nil ?_ | refine parEVC_nil ?_ | refine genVC_nil ?_ | refine AWP.block ?_ | (refine AWP.cond (by with_unfolding_all rfl) ?_ ?_ <;> intro h <;> (try simp only [zM, zN] at h) <;> try exact absurd h (by decide)) | refine AWP.skip ?_ | refine AWP.ret ?_ | refine AWP.exit ?_ | (refine ⟨fun h => ?_, fun h => ?_⟩ <;> (try simp only [zM, zN] at h) <;> try simp only [h]) | refine ⟨by omega, by omega, by omega, ?_⟩ | refine AWP.parR mixed (by kernel_rfl) fun K hK => ?_ | refine ⟨(by kernel_rfl : depB _ _ _ = true), ?_⟩ | refine Or.inl ?_) | (clear hK K))
    all_goals (simp only [hok, Int.toNat_natCast])
    all_goals (refine ⟨by first | trivial | rfl, fun x hx => ?_⟩; simp only [List.mem_singleton] at hx; subst hx; simp)
/-- the reserved words -/
def resW : List (List UInt8) := [[109, 111, 100, 117, 108, 101], [105, 109, 112, 111, 114, 116], [101, 120, 112, 111, 114, 116], [115, 105, 103], [119, 104, 101, 110], [99, 97, 115, 101], [111, 102], [101, 110, 100], [116, 114, 121], [99, 97, 116, 99, 104], [114, 97, 105, 115, 101], [97, 115, 115, 101, 114, 116], [115, 112, 97, 119, 110], [115, 101, 108, 102], [115, 101, 110, 100], [114, 101, 99, 101, 105, 118, 101], [97, 102, 116, 101, 114], [108, 101, 116], [105, 110], [102, 117, 110], [97, 112, 112, 108, 121], [112, 117, 116], [103, 101, 116], [97, 110, 100], [111, 114], [110, 111, 116], [100, 105, 118], [114, 101, 109]]
@[go_sem] theorem mp57 : mpT Tryd.prog 57 = some ([.bool false], false) := by kernel_rfl
theorem assoc_putA (k s : List UInt8) (r : List C) : ∀ es, assoc s (putA k r es) = bif decide (k = s) then some r else assoc s es
  | [] => by simp only [putA, assoc]
  | p :: es => by
    have ih := assoc_putA k s r es
    rw [putA]
    by_cases h : p.1 = k
    · rw [decide_eq_true h, cond_true]
      simp only [assoc, h]
      cases decide (k = s) <;> rfl
    · rw [decide_eq_false h, cond_false, assoc, ih, assoc]
      by_cases h2 : k = s
      · rw [decide_eq_true h2, cond_true, cond_true]
        rw [decide_eq_false (by rintro rfl; exact h h2.symm), cond_false]
      · rw [decide_eq_false h2, cond_false, cond_false]
def mapW : List (List UInt8) → List (List UInt8 × List C) → List (List UInt8 × List C)
  | [], es => es
  | k :: l, es => mapW l (putA k [.bool true] es)
theorem assoc_mapW (s : List UInt8) : ∀ l es, assoc s (mapW l es) = bif l.any (fun x => decide (x = s)) then some [.bool true] else assoc s es
  | [], es => rfl
  | k :: l, es => by
    rw [mapW, assoc_mapW s l, assoc_putA, List.any_cons]
    cases l.any _ <;> cases decide (k = s) <;> rfl
theorem reserved_c (s : List UInt8) : PC Tryd.prog 17 [S s] (Bo (resW.any fun x => decide (x = s))) := by
  have hm := assoc_mapW s resW []
  generalize (resW.any fun x => decide (x = s)) = c at hm ⊢
  simp only [resW, mapW] at hm
  refine PCB.of_body Tryd.func17 rfl (by decide) Tryd.ntmps17 Tryd.results17 rfl rfl rfl ?_ rfl rfl
  repeat' (first | (simp only [go_sem, zA, zB, zC, zD, zE, zF, zG, reduceCtorEq, zH, zI, zJ, zK, zL, hm, assoc]; all_goals fail_if_success guard_target =ₛ False) | (with_reducible first | ((first | refine seqVC_stepN rfl ?_ | refine AWP.seq ?_ | refine AWP.seqR (by kernel_rfl) ?_); intro K hK) | ((first | refine hK _ _ _ ?_ | refine hK _ _ ?_ | refine hK _ ?_); clear hK K) | refine seqVC_nil ?_ | refine AWP.block ?_ | (refine AWP.cond (by with_unfolding_all rfl) ?_ ?_ <;> intro h <;> (try simp only [zM, zN] at h) <;> try exact absurd h (by decide)) | refine AWP.skip ?_ | refine AWP.ret ?_ | refine AWP.exit ?_ | refine Or.inl ?_) | (clear hK K))
  all_goals (refine fin0 ?_; cases c <;> rfl)
theorem among_c (l : List (List UInt8)) (w : List UInt8) : PC Tryd.prog 18 [.one (.dat (.sl 1 (l.map encStr))), S w] (Bo (l.any fun x => decide (x = w))) := by
  refine PCB.of_body Tryd.func18 rfl (by decide) Tryd.ntmps18 Tryd.results18 rfl rfl rfl ?_ rfl rfl
  refine AWP.len 0 rfl fun hlen => ?_
  rw [List.length_map] at hlen
  repeat' (first | (simp only [go_sem, zA, zB, zC, zD, zE, zF, zG, reduceCtorEq, zH, zI, zJ, zK, zL, List.length_map]; all_goals fail_if_success guard_target =ₛ False) | (with_reducible first | ((first | refine seqVC_stepN rfl ?_ | refine AWP.seq ?_ | refine AWP.seqR (by kernel_rfl) ?_); intro K hK) | ((first | refine hK _ _ _ ?_ | refine hK _ _ ?_ | refine hK _ ?_); clear hK K) | refine seqVC_nil ?_ | refine AWP.block ?_ | (refine AWP.cond (by with_unfolding_all rfl) ?_ ?_ <;> intro h <;> (try simp only [zM, zN] at h) <;> try exact absurd h (by decide)) | refine AWP.skip ?_ | refine AWP.ret ?_ | refine AWP.exit ?_ | refine Or.inl ?_) | (clear hK K))
  refine AWP.len 7 rfl fun hlen0 => ?_
  (try rw [List.length_map] at hlen0)
  refine AWP.range (S := Unit) (l) Sx.encStr (fun k s => (9, I .i64 (k : Nat)) :: []) (fun k s => []) [1, 7, 8] [] (fun k s => (l.any fun x => decide (x = w)) = ((l.drop k).any fun x => decide (x = w))) (()) (by simp only [go_sem, zA, zB, zC, zD, zE, zF, zG, reduceCtorEq, zH, zI, zJ, zK, zL]; exact Gh.to [] (by repeat (first | exact trivial | refine ⟨rfl, ?_⟩ | refine ⟨by (simp only [go_sem, zA, zB, zC, zD, zE, zF, zG, reduceCtorEq, zH, zI, zJ, zK, zL, List.length_append, List.length_map, List.length_cons, List.length_nil, Nat.zero_add]) <;> rfl, ?_⟩)) (by repeat (first | exact trivial | refine ⟨rfl, ?_⟩ | refine ⟨by (simp only [go_sem, zA, zB, zC, zD, zE, zF, zG, reduceCtorEq, zH, zI, zJ, zK, zL, List.length_append, List.length_map, List.length_cons, List.length_nil, Nat.zero_add]) <;> rfl, ?_⟩)) rfl rfl rfl) ?_ ?_ ?_
  · rfl
  · intro k u x hlt hx hx' hb hok
    simp only [go_sem, zA, zB, zC, zD, zE, zF, zG, reduceCtorEq, zH, zI, zJ, zK, zL]
    rw [List.drop_eq_getElem_cons hlt, show l[k] = x from (List.getElem?_eq_some_iff.1 hx).2, List.any_cons] at hok
    cases hz : decide (x = w)
    ·
      repeat' (first | (simp only [go_sem, zA, zB, zC, zD, zE, zF, zG, reduceCtorEq, zH, zI, zJ, zK, zL, List.length_map, hb, hz, encStr]; all_goals fail_if_success guard_target =ₛ False) | (with_reducible first | ((first | refine seqVC_stepN rfl ?_ | refine AWP.seq ?_ | refine AWP.seqR (by kernel_rfl) ?_); intro K hK) | ((first | refine hK _ _ _ ?_ | refine hK _ _ ?_ | refine hK _ ?_); clear hK K) | refine seqVC_nil ?_ | refine AWP.block ?_ | (refine AWP.cond (by with_unfolding_all rfl) ?_ ?_ <;> intro h <;> (try simp only [zM, zN] at h) <;> try exact absurd h (by decide)) | refine AWP.skip ?_ | refine AWP.ret ?_ | refine AWP.exit ?_ | refine ⟨by omega, encStr x, hx', ?_⟩ | refine Or.inl ?_) | (clear hK K))
      all_goals (rw [wrap_succ hlt hlen0])
      all_goals (refine ⟨(), ?_, Gh.to [] (by repeat (first | exact trivial | refine ⟨rfl, ?_⟩ | refine ⟨by (simp only [go_sem, zA, zB, zC, zD, zE, zF, zG, reduceCtorEq, zH, zI, zJ, zK, zL, List.length_append, List.length_map, List.length_cons, List.length_nil, Nat.zero_add]) <;> rfl, ?_⟩)) (by repeat (first | exact trivial | refine ⟨rfl, ?_⟩ | refine ⟨by (simp only [go_sem, zA, zB, zC, zD, zE, zF, zG, reduceCtorEq, zH, zI, zJ, zK, zL, List.length_append, List.length_map, List.length_cons, List.length_nil, Nat.zero_add]) <;> rfl, ?_⟩)) rfl rfl rfl⟩)
      all_goals (rw [hok, hz, Bool.false_or])
    ·
      repeat' (first | (simp only [go_sem, zA, zB, zC, zD, zE, zF, zG, reduceCtorEq, zH, zI, zJ, zK, zL, List.length_map, hb, hz, encStr]; all_goals fail_if_success guard_target =ₛ False) | (with_reducible first | ((first | refine seqVC_stepN rfl ?_ | refine AWP.seq ?_ | refine AWP.seqR (by kernel_rfl) ?_); intro K hK) | ((first | refine hK _ _ _ ?_ | refine hK _ _ ?_ | refine hK _ ?_); clear hK K) | refine seqVC_nil ?_ | refine AWP.block ?_ | (refine AWP.cond (by with_unfolding_all rfl) ?_ ?_ <;> intro h <;> (try simp only [zM, zN] at h) <;> try exact absurd h (by decide)) | refine AWP.skip ?_ | refine AWP.ret ?_ | refine AWP.exit ?_ | refine ⟨by omega, encStr x, hx', ?_⟩ | refine Or.inl ?_) | (clear hK K))
      all_goals (refine fin0 ?_; simp only [hok, hz, Bool.true_or])
  · intro u hb hok
    simp only [go_sem, zA, zB, zC, zD, zE, zF, zG, reduceCtorEq, zH, zI, zJ, zK, zL]
    rw [List.drop_length, List.any_nil] at hok
    repeat' (first | (simp only [go_sem, zA, zB, zC, zD, zE, zF, zG, reduceCtorEq, zH, zI, zJ, zK, zL, List.length_map, hb]; all_goals fail_if_success guard_target =ₛ False) | (with_reducible first | ((first | refine seqVC_stepN rfl ?_ | refine AWP.seq ?_ | refine AWP.seqR (by kernel_rfl) ?_); intro K hK) | ((first | refine hK _ _ _ ?_ | refine hK _ _ ?_ | refine hK _ ?_); clear hK K) | refine seqVC_nil ?_ | refine AWP.block ?_ | (refine AWP.cond (by with_unfolding_all rfl) ?_ ?_ <;> intro h <;> (try simp only [zM, zN] at h) <;> try exact absurd h (by decide)) | refine AWP.skip ?_ | refine AWP.ret ?_ | refine AWP.exit ?_ | refine Or.inl ?_) | (clear hK K))
    all_goals (refine fin0 ?_; simp only [hok])
theorem sepI_yes {n : Int} (h : sepI n = true) : n = 9 ∨ n = 10 ∨ n = 13 ∨ n = 32 := by simpa [sepI] using h
theorem sepI_no {n : Int} (h : sepI n = false) : decide (n = 9) = false ∧ decide (n = 10) = false ∧ decide (n = 13) = false ∧ decide (n = 32) = false := by simpa [sepI] using h
theorem byte_at {s : List UInt8} {k : Nat} (h : k < s.length) : ∃ b, s[k]? = some b := ⟨s[k], List.getElem?_eq_getElem h⟩
theorem wk64 {k n : Nat} (h : k < n) (hn : n ≤ 1000000000000) : IntKind.i64.wrap ((k : Int) + 1) = ((k + 1 : Nat) : Int) := by rw [w64 (by omega)]; rfl
/-- skip passes over separators -/
theorem wskip_c (s : List UInt8) (hs : s.length ≤ 1000000000000) (k0 : Nat) (hk0 : k0 ≤ s.length) :
    PCB Tryd.prog 36 [Scp pin] [(pin, scB s k0)] (.tup []) [(pin, scB s (skipTo s k0))] := by
  refine PCB.of_body Tryd.func36 rfl (by decide) Tryd.ntmps36 Tryd.results36 rfl rfl rfl ?_ rfl rfl
  repeat' (first | (simp only [go_sem, zA, zB, zC, zD, zE, zF, zG, reduceCtorEq, zH, zI, zJ, zK, zL, pin]; all_goals fail_if_success guard_target =ₛ False) | (with_reducible first | ((first | refine seqVC_stepN rfl ?_ | refine seqVC_stepG rfl (by with_unfolding_all rfl) ?_ | refine AWP.seq ?_ | refine AWP.seqR (by kernel_rfl) ?_ | refine parVC_stepN rfl ?_ | refine parVC_stepG rfl (by with_unfolding_all rfl) ?_ | refine parEVC_stepN rfl ?_ | refine parEVC_stepG rfl (by with_unfolding_all rfl) ?_ | refine genVC_stepN rfl ?_ | refine genVC_stepG rfl (by with_unfolding_all rfl) ?_); intro K hK) | ((first | refine hK _ _ _ ?_ | refine hK _ _ ?_ | refine hK _ ?_); clear hK K) | refine seqVC_nil ?_ | refine parVC_nil ?_ | refine parEVC_nil ?_ | refine genVC_nil ?_ | refine AWP.block ?_ | (refine AWP.cond (by with_unfolding_all rfl) ?_ ?_ <;> intro h <;> (try simp only [zM, zN] at h) <;> try exact absurd h (by decide)) | refine AWP.skip ?_ | refine AWP.ret ?_ | refine AWP.exit ?_ | (refine ⟨fun h => ?_, fun h => ?_⟩ <;> (try simp only [zM, zN] at h) <;> try simp only [h]) | refine AWP.parR mixed (by kernel_rfl) fun K hK => ?_ | refine ⟨(by kernel_rfl : depB _ _ _ = true), ?_⟩ | refine Or.inl ?_) | (clear hK K))
  refine AWP.loopF (X := Nat) (fun k => [(0, Scp 1000000)]) (fun k => [(1000000, scB s k)]) [] [] (fun k => k ≤ s.length ∧ skipTo s k0 = skipTo s k) (fun k => s.length - k) (k0) (by simp only [go_sem, zA, zB, zC, zD, zE, zF, zG, reduceCtorEq, zH, zI, zJ, zK, zL]; exact Gh.to [] (by repeat (first | exact trivial | refine ⟨rfl, ?_⟩ | refine ⟨by (simp only [go_sem, zA, zB, zC, zD, zE, zF, zG, reduceCtorEq, zH, zI, zJ, zK, zL, List.length_append, List.length_map, List.length_cons, List.length_nil, Nat.zero_add]) <;> rfl, ?_⟩)) (by repeat (first | exact trivial | refine ⟨rfl, ?_⟩ | refine ⟨by (simp only [go_sem, zA, zB, zC, zD, zE, zF, zG, reduceCtorEq, zH, zI, zJ, zK, zL, List.length_append, List.length_map, List.length_cons, List.length_nil, Nat.zero_add]) <;> rfl, ?_⟩)) rfl rfl rfl) ?_ ?_
  · exact ⟨hk0, rfl⟩
  rintro k ⟨hkl, hok⟩
  simp only [go_sem, zA, zB, zC, zD, zE, zF, zG, reduceCtorEq, zH, zI, zJ, zK, zL]
  by_cases hlt : k < s.length
  · obtain ⟨b, hb⟩ := byte_at hlt
    have hd : decide ((k : Int) < (s.length : Int)) = true := by rw [decide_eq_true_eq]; omega
    have hwk := wk64 hlt hs
    cases hz : sepI b.toNat
    · obtain ⟨h9, h10, h13, h32⟩ := sepI_no hz
      cases hc : decide ((b.toNat : Int) = 37)
      · rw [skipTo_no hb hz hc] at hok
        repeat' (first | (simp only [go_sem, zA, zB, zC, zD, zE, zF, zG, reduceCtorEq, zH, zI, zJ, zK, zL, pin, hd, hwk, h9, h10, h13, h32, hc]; all_goals fail_if_success guard_target =ₛ False) | (with_reducible first | ((first | refine seqVC_stepN rfl ?_ | refine seqVC_stepG rfl (by with_unfolding_all rfl) ?_ | refine AWP.seq ?_ | refine AWP.seqR (by kernel_rfl) ?_ | refine parVC_stepN rfl ?_ | refine parVC_stepG rfl (by with_unfolding_all rfl) ?_ | refine parEVC_stepN rfl ?_ | refine parEVC_stepG rfl (by with_unfolding_all rfl) ?_ | refine genVC_stepN rfl ?_ | refine genVC_stepG rfl (by with_unfolding_all rfl) ?_); intro K hK) | ((first | refine hK _ _ _ ?_ | refine hK _ _ ?_ | refine hK _ ?_); clear hK K) | refine seqVC_nil ?_ | refine parVC_nil ?_ | refine parEVC_nil ?_ | refine genVC_nil ?_ | refine AWP.block ?_ | (refine AWP.cond (by with_unfolding_all rfl) ?_ ?_ <;> intro h <;> (try simp only [zM, zN] at h) <;> try exact absurd h (by decide)) | refine AWP.skip ?_ | refine AWP.ret ?_ | refine AWP.exit ?_ | (refine ⟨fun h => ?_, fun h => ?_⟩ <;> (try simp only [zM, zN] at h) <;> try simp only [h]) | refine ⟨by omega, b, hb, ?_⟩ | refine AWP.parR mixed (by kernel_rfl) fun K hK => ?_ | refine ⟨(by kernel_rfl : depB _ _ _ = true), ?_⟩ | refine Or.inl ?_) | (clear hK K))
        all_goals (simp only [hok])
        all_goals (exact fun x hx => hx)
      · rw [skipTo_com hb hz hc] at hok
        repeat' (first | (simp only [go_sem, zA, zB, zC, zD, zE, zF, zG, reduceCtorEq, zH, zI, zJ, zK, zL, pin, hd, hwk, h9, h10, h13, h32, hc]; all_goals fail_if_success guard_target =ₛ False) | (with_reducible first | ((first | refine seqVC_stepN rfl ?_ | refine seqVC_stepG rfl (by with_unfolding_all rfl) ?_ | refine AWP.seq ?_ | refine AWP.seqR (by kernel_rfl) ?_ | refine parVC_stepN rfl ?_ | refine parVC_stepG rfl (by with_unfolding_all rfl) ?_ | refine parEVC_stepN rfl ?_ | refine parEVC_stepG rfl (by with_unfolding_all rfl) ?_ | refine genVC_stepN rfl ?_ | refine genVC_stepG rfl (by with_unfolding_all rfl) ?_); intro K hK) | ((first | refine hK _ _ _ ?_ | refine hK _ _ ?_ | refine hK _ ?_); clear hK K) | refine seqVC_nil ?_ | refine parVC_nil ?_ | refine parEVC_nil ?_ | refine genVC_nil ?_ | refine AWP.block ?_ | (refine AWP.cond (by with_unfolding_all rfl) ?_ ?_ <;> intro h <;> (try simp only [zM, zN] at h) <;> try exact absurd h (by decide)) | refine AWP.skip ?_ | refine AWP.ret ?_ | refine AWP.exit ?_ | (refine ⟨fun h => ?_, fun h => ?_⟩ <;> (try simp only [zM, zN] at h) <;> try simp only [h]) | refine ⟨by omega, b, hb, ?_⟩ | refine AWP.parR mixed (by kernel_rfl) fun K hK => ?_ | refine ⟨(by kernel_rfl : depB _ _ _ = true), ?_⟩ | refine Or.inl ?_) | (clear hK K))
        refine AWP.loopF (X := Nat) (fun j => [(0, Scp 1000000)]) (fun j => [(1000000, scB s j)]) [] [] (fun j => k ≤ j ∧ j < s.length ∧ toW noLf s (k + 1) = toW noLf s (j + 1)) (fun j => s.length - j) (k) (by simp only [go_sem, zA, zB, zC, zD, zE, zF, zG, reduceCtorEq, zH, zI, zJ, zK, zL]; exact Gh.to [] (by repeat (first | exact trivial | refine ⟨rfl, ?_⟩ | refine ⟨by (simp only [go_sem, zA, zB, zC, zD, zE, zF, zG, reduceCtorEq, zH, zI, zJ, zK, zL, List.length_append, List.length_map, List.length_cons, List.length_nil, Nat.zero_add]) <;> rfl, ?_⟩)) (by repeat (first | exact trivial | refine ⟨rfl, ?_⟩ | refine ⟨by (simp only [go_sem, zA, zB, zC, zD, zE, zF, zG, reduceCtorEq, zH, zI, zJ, zK, zL, List.length_append, List.length_map, List.length_cons, List.length_nil, Nat.zero_add]) <;> rfl, ?_⟩)) rfl rfl rfl) ?_ ?_
        · exact ⟨Nat.le_refl _, hlt, rfl⟩
        rintro j ⟨hkj, hjl, hoj⟩
        simp only [go_sem, zA, zB, zC, zD, zE, zF, zG, reduceCtorEq, zH, zI, zJ, zK, zL]
        have hwj := wk64 hjl hs
        by_cases hj1 : j + 1 < s.length
        · obtain ⟨c, hcj⟩ := byte_at hj1
          have hdj : decide (((j + 1 : Nat) : Int) < (s.length : Int)) = true := by rw [decide_eq_true_eq]; omega
          cases h0 : decide ((c.toNat : Int) = 10)
          · have hn : noLf c.toNat = true := by simp only [noLf, h0, Bool.not_false]
            rw [toW_yes hcj hn] at hoj
            repeat' (first | (simp only [go_sem, zA, zB, zC, zD, zE, zF, zG, reduceCtorEq, zH, zI, zJ, zK, zL, pin, hwj, hdj, h0]; all_goals fail_if_success guard_target =ₛ False) | (with_reducible first | ((first | refine seqVC_stepN rfl ?_ | refine seqVC_stepG rfl (by with_unfolding_all rfl) ?_ | refine AWP.seq ?_ | refine AWP.seqR (by kernel_rfl) ?_ | refine parVC_stepN rfl ?_ | refine parVC_stepG rfl (by with_unfolding_all rfl) ?_ | refine parEVC_stepN rfl ?_ | refine parEVC_stepG rfl (by with_unfolding_all rfl) ?_ | refine genVC_stepN rfl ?_ | refine genVC_stepG rfl (by with_unfolding_all rfl) ?_); intro K hK) | ((first | refine hK _ _ _ ?_ | refine hK _ _ ?_ | refine hK _ ?_); clear hK K) | refine seqVC_nil ?_ | refine parVC_nil ?_ | refine parEVC_nil ?_ | refine genVC_nil ?_ | refine AWP.block ?_ | (refine AWP.cond (by with_unfolding_all rfl) ?_ ?_ <;> intro h <;> (try simp only [zM, zN] at h) <;> try exact absurd h (by decide)) | refine AWP.skip ?_ | refine AWP.ret ?_ | refine AWP.exit ?_ | (refine ⟨fun h => ?_, fun h => ?_⟩ <;> (try simp only [zM, zN] at h) <;> try simp only [h]) | refine ⟨by omega, c, hcj, ?_⟩ | refine AWP.parR mixed (by kernel_rfl) fun K hK => ?_ | refine ⟨(by kernel_rfl : depB _ _ _ = true), ?_⟩ | refine Or.inl ?_) | (clear hK K))
            all_goals (refine ⟨j + 1, by first | omega | (simp only; omega), ⟨by omega, by omega, hoj⟩, Gh.to [] (by repeat (first | exact trivial | refine ⟨rfl, ?_⟩ | refine ⟨by (simp only [go_sem, zA, zB, zC, zD, zE, zF, zG, reduceCtorEq, zH, zI, zJ, zK, zL, List.length_append, List.length_map, List.length_cons, List.length_nil, Nat.zero_add]) <;> rfl, ?_⟩)) (by repeat (first | exact trivial | refine ⟨rfl, ?_⟩ | refine ⟨by (simp only [go_sem, zA, zB, zC, zD, zE, zF, zG, reduceCtorEq, zH, zI, zJ, zK, zL, List.length_append, List.length_map, List.length_cons, List.length_nil, Nat.zero_add]) <;> rfl, ?_⟩)) rfl rfl rfl⟩)
          · have hn : noLf c.toNat = false := by simp only [noLf, h0, Bool.not_true]
            rw [toW_no hcj hn] at hoj
            repeat' (first | (simp only [go_sem, zA, zB, zC, zD, zE, zF, zG, reduceCtorEq, zH, zI, zJ, zK, zL, pin, hwj, hdj, h0]; all_goals fail_if_success guard_target =ₛ False) | (with_reducible first | ((first | refine seqVC_stepN rfl ?_ | refine seqVC_stepG rfl (by with_unfolding_all rfl) ?_ | refine AWP.seq ?_ | refine AWP.seqR (by kernel_rfl) ?_ | refine parVC_stepN rfl ?_ | refine parVC_stepG rfl (by with_unfolding_all rfl) ?_ | refine parEVC_stepN rfl ?_ | refine parEVC_stepG rfl (by with_unfolding_all rfl) ?_ | refine genVC_stepN rfl ?_ | refine genVC_stepG rfl (by with_unfolding_all rfl) ?_); intro K hK) | ((first | refine hK _ _ _ ?_ | refine hK _ _ ?_ | refine hK _ ?_); clear hK K) | refine seqVC_nil ?_ | refine parVC_nil ?_ | refine parEVC_nil ?_ | refine genVC_nil ?_ | refine AWP.block ?_ | (refine AWP.cond (by with_unfolding_all rfl) ?_ ?_ <;> intro h <;> (try simp only [zM, zN] at h) <;> try exact absurd h (by decide)) | refine AWP.skip ?_ | refine AWP.ret ?_ | refine AWP.exit ?_ | (refine ⟨fun h => ?_, fun h => ?_⟩ <;> (try simp only [zM, zN] at h) <;> try simp only [h]) | refine ⟨by omega, c, hcj, ?_⟩ | refine AWP.parR mixed (by kernel_rfl) fun K hK => ?_ | refine ⟨(by kernel_rfl : depB _ _ _ = true), ?_⟩ | refine Or.inl ?_) | (clear hK K))
            all_goals (refine ⟨j + 1, by first | omega | (simp only; omega), ⟨by omega, by rw [hok, hoj]⟩, Gh.to [] (by repeat (first | exact trivial | refine ⟨rfl, ?_⟩ | refine ⟨by (simp only [go_sem, zA, zB, zC, zD, zE, zF, zG, reduceCtorEq, zH, zI, zJ, zK, zL, List.length_append, List.length_map, List.length_cons, List.length_nil, Nat.zero_add]) <;> rfl, ?_⟩)) (by repeat (first | exact trivial | refine ⟨rfl, ?_⟩ | refine ⟨by (simp only [go_sem, zA, zB, zC, zD, zE, zF, zG, reduceCtorEq, zH, zI, zJ, zK, zL, List.length_append, List.length_map, List.length_cons, List.length_nil, Nat.zero_add]) <;> rfl, ?_⟩)) rfl rfl rfl⟩)
        · have hdj : decide (((j + 1 : Nat) : Int) < (s.length : Int)) = false := by rw [decide_eq_false_iff_not]; omega
          rw [toW_end (s := s) (k := j + 1) (by omega)] at hoj
          repeat' (first | (simp only [go_sem, zA, zB, zC, zD, zE, zF, zG, reduceCtorEq, zH, zI, zJ, zK, zL, pin, hwj, hdj]; all_goals fail_if_success guard_target =ₛ False) | (with_reducible first | ((first | refine seqVC_stepN rfl ?_ | refine seqVC_stepG rfl (by with_unfolding_all rfl) ?_ | refine AWP.seq ?_ | refine AWP.seqR (by kernel_rfl) ?_ | refine parVC_stepN rfl ?_ | refine parVC_stepG rfl (by with_unfolding_all rfl) ?_ | refine parEVC_stepN rfl ?_ | refine parEVC_stepG rfl (by with_unfolding_all rfl) ?_ | refine genVC_stepN rfl ?_ | refine genVC_stepG rfl (by with_unfolding_all rfl) ?_); intro K hK) | ((first | refine hK _ _ _ ?_ | refine hK _ _ ?_ | refine hK _ ?_); clear hK K) | refine seqVC_nil ?_ | refine parVC_nil ?_ | refine parEVC_nil ?_ | refine genVC_nil ?_ | refine AWP.block ?_ | (refine AWP.cond (by with_unfolding_all rfl) ?_ ?_ <;> intro h <;> (try simp only [zM, zN] at h) <;> try exact absurd h (by decide)) | refine AWP.skip ?_ | refine AWP.ret ?_ | refine AWP.exit ?_ | (refine ⟨fun h => ?_, fun h => ?_⟩ <;> (try simp only [zM, zN] at h) <;> try simp only [h]) | refine AWP.parR mixed (by kernel_rfl) fun K hK => ?_ | refine ⟨(by kernel_rfl : depB _ _ _ = true), ?_⟩ | refine Or.inl ?_) | (clear hK K))
          all_goals (refine ⟨j + 1, by first | omega | (simp only; omega), ⟨by omega, by rw [hok, hoj]⟩, Gh.to [] (by repeat (first | exact trivial | refine ⟨rfl, ?_⟩ | refine ⟨by (simp only [go_sem, zA, zB, zC, zD, zE, zF, zG, reduceCtorEq, zH, zI, zJ, zK, zL, List.length_append, List.length_map, List.length_cons, List.length_nil, Nat.zero_add]) <;> rfl, ?_⟩)) (by repeat (first | exact trivial | refine ⟨rfl, ?_⟩ | refine ⟨by (simp only [go_sem, zA, zB, zC, zD, zE, zF, zG, reduceCtorEq, zH, zI, zJ, zK, zL, List.length_append, List.length_map, List.length_cons, List.length_nil, Nat.zero_add]) <;> rfl, ?_⟩)) rfl rfl rfl⟩)
    · rw [skipTo_sep hb hz] at hok
      rcases sepI_yes hz with h4 | h4 | h4 | h4
      all_goals
        repeat' (first | (simp only [go_sem, zA, zB, zC, zD, zE, zF, zG, reduceCtorEq, zH, zI, zJ, zK, zL, pin, hd, hwk, h4]; all_goals fail_if_success guard_target =ₛ False) | (with_reducible first | ((first | refine seqVC_stepN rfl ?_ | refine seqVC_stepG rfl (by with_unfolding_all rfl) ?_ | refine AWP.seq ?_ | refine AWP.seqR (by kernel_rfl) ?_ | refine parVC_stepN rfl ?_ | refine parVC_stepG rfl (by with_unfolding_all rfl) ?_ | refine parEVC_stepN rfl ?_ | refine parEVC_stepG rfl (by with_unfolding_all rfl) ?_ | refine genVC_stepN rfl ?_ | refine genVC_stepG rfl (by with_unfolding_all rfl) ?_); intro K hK) | ((first | refine hK _ _ _ ?_ | refine hK _ _ ?_ | refine hK _ ?_); clear hK K) | refine seqVC_nil ?_ | refine parVC_nil ?_ | refine parEVC_nil ?_ | refine genVC_nil ?_ | refine AWP.block ?_ | (refine AWP.cond (by with_unfolding_all rfl) ?_ ?_ <;> intro h <;> (try simp only [zM, zN] at h) <;> try exact absurd h (by decide)) | refine AWP.skip ?_ | refine AWP.ret ?_ | refine AWP.exit ?_ | (refine ⟨fun h => ?_, fun h => ?_⟩ <;> (try simp only [zM, zN] at h) <;> try simp only [h]) | refine ⟨by omega, b, hb, ?_⟩ | refine AWP.parR mixed (by kernel_rfl) fun K hK => ?_ | refine ⟨(by kernel_rfl : depB _ _ _ = true), ?_⟩ | refine Or.inl ?_) | (clear hK K))
        all_goals (refine ⟨k + 1, by first | omega | (simp only; omega), ⟨by omega, hok⟩, Gh.to [] (by repeat (first | exact trivial | refine ⟨rfl, ?_⟩ | refine ⟨by (simp only [go_sem, zA, zB, zC, zD, zE, zF, zG, reduceCtorEq, zH, zI, zJ, zK, zL, List.length_append, List.length_map, List.length_cons, List.length_nil, Nat.zero_add]) <;> rfl, ?_⟩)) (by repeat (first | exact trivial | refine ⟨rfl, ?_⟩ | refine ⟨by (simp only [go_sem, zA, zB, zC, zD, zE, zF, zG, reduceCtorEq, zH, zI, zJ, zK, zL, List.length_append, List.length_map, List.length_cons, List.length_nil, Nat.zero_add]) <;> rfl, ?_⟩)) rfl rfl rfl⟩)
  · have hd : decide ((k : Int) < (s.length : Int)) = false := by rw [decide_eq_false_iff_not]; omega
    rw [skipTo_end (s := s) (k := k) (by omega)] at hok
    repeat' (first | (simp only [go_sem, zA, zB, zC, zD, zE, zF, zG, reduceCtorEq, zH, zI, zJ, zK, zL, pin, hd]; all_goals fail_if_success guard_target =ₛ False) | (with_reducible first | ((first | refine seqVC_stepN rfl ?_ | refine seqVC_stepG rfl (by with_unfolding_all rfl) ?_ | refine AWP.seq ?_ | refine AWP.seqR (by kernel_rfl) ?_ | refine parVC_stepN rfl ?_ | refine parVC_stepG rfl (by with_unfolding_all rfl) ?_ | refine parEVC_stepN rfl ?_ | refine parEVC_stepG rfl (by with_unfolding_all rfl) ?_ | refine genVC_stepN rfl ?_ | refine genVC_stepG rfl (by with_unfolding_all rfl) ?_); intro K hK) | ((first | refine hK _ _ _ ?_ | refine hK _ _ ?_ | refine hK _ ?_); clear hK K) | refine seqVC_nil ?_ | refine parVC_nil ?_ | refine parEVC_nil ?_ | refine genVC_nil ?_ | refine AWP.block ?_ | (refine AWP.cond (by with_unfolding_all rfl) ?_ ?_ <;> intro h <;> (try simp only [zM, zN] at h) <;> try exact absurd h (by decide)) | refine AWP.skip ?_ | refine AWP.ret ?_ | refine AWP.exit ?_ | (refine ⟨fun h => ?_, fun h => ?_⟩ <;> (try simp only [zM, zN] at h) <;> try simp only [h]) | refine AWP.parR mixed (by kernel_rfl) fun K hK => ?_ | refine ⟨(by kernel_rfl : depB _ _ _ = true), ?_⟩ | refine Or.inl ?_) | (clear hK K))
    all_goals (simp only [hok])
    all_goals (exact fun x hx => hx)
end Go.Proofs.YtogponhonjiidaaDoor
set_option linter.unusedSimpArgs false
set_option linter.unusedVariables false
set_option maxRecDepth 20000
set_option maxHeartbeats 400000
namespace Go.Proofs.YtogponhonjiidaaDoor
open Go Go.Sx
open Nat renaming reduceBEq → zA, reduceBNe → zB, reduceAdd → zC, reduceSub → zD, reduceMul → zE, reduceLeDiff → zF, reduceLT → zG, reduceEqDiff → zH
open Int renaming reduceToNat → zI, reduceLE → zJ, reduceLT → zK, reduceEq → zL
open Bool renaming not_eq_true' → zM, not_eq_false' → zN
/-- the number that digits spell, after acc -/
@[irreducible] def dval (b : UInt8) : Nat := b.toNat - 48
theorem dval_eq (b : UInt8) : dval b = b.toNat - 48 := by unfold dval; exact Eq.refl _
def decA (acc : Nat) : List UInt8 → Nat
  | [] => acc
  | b :: l => decA (acc * 10 + dval b) l
theorem decA_ge (l : List UInt8) : ∀ acc, acc ≤ decA acc l := by
  induction l with
  | nil => exact fun _ => Nat.le_refl _
  | cons b l ih => exact fun acc => Nat.le_trans (by omega) (ih _)
/-- all are digits -/
def allDig (l : List UInt8) : Prop := ∀ b ∈ l, digI b.toNat = true
theorem dig_bd {b : UInt8} (h : digI b.toNat = true) : 48 ≤ b.toNat ∧ b.toNat ≤ 57 := by
  simp only [digI, Bool.and_eq_true, decide_eq_true_eq] at h; omega
theorem pu_big {M acc : Nat} {c : UInt8} {r : List UInt8} (h : 48 ≤ c.toNat ∧ c.toNat ≤ 57) (h3 : 1844674407370955162 ≤ acc) : Lib.parseUintM M acc (c :: r) = .range := by
  simp only [Lib.parseUintM, h, and_self, if_true, h3]
theorem pu_over {M acc : Nat} {c : UInt8} {r : List UInt8} (h : 48 ≤ c.toNat ∧ c.toNat ≤ 57) (h3 : ¬ 1844674407370955162 ≤ acc) (h4 : M < acc * 10 + (c.toNat - 48)) : Lib.parseUintM M acc (c :: r) = .range := by
  simp only [Lib.parseUintM, h, and_self, if_true, h3, if_false, h4]
theorem pu_step {M acc : Nat} {c : UInt8} {r : List UInt8} (h : 48 ≤ c.toNat ∧ c.toNat ≤ 57) (h3 : ¬ 1844674407370955162 ≤ acc) (h4 : ¬ M < acc * 10 + (c.toNat - 48)) : Lib.parseUintM M acc (c :: r) = Lib.parseUintM M (acc * 10 + (c.toNat - 48)) r := by
  simp only [Lib.parseUintM, h, and_self, if_true, h3, if_false, h4]
theorem decA_cons (acc : Nat) (b : UInt8) (l : List UInt8) : decA acc (b :: l) = decA (acc * 10 + (b.toNat - 48)) l := by rw [decA, dval_eq]
theorem pu_aux {M acc x D : Nat} (hM : M < 18446744073709551620) (h3 : 1844674407370955162 ≤ acc) (h : acc * 10 ≤ x) (hg : x ≤ D) : M < D := by omega
theorem parseUint_ok {M : Nat} (hM : M < 18446744073709551620) : ∀ (l : List UInt8) (acc : Nat), allDig l → acc ≤ M → decA acc l ≤ M → Lib.parseUintM M acc l = .ok (decA acc l)
  | [], acc, _, _, _ => rfl
  | b :: l, acc, hd, hacc, h => by
    have hb := dig_bd (hd b List.mem_cons_self)
    have hge := decA_ge l (acc * 10 + (b.toNat - 48))
    have hle : acc * 10 ≤ acc * 10 + (b.toNat - 48) := Nat.le_add_right _ _
    rw [decA_cons] at h ⊢
    have h3 : ¬ 1844674407370955162 ≤ acc := fun h3 => absurd h (Nat.not_le.2 (pu_aux hM h3 hle hge))
    have h4 : ¬ M < acc * 10 + (b.toNat - 48) := Nat.not_lt.2 (Nat.le_trans hge h)
    rw [pu_step hb h3 h4]
    exact parseUint_ok hM l _ (fun x hx => hd x (List.mem_cons_of_mem _ hx)) (Nat.le_trans hge h) h
theorem parseUint_bad {M : Nat} (hM : M < 18446744073709551620) : ∀ (l : List UInt8) (acc : Nat), allDig l → acc ≤ M → M < decA acc l → Lib.parseUintM M acc l = .range
  | [], acc, _, h, h2 => absurd h (Nat.not_le.2 h2)
  | b :: l, acc, hd, hacc, h => by
    have hb := dig_bd (hd b List.mem_cons_self)
    rw [decA_cons] at h
    by_cases h3 : 1844674407370955162 ≤ acc
    · exact pu_big hb h3
    · by_cases h4 : M < acc * 10 + (b.toNat - 48)
      · exact pu_over hb h3 h4
      · rw [pu_step hb h3 h4]
        exact parseUint_bad hM l _ (fun x hx => hd x (List.mem_cons_of_mem _ hx)) (Nat.not_lt.1 h4) h
/-- a number: what it is, and the code of the answer (5: a zero too many, 2: too great) -/
def numM (neg : Bool) (d : List UInt8) : Int × Int :=
  bif decide (d.head? = some 48) && (decide (1 < d.length) || neg) then (0, 5)
  else bif neg then (bif decide (decA 0 d ≤ 9223372036854775808) then (-(decA 0 d : Int), 0) else (0, 2))
  else (bif decide (decA 0 d < 9223372036854775808) then ((decA 0 d : Int), 0) else (0, 2))
theorem parseUintB_num {d : List UInt8} (hd : allDig d) (hne : d ≠ []) : (decA 0 d ≤ 18446744073709551615 → Lib.parseUintB 64 d = .ok (decA 0 d)) ∧ (18446744073709551615 < decA 0 d → Lib.parseUintB 64 d = .range) := by
  have e : Lib.parseUintB 64 d = Lib.parseUintM 18446744073709551615 0 d := if_neg hne
  rw [e]
  exact ⟨fun h1 => parseUint_ok (by decide) d 0 hd (Nat.zero_le _) h1, fun h1 => parseUint_bad (by decide) d 0 hd (Nat.zero_le _) h1⟩
/-- ParseInt at digits, at a minus and digits -/
theorem parseInt_pos {d : List UInt8} (hd : allDig d) (hne : d ≠ []) : (decA 0 d < 9223372036854775808 → Lib.parseIntB 64 d = .ok (decA 0 d : Int)) ∧ (9223372036854775808 ≤ decA 0 d → Lib.parseIntB 64 d = .range) := by
  obtain ⟨h1, h2⟩ := parseUintB_num hd hne
  cases d with
  | nil => exact absurd rfl hne
  | cons c r =>
    obtain ⟨h3, h4⟩ := dig_bd (hd c List.mem_cons_self)
    have hc1 : ¬ (c.toNat = 43 ∨ c.toNat = 45) := by omega
    have hc2 : ¬ c.toNat = 45 := by omega
    generalize decA 0 (c :: r) = u at h1 h2 ⊢
    unfold Lib.parseIntB
    simp only []
    rw [if_neg hc1]
    constructor
    · intro h
      rw [h1 (by omega)]
      simp only []
      rw [if_neg (fun k => absurd k.2 (Nat.not_le.2 h)), if_neg (fun k => hc2 k.1), if_neg hc2]
    · intro h
      by_cases h6 : u ≤ 18446744073709551615
      · rw [h1 h6]
        simp only []
        rw [if_pos ⟨hc2, h⟩]
      · rw [h2 (by omega)]
theorem parseInt_neg {d : List UInt8} (hd : allDig d) (hne : d ≠ []) : (decA 0 d ≤ 9223372036854775808 → Lib.parseIntB 64 (45 :: d) = .ok (-(decA 0 d : Int))) ∧ (9223372036854775808 < decA 0 d → Lib.parseIntB 64 (45 :: d) = .range) := by
  obtain ⟨h1, h2⟩ := parseUintB_num hd hne
  have hc1 : (45 : UInt8).toNat = 43 ∨ (45 : UInt8).toNat = 45 := .inr rfl
  have hc2 : (45 : UInt8).toNat = 45 := rfl
  generalize decA 0 d = u at h1 h2 ⊢
  unfold Lib.parseIntB
  simp only []
  rw [if_pos hc1]
  constructor
  · intro h
    rw [h1 (by omega)]
    simp only []
    rw [if_neg (fun k => k.1 hc2), if_neg (fun k => absurd k.2 (Nat.not_lt.2 h)), if_pos hc2]
  · intro h
    by_cases h6 : u ≤ 18446744073709551615
    · rw [h1 h6]
      simp only []
      rw [if_neg (fun k => k.1 hc2), if_pos ⟨hc2, h⟩]
    · rw [h2 (by omega)]
end Go.Proofs.YtogponhonjiidaaDoor
set_option maxRecDepth 100000
namespace Go.Proofs
open Go.Shelf
def Tryd.hasPrefixL_ren : Go.Shelf.Ren := ⟨fun | 99 => 86 | 206 => 102 | n => n, fun | 9 => 9 | 4 => 4 | 3 => 3 | n => n, fun | n => n⟩
theorem Tryd.hasPrefixL : Go.Proofs.Lays.n99 Tryd.prog Tryd.hasPrefixL_ren := {
  mixed := by kernel_rfl,
  f99 := Tryd.func86.trans (congrArg some (by kernel_rfl)),
  f206 := Tryd.func102.trans (congrArg some (by kernel_rfl)),
  t3 := Tryd.underlying3,
  a3 := Tryd.isAgg3,
  z3 := Tryd.sizeOf3,
  v3 := Tryd.zeroValue3,
  t4 := Tryd.underlying4,
  a4 := Tryd.isAgg4,
  z4 := Tryd.sizeOf4,
  v4 := Tryd.zeroValue4,
  t9 := Tryd.underlying9,
  a9 := Tryd.isAgg9,
  z9 := Tryd.sizeOf9,
  v9 := Tryd.zeroValue9 }
def Tryd.trimPrefixL_ren : Go.Shelf.Ren := ⟨fun | 101 => 82 | 208 => 97 | 206 => 102 | n => n, fun | 9 => 9 | 4 => 4 | 3 => 3 | n => n, fun | n => n⟩
theorem Tryd.trimPrefixL : Go.Proofs.Lays.n101 Tryd.prog Tryd.trimPrefixL_ren := {
  mixed := by kernel_rfl,
  f101 := Tryd.func82.trans (congrArg some (by kernel_rfl)),
  f206 := Tryd.func102.trans (congrArg some (by kernel_rfl)),
  f208 := Tryd.func97.trans (congrArg some (by kernel_rfl)),
  t3 := Tryd.underlying3,
  a3 := Tryd.isAgg3,
  z3 := Tryd.sizeOf3,
  v3 := Tryd.zeroValue3,
  t4 := Tryd.underlying4,
  a4 := Tryd.isAgg4,
  z4 := Tryd.sizeOf4,
  v4 := Tryd.zeroValue4,
  t9 := Tryd.underlying9,
  a9 := Tryd.isAgg9,
  z9 := Tryd.sizeOf9,
  v9 := Tryd.zeroValue9 }
def Tryd.parseIntL_ren : Go.Shelf.Ren := ⟨fun | 174 => 83 | 247 => 98 | 245 => 99 | 287 => 111 | 279 => 112 | 280 => 113 | 281 => 114 | 282 => 115 | 321 => 121 | 322 => 122 | 316 => 123 | 171 => 125 | 205 => 124 | 243 => 130 | 246 => 68 | 283 => 87 | 284 => 88 | 285 => 89 | 286 => 90 | 129 => 104 | 317 => 103 | 318 => 105 | 319 => 106 | 320 => 107 | 337 => 118 | 338 => 119 | n => n, fun | 9 => 9 | 3 => 3 | 2 => 2 | 75 => 82 | 85 => 112 | 4 => 4 | 167 => 141 | 5 => 5 | 53 => 107 | 175 => 142 | 46 => 36 | 168 => 144 | 37 => 40 | 0 => 0 | 210 => 151 | 21 => 21 | 127 => 106 | 145 => 157 | 143 => 155 | 171 => 119 | 173 => 122 | 212 => 134 | 51 => 135 | 20 => 20 | 213 => 136 | 232 => 153 | 233 => 154 | 80 => 85 | n => n, fun | 15 => 4 | 16 => 5 | 17 => 1 | 18 => 6 | 19 => 7 | n => n⟩
theorem Tryd.parseIntL : Go.Proofs.LaysC.n174 Tryd.prog Tryd.parseIntL_ren := {
  mixed := by kernel_rfl,
  f129 := Tryd.func104.trans (congrArg some (by kernel_rfl)),
  f171 := Tryd.func125.trans (congrArg some (by kernel_rfl)),
  f174 := Tryd.func83.trans (congrArg some (by kernel_rfl)),
  f205 := Tryd.func124.trans (congrArg some (by kernel_rfl)),
  f243 := Tryd.func130.trans (congrArg some (by kernel_rfl)),
  f245 := Tryd.func99.trans (congrArg some (by kernel_rfl)),
  f246 := Tryd.func68.trans (congrArg some (by kernel_rfl)),
  f247 := Tryd.func98.trans (congrArg some (by kernel_rfl)),
  f279 := Tryd.func112.trans (congrArg some (by kernel_rfl)),
  f280 := Tryd.func113.trans (congrArg some (by kernel_rfl)),
  f281 := Tryd.func114.trans (congrArg some (by kernel_rfl)),
  f282 := Tryd.func115.trans (congrArg some (by kernel_rfl)),
  f283 := Tryd.func87.trans (congrArg some (by kernel_rfl)),
  f284 := Tryd.func88.trans (congrArg some (by kernel_rfl)),
  f285 := Tryd.func89.trans (congrArg some (by kernel_rfl)),
  f286 := Tryd.func90.trans (congrArg some (by kernel_rfl)),
  f287 := Tryd.func111.trans (congrArg some (by kernel_rfl)),
  f316 := Tryd.func123.trans (congrArg some (by kernel_rfl)),
  f317 := Tryd.func103.trans (congrArg some (by kernel_rfl)),
  f318 := Tryd.func105.trans (congrArg some (by kernel_rfl)),
  f319 := Tryd.func106.trans (congrArg some (by kernel_rfl)),
  f320 := Tryd.func107.trans (congrArg some (by kernel_rfl)),
  f321 := Tryd.func121.trans (congrArg some (by kernel_rfl)),
  f322 := Tryd.func122.trans (congrArg some (by kernel_rfl)),
  f337 := Tryd.func118.trans (congrArg some (by kernel_rfl)),
  f338 := Tryd.func119.trans (congrArg some (by kernel_rfl)),
  t0 := Tryd.underlying0,
  a0 := Tryd.isAgg0,
  z0 := Tryd.sizeOf0,
  v0 := Tryd.zeroValue0,
  t2 := Tryd.underlying2,
  a2 := Tryd.isAgg2,
  z2 := Tryd.sizeOf2,
  v2 := Tryd.zeroValue2,
  t3 := Tryd.underlying3,
  a3 := Tryd.isAgg3,
  z3 := Tryd.sizeOf3,
  v3 := Tryd.zeroValue3,
  t4 := Tryd.underlying4,
  a4 := Tryd.isAgg4,
  z4 := Tryd.sizeOf4,
  v4 := Tryd.zeroValue4,
  t5 := Tryd.underlying5,
  a5 := Tryd.isAgg5,
  z5 := Tryd.sizeOf5,
  v5 := Tryd.zeroValue5,
  t9 := Tryd.underlying9,
  a9 := Tryd.isAgg9,
  z9 := Tryd.sizeOf9,
  v9 := Tryd.zeroValue9,
  t20 := Tryd.underlying20,
  a20 := Tryd.isAgg20,
  z20 := Tryd.sizeOf20,
  v20 := Tryd.zeroValue20,
  t21 := Tryd.underlying21,
  a21 := Tryd.isAgg21,
  z21 := Tryd.sizeOf21,
  v21 := Tryd.zeroValue21,
  t37 := Tryd.underlying40,
  a37 := Tryd.isAgg40,
  z37 := Tryd.sizeOf40,
  v37 := Tryd.zeroValue40,
  t46 := Tryd.underlying36,
  a46 := Tryd.isAgg36,
  z46 := Tryd.sizeOf36,
  v46 := Tryd.zeroValue36,
  t51 := Tryd.underlying135,
  a51 := Tryd.isAgg135,
  z51 := Tryd.sizeOf135,
  v51 := Tryd.zeroValue135,
  t53 := Tryd.underlying107,
  a53 := Tryd.isAgg107,
  z53 := Tryd.sizeOf107,
  v53 := Tryd.zeroValue107,
  t75 := Tryd.underlying82,
  a75 := Tryd.isAgg82,
  z75 := Tryd.sizeOf82,
  v75 := Tryd.zeroValue82,
  t85 := Tryd.underlying112,
  a85 := Tryd.isAgg112,
  z85 := Tryd.sizeOf112,
  v85 := Tryd.zeroValue112,
  t127 := Tryd.underlying106,
  a127 := Tryd.isAgg106,
  z127 := Tryd.sizeOf106,
  v127 := Tryd.zeroValue106,
  t143 := Tryd.underlying155,
  a143 := Tryd.isAgg155,
  z143 := Tryd.sizeOf155,
  v143 := Tryd.zeroValue155,
  t145 := Tryd.underlying157,
  a145 := Tryd.isAgg157,
  z145 := Tryd.sizeOf157,
  v145 := Tryd.zeroValue157,
  t167 := Tryd.underlying141,
  a167 := Tryd.isAgg141,
  z167 := Tryd.sizeOf141,
  v167 := Tryd.zeroValue141,
  t168 := Tryd.underlying144,
  a168 := Tryd.isAgg144,
  z168 := Tryd.sizeOf144,
  v168 := Tryd.zeroValue144,
  t171 := Tryd.underlying119,
  a171 := Tryd.isAgg119,
  z171 := Tryd.sizeOf119,
  v171 := Tryd.zeroValue119,
  t173 := Tryd.underlying122,
  a173 := Tryd.isAgg122,
  z173 := Tryd.sizeOf122,
  v173 := Tryd.zeroValue122,
  t175 := Tryd.underlying142,
  a175 := Tryd.isAgg142,
  z175 := Tryd.sizeOf142,
  v175 := Tryd.zeroValue142,
  t210 := Tryd.underlying151,
  a210 := Tryd.isAgg151,
  z210 := Tryd.sizeOf151,
  v210 := Tryd.zeroValue151,
  t212 := Tryd.underlying134,
  a212 := Tryd.isAgg134,
  z212 := Tryd.sizeOf134,
  v212 := Tryd.zeroValue134,
  t213 := Tryd.underlying136,
  a213 := Tryd.isAgg136,
  z213 := Tryd.sizeOf136,
  t232 := Tryd.underlying153,
  a232 := Tryd.isAgg153,
  z232 := Tryd.sizeOf153,
  v232 := Tryd.zeroValue153,
  t233 := Tryd.underlying154,
  a233 := Tryd.isAgg154,
  z233 := Tryd.sizeOf154,
  v233 := Tryd.zeroValue154,
  g15 := by kernel_rfl,
  g16 := by kernel_rfl,
  g17 := by kernel_rfl,
  g18 := by kernel_rfl,
  g19 := by kernel_rfl,
  t80 := Tryd.underlying85,
  a80 := Tryd.isAgg85,
  z80 := Tryd.sizeOf85,
  v80 := Tryd.zeroValue85,
  i0 := by kernel_rfl,
  i2 := by kernel_rfl,
  i3 := by kernel_rfl,
  i4 := by kernel_rfl,
  i5 := by kernel_rfl,
  i9 := by kernel_rfl,
  i20 := by kernel_rfl,
  i21 := by kernel_rfl,
  i37 := by kernel_rfl,
  i46 := by kernel_rfl,
  i51 := by kernel_rfl,
  i53 := by kernel_rfl,
  i75 := by kernel_rfl,
  i80 := by kernel_rfl,
  i85 := by kernel_rfl,
  i127 := by kernel_rfl,
  i143 := by kernel_rfl,
  i145 := by kernel_rfl,
  i167 := by kernel_rfl,
  i168 := by kernel_rfl,
  i171 := by kernel_rfl,
  i173 := by kernel_rfl,
  i175 := by kernel_rfl,
  i210 := by kernel_rfl,
  i212 := by kernel_rfl,
  i232 := by kernel_rfl,
  i233 := by kernel_rfl,
  m15 := by kernel_rfl,
  m16 := by kernel_rfl,
  m17 := by kernel_rfl,
  m18 := by kernel_rfl,
  m19 := by kernel_rfl,
  c0 := by kernel_rfl,
  c2 := by kernel_rfl,
  c3 := by kernel_rfl,
  c4 := by kernel_rfl,
  c5 := by kernel_rfl,
  c9 := by kernel_rfl,
  c20 := by kernel_rfl,
  c21 := by kernel_rfl,
  c37 := by kernel_rfl,
  c46 := by kernel_rfl,
  c51 := by kernel_rfl,
  c53 := by kernel_rfl,
  c75 := by kernel_rfl,
  c80 := by kernel_rfl,
  c85 := by kernel_rfl,
  c127 := by kernel_rfl,
  c143 := by kernel_rfl,
  c145 := by kernel_rfl,
  c167 := by kernel_rfl,
  c168 := by kernel_rfl,
  c171 := by kernel_rfl,
  c173 := by kernel_rfl,
  c175 := by kernel_rfl,
  c210 := by kernel_rfl,
  c212 := by kernel_rfl,
  c213 := by kernel_rfl,
  c232 := by kernel_rfl,
  c233 := by kernel_rfl }
end Go.Proofs
set_option linter.unusedSimpArgs false
set_option linter.unusedVariables false
set_option maxRecDepth 20000
set_option maxHeartbeats 4000000
namespace Go.Proofs.YtogponhonjiidaaDoor
open Go Go.Sx Go.RowKit
abbrev Er (b : Bool) : T := .one (.dat (.err b))
theorem hasPrefix_c (s p : List UInt8) : PC Tryd.prog 86 [S s, S p] (Bo (Lib.hasPrefix s p)) := by
  refine PC.native ⟨_, Tryd.func86, by decide, rfl⟩ fun M ν w vs hf hv => ?_
  obtain ⟨x, y, rfl, h1, h2⟩ := reps2 hv
  rw [rep_S] at h1 h2
  subst h1 h2
  refine Calls.mono (Any.strings_HasPrefix Tryd.hasPrefixL ⟨s.toArray⟩ ⟨p.toArray⟩ w) ?_
  rintro e w' ⟨rfl, rfl⟩
  exact ⟨_, rfl, by simp only [T.rep, Cell.rep, C.rep], Below.refl _ _⟩
theorem trimPrefix_c (s p : List UInt8) : PC Tryd.prog 82 [S s, S p] (S (Lib.trimPrefix s p)) := by
  refine PC.native ⟨_, Tryd.func82, by decide, rfl⟩ fun M ν w vs hf hv => ?_
  obtain ⟨x, y, rfl, h1, h2⟩ := reps2 hv
  rw [rep_S] at h1 h2
  subst h1 h2
  refine Calls.mono (Any.strings_TrimPrefix Tryd.trimPrefixL ⟨s.toArray⟩ ⟨p.toArray⟩ w) ?_
  rintro e w' ⟨rfl, rfl⟩
  exact ⟨_, rfl, by simp only [T.rep, Cell.rep, C.rep], Below.refl _ _⟩
/-- what ParseInt gives -/
def piT (s : List UInt8) : T := match Lib.parseIntB 64 s with
  | .ok v => .tup [I .i64 v, Er false]
  | .range => .tup [I .i64 (Lib.intSat 64 s), Er true]
  | _ => .tup [I .i64 0, Er true]
theorem err_at {M : Mem} {w : World} (hf : ∀ b o, M b = some o → w.heap[b]? = some o) {g : Nat} (hg : gl.lookup g = some [.err true]) : ∃ te pe, w.cell? ⟨g, 0, none⟩ = some (.iface te pe) := by
  obtain ⟨vs, h1, h2⟩ := M.glo.1 g _ hg
  simp only [repRow, C.rep, cond_true] at h2
  obtain ⟨v, vs', rfl, ⟨te, pe, rfl⟩, rfl⟩ := h2
  exact ⟨te, pe, cell_of_At hf h1⟩
theorem parseInt_c (s : List UInt8) (hs : s.length ≤ 1000000000) : PC Tryd.prog 83 [S s, I .i64 10, I .i64 64] (piT s) := by
  refine PC.native ⟨_, Tryd.func83, by decide, rfl⟩ fun M ν w vs hf hv => ?_
  obtain ⟨x, y, z, rfl, h1, h2, h3⟩ := reps3 hv
  rw [rep_S] at h1
  simp only [T.rep, Cell.rep, C.rep] at h2 h3
  subst h1 h2 h3
  obtain ⟨t4, p4, e4⟩ := err_at (g := 4) hf rfl
  obtain ⟨t5, p5, e5⟩ := err_at (g := 5) hf rfl
  have hsz : ∀ n : Nat, 1000000000 ≤ n → (ByteArray.mk s.toArray).size ≤ n := fun n hn => by show s.toArray.size ≤ _; simp; omega
  unfold piT
  cases hp : Lib.parseIntB 64 s with
  | ok v =>
    refine Calls.mono (Any.strconv_ParseInt_10_at64_ok Tryd.parseIntL ⟨s.toArray⟩ (hsz _ (by decide)) v hp w) ?_
    rintro e w' ⟨rfl, hw⟩
    refine ⟨_, rfl, ?_, ?_⟩
    · simp only [T.rep, T.reps, Cell.rep, C.rep, cond_false]
      exact ⟨_, rfl, _, _, rfl, rfl, _, _, rfl, rfl, rfl⟩
    · rcases hw with rfl | ⟨t, rfl⟩
      · exact Below.refl _ _
      · exact Lib.bytesWorld_below _ _ _
  | range =>
    refine Calls.mono (Any.strconv_ParseInt_10_at64_range Tryd.parseIntL ⟨s.toArray⟩ (hsz _ (by decide)) hp _ w e5 (.inr ⟨_, _, rfl⟩)) ?_
    rintro e w' ⟨N, rfl, _, _, hb⟩
    refine ⟨_, rfl, ?_, hb⟩
    simp only [T.rep, T.reps, Cell.rep, C.rep, cond_true]
    exact ⟨_, rfl, _, _, rfl, rfl, _, _, rfl, ⟨_, _, rfl⟩, rfl⟩
  | _ =>
    refine Calls.mono (Any.strconv_ParseInt_10_at64_syntax Tryd.parseIntL ⟨s.toArray⟩ (hsz _ (by decide)) hp _ w e4 (.inr ⟨_, _, rfl⟩)) ?_
    rintro e w' ⟨N, rfl, _, _, hb⟩
    refine ⟨_, rfl, ?_, hb⟩
    simp only [T.rep, T.reps, Cell.rep, C.rep, cond_true]
    exact ⟨_, rfl, _, _, rfl, rfl, _, _, rfl, ⟨_, _, rfl⟩, rfl⟩
end Go.Proofs.YtogponhonjiidaaDoor
set_option linter.unusedSimpArgs false
set_option linter.unusedVariables false
set_option maxRecDepth 20000
set_option maxHeartbeats 16000000
namespace Go.Proofs.YtogponhonjiidaaDoor
open Go Go.Sx
open Nat renaming reduceBEq → zA, reduceBNe → zB, reduceAdd → zC, reduceSub → zD, reduceMul → zE, reduceLeDiff → zF, reduceLT → zG, reduceEqDiff → zH
open Int renaming reduceToNat → zI, reduceLE → zJ, reduceLT → zK, reduceEq → zL
open Bool renaming not_eq_true' → zM, not_eq_false' → zN
abbrev TkR (r : Tok × Int) : T := .tup [.st (encTok r.1), I .i64 r.2]
def wordV (kind : Int) (text : List UInt8) : Tok × Int := bif decide ((16 : Int) < (text.length : Int)) then (zeroTok, 2) else (⟨kind, text, 0, 0⟩, 0)
theorem word_c (kind : Int) (text : List UInt8) : PC Tryd.prog 58 [I .i64 kind, S text] (TkR (wordV kind text)) := by
  refine PCB.of_body Tryd.func58 rfl (by decide) Tryd.ntmps58 Tryd.results58 rfl rfl rfl ?_ rfl rfl
  cases h0 : decide ((16 : Int) < (text.length : Int))
  ·
    repeat' (first | (simp only [go_sem, zA, zB, zC, zD, zE, zF, zG, reduceCtorEq, zH, zI, zJ, zK, zL, h0]; all_goals fail_if_success guard_target =ₛ False) | (with_reducible first | ((first | refine seqVC_stepN rfl ?_ | refine AWP.seq ?_ | refine AWP.seqR (by kernel_rfl) ?_); intro K hK) | ((first | refine hK _ _ _ ?_ | refine hK _ _ ?_ | refine hK _ ?_); clear hK K) | refine seqVC_nil ?_ | refine AWP.block ?_ | (refine AWP.cond (by with_unfolding_all rfl) ?_ ?_ <;> intro h <;> (try simp only [zM, zN] at h) <;> try exact absurd h (by decide)) | refine AWP.skip ?_ | refine AWP.ret ?_ | refine AWP.exit ?_ | refine Or.inl ?_) | (clear hK K))
    all_goals (refine fin0 ?_; simp only [wordV, h0, cond_false]; rfl)
  ·
    repeat' (first | (simp only [go_sem, zA, zB, zC, zD, zE, zF, zG, reduceCtorEq, zH, zI, zJ, zK, zL, h0]; all_goals fail_if_success guard_target =ₛ False) | (with_reducible first | ((first | refine seqVC_stepN rfl ?_ | refine AWP.seq ?_ | refine AWP.seqR (by kernel_rfl) ?_); intro K hK) | ((first | refine hK _ _ _ ?_ | refine hK _ _ ?_ | refine hK _ ?_); clear hK K) | refine seqVC_nil ?_ | refine AWP.block ?_ | (refine AWP.cond (by with_unfolding_all rfl) ?_ ?_ <;> intro h <;> (try simp only [zM, zN] at h) <;> try exact absurd h (by decide)) | refine AWP.skip ?_ | refine AWP.ret ?_ | refine AWP.exit ?_ | refine Or.inl ?_) | (clear hK K))
    all_goals (refine fin0 ?_; simp only [wordV, h0, cond_true]; rfl)
theorem run_k (k : Nat) (F : FuncId) (p : Int → Bool) (hF : ∀ n : Int, PC Tryd.prog F [I .u8 n] (Bo (p n))) (s : List UInt8) (hs : s.length ≤ 1000000000000) (i : Nat) (hi : i < s.length) :
    PCBk Tryd.prog 59 [Scp k, .one (.dat (.fn F))] k (scB s i) (S ((s.take (toW p s (i + 1))).drop i)) (scB s (toW p s (i + 1))) := PCBk.mk k (run_c F p hF s hs i hi)
/-- what words.number gives at the text t -/
def numT (neg : Bool) (d : List UInt8) : Tok × Int := bif decide ((numM neg d).2 = 0) then (⟨3, [], (numM neg d).1, 0⟩, 0) else (zeroTok, (numM neg d).2)
theorem trim_minus (d : List UInt8) : Lib.trimPrefix (45 :: d) [45] = d := by simp [Lib.trimPrefix, Lib.hasPrefix]
theorem trim_digs {d : List UInt8} (hd : allDig d) (hne : d ≠ []) : Lib.trimPrefix d [45] = d := by
  cases d with
  | nil => exact absurd rfl hne
  | cons c r =>
    have h := dig_bd (hd c List.mem_cons_self)
    have hc : ¬ (45 : UInt8) = c := fun e => by subst e; exact absurd h.1 (by decide)
    have e : Lib.hasPrefix (c :: r) [45] = false := by simp [Lib.hasPrefix, List.isPrefixOf, hc]
    simp [Lib.trimPrefix, e]
theorem b48 (b : UInt8) : decide ((b.toNat : Int) = 48) = decide (b = 48) := by
  apply decide_eq_decide.2
  constructor
  · intro h; apply UInt8.toNat_inj.1; show b.toNat = 48; omega
  · rintro rfl; rfl
/-- the text of a number: a minus or none, digits -/
theorem number_c (s : List UInt8) (hs : s.length ≤ 1000000000) (i : Nat) (hi : i < s.length) (neg : Bool) (d : List UInt8) (ht : (s.take (toW digI s (i + 1))).drop i = bif neg then 45 :: d else d) (hd : allDig d) (hne : d ≠ []) :
    PCB Tryd.prog 64 [Scp pin] [(pin, scB s i)] (TkR (numT neg d)) [(pin, scB s (toW digI s (i + 1)))] := by
  have hr := run_k 1000000 61 digI wordsdigit_c s (by omega) i hi
  rw [ht] at hr
  have htl : (bif neg then 45 :: d else d).length ≤ 1000000000 := by rw [← ht, List.length_drop, List.length_take]; omega
  have hcut : Lib.trimPrefix (bif neg then 45 :: d else d) [45] = d := by
    cases neg
    · exact trim_digs hd hne
    · exact trim_minus d
  have hT := trimPrefix_c (bif neg then 45 :: d else d) [45]
  rw [hcut] at hT
  have hP := parseInt_c (bif neg then 45 :: d else d) htl
  have hpos := parseInt_pos hd hne
  have hneg := parseInt_neg hd hne
  obtain ⟨b, r, rfl⟩ : ∃ b r, d = b :: r := by cases d with | nil => exact absurd rfl hne | cons b r => exact ⟨b, r, rfl⟩
  have hb0 : (b :: r)[0]? = some b := rfl
  have e48 : (decide ((b.toNat : Int) = 48) && !decide ((bif neg then 45 :: b :: r else b :: r) = [48])) = (decide ((b :: r).head? = some 48) && (decide (1 < (b :: r).length) || neg)) := by
    rw [b48]
    cases neg
    · cases r with
      | nil => by_cases h : b = 48 <;> simp [h]
      | cons c r => by_cases h : b = 48 <;> simp [h]
    · by_cases h : b = 48 <;> simp [h]
  have hpi : (decide ((b :: r).head? = some 48) && (decide (1 < (b :: r).length) || neg)) = false → Lib.parseIntB 64 (bif neg then 45 :: b :: r else b :: r) = if (numM neg (b :: r)).2 = 0 then .ok (numM neg (b :: r)).1 else .range := by
    intro h0
    unfold numM
    rw [h0, cond_false]
    cases neg
    · simp only [cond_false]
      by_cases h : decA 0 (b :: r) < 9223372036854775808
      · rw [hpos.1 h, decide_eq_true h]; rfl
      · rw [hpos.2 (by omega), decide_eq_false h]; rfl
    · simp only [cond_true]
      by_cases h : decA 0 (b :: r) ≤ 9223372036854775808
      · rw [hneg.1 h, decide_eq_true h]; rfl
      · rw [hneg.2 (by omega), decide_eq_false h]; rfl
  have hcode : (numM neg (b :: r)).2 = 0 ∨ (numM neg (b :: r)).2 = 2 ∨ ((numM neg (b :: r)).2 = 5 ∧ (decide ((b :: r).head? = some 48) && (decide (1 < (b :: r).length) || neg)) = true) := by
    unfold numM
    cases h0 : (decide ((b :: r).head? = some 48) && (decide (1 < (b :: r).length) || neg))
    · rw [cond_false]
      cases neg
      · simp only [cond_false]; cases decide (decA 0 (b :: r) < 9223372036854775808) <;> simp
      · simp only [cond_true]; cases decide (decA 0 (b :: r) ≤ 9223372036854775808) <;> simp
    · exact .inr (.inr ⟨rfl, rfl⟩)
  have hfive : (decide ((b :: r).head? = some 48) && (decide (1 < (b :: r).length) || neg)) = true → (numM neg (b :: r)).2 = 5 := by
    intro h0; unfold numM; rw [h0]; rfl
  generalize hX : (bif neg then 45 :: b :: r else b :: r) = X at *
  generalize (decide ((b :: r).head? = some 48) && (decide (1 < (b :: r).length) || neg)) = z at *
  unfold piT at hP
  refine PCB.of_body Tryd.func64 rfl (by decide) Tryd.ntmps64 Tryd.results64 rfl rfl rfl ?_ rfl rfl
  cases z with
  | true =>
    have h1 : decide ((b.toNat : Int) = 48) = true := by revert e48; cases decide ((b.toNat : Int) = 48) <;> simp
    have h2 : decide (X = [48]) = false := by revert e48; rw [h1]; cases decide (X = [48]) <;> simp
    have hq := hfive rfl
    repeat' (first | (simp only [go_sem, zA, zB, zC, zD, zE, zF, zG, reduceCtorEq, zH, zI, zJ, zK, zL, pin, h1, h2, vErr]; all_goals fail_if_success guard_target =ₛ False) | (with_reducible first | ((first | refine seqVC_stepN rfl ?_ | refine seqVC_stepG rfl (by with_unfolding_all rfl) ?_ | refine AWP.seq ?_ | refine AWP.seqR (by kernel_rfl) ?_); intro K hK) | ((first | refine hK _ _ _ ?_ | refine hK _ _ ?_ | refine hK _ ?_); clear hK K) | refine seqVC_nil ?_ | refine AWP.block ?_ | (refine AWP.cond (by with_unfolding_all rfl) ?_ ?_ <;> intro h <;> (try simp only [zM, zN] at h) <;> try exact absurd h (by decide)) | refine AWP.skip ?_ | refine AWP.ret ?_ | refine AWP.exit ?_ | (refine ⟨fun h => ?_, fun h => ?_⟩ <;> (try simp only [zM, zN] at h) <;> try simp only [h]) | refine ⟨_, hT, ?_⟩ | refine ⟨by omega, b, hb0, ?_⟩) | (refine ⟨1000000, _, _, _, hr, rfl, ?_⟩) | (with_reducible first | refine Or.inl ?_) | (clear hK K))
    all_goals (simp only [numT, hq, zeroTok, encTok])
    all_goals (refine ⟨by first | trivial | rfl, fun x hx => ?_⟩; simp only [List.mem_singleton] at hx; subst hx; simp)
  | false =>
    have hp := hpi rfl
    cases h1 : decide ((b.toNat : Int) = 48) with
    | false =>
      by_cases hz : (numM neg (b :: r)).2 = 0
      · rw [if_pos hz] at hp
        rw [hp] at hP
        repeat' (first | (simp only [go_sem, zA, zB, zC, zD, zE, zF, zG, reduceCtorEq, zH, zI, zJ, zK, zL, pin, h1, vErr]; all_goals fail_if_success guard_target =ₛ False) | (with_reducible first | ((first | refine seqVC_stepN rfl ?_ | refine seqVC_stepG rfl (by with_unfolding_all rfl) ?_ | refine AWP.seq ?_ | refine AWP.seqR (by kernel_rfl) ?_); intro K hK) | ((first | refine hK _ _ _ ?_ | refine hK _ _ ?_ | refine hK _ ?_); clear hK K) | refine seqVC_nil ?_ | refine AWP.block ?_ | (refine AWP.cond (by with_unfolding_all rfl) ?_ ?_ <;> intro h <;> (try simp only [zM, zN] at h) <;> try exact absurd h (by decide)) | refine AWP.skip ?_ | refine AWP.ret ?_ | refine AWP.exit ?_ | (refine ⟨fun h => ?_, fun h => ?_⟩ <;> (try simp only [zM, zN] at h) <;> try simp only [h]) | refine ⟨_, hT, ?_⟩ | refine ⟨_, hP, ?_⟩ | refine ⟨by omega, b, hb0, ?_⟩) | (refine ⟨1000000, _, _, _, hr, rfl, ?_⟩) | (with_reducible first | refine Or.inl ?_) | (clear hK K))
        all_goals (simp only [numT, hz, decide_true, cond_true, encTok])
        all_goals (refine ⟨by first | trivial | rfl, fun x hx => ?_⟩; simp only [List.mem_singleton] at hx; subst hx; simp)
      · rw [if_neg hz] at hp
        rw [hp] at hP
        have h2 : (numM neg (b :: r)).2 = 2 := by
          rcases hcode with h | h | ⟨_, h⟩
          · exact absurd h hz
          · exact h
          · cases h
        repeat' (first | (simp only [go_sem, zA, zB, zC, zD, zE, zF, zG, reduceCtorEq, zH, zI, zJ, zK, zL, pin, h1, vErr]; all_goals fail_if_success guard_target =ₛ False) | (with_reducible first | ((first | refine seqVC_stepN rfl ?_ | refine seqVC_stepG rfl (by with_unfolding_all rfl) ?_ | refine AWP.seq ?_ | refine AWP.seqR (by kernel_rfl) ?_); intro K hK) | ((first | refine hK _ _ _ ?_ | refine hK _ _ ?_ | refine hK _ ?_); clear hK K) | refine seqVC_nil ?_ | refine AWP.block ?_ | (refine AWP.cond (by with_unfolding_all rfl) ?_ ?_ <;> intro h <;> (try simp only [zM, zN] at h) <;> try exact absurd h (by decide)) | refine AWP.skip ?_ | refine AWP.ret ?_ | refine AWP.exit ?_ | (refine ⟨fun h => ?_, fun h => ?_⟩ <;> (try simp only [zM, zN] at h) <;> try simp only [h]) | refine ⟨_, hT, ?_⟩ | refine ⟨_, hP, ?_⟩ | refine ⟨by omega, b, hb0, ?_⟩) | (refine ⟨1000000, _, _, _, hr, rfl, ?_⟩) | (with_reducible first | refine Or.inl ?_) | (clear hK K))
        all_goals (simp only [numT, h2, zeroTok, encTok])
        all_goals (refine ⟨by first | trivial | rfl, fun x hx => ?_⟩; simp only [List.mem_singleton] at hx; subst hx; simp)
    | true =>
      have h2 : decide (X = [48]) = true := by revert e48; rw [h1]; cases decide (X = [48]) <;> simp
      by_cases hz : (numM neg (b :: r)).2 = 0
      · rw [if_pos hz] at hp
        rw [hp] at hP
        repeat' (first | (simp only [go_sem, zA, zB, zC, zD, zE, zF, zG, reduceCtorEq, zH, zI, zJ, zK, zL, pin, h1, h2, vErr]; all_goals fail_if_success guard_target =ₛ False) | (with_reducible first | ((first | refine seqVC_stepN rfl ?_ | refine seqVC_stepG rfl (by with_unfolding_all rfl) ?_ | refine AWP.seq ?_ | refine AWP.seqR (by kernel_rfl) ?_); intro K hK) | ((first | refine hK _ _ _ ?_ | refine hK _ _ ?_ | refine hK _ ?_); clear hK K) | refine seqVC_nil ?_ | refine AWP.block ?_ | (refine AWP.cond (by with_unfolding_all rfl) ?_ ?_ <;> intro h <;> (try simp only [zM, zN] at h) <;> try exact absurd h (by decide)) | refine AWP.skip ?_ | refine AWP.ret ?_ | refine AWP.exit ?_ | (refine ⟨fun h => ?_, fun h => ?_⟩ <;> (try simp only [zM, zN] at h) <;> try simp only [h]) | refine ⟨_, hT, ?_⟩ | refine ⟨_, hP, ?_⟩ | refine ⟨by omega, b, hb0, ?_⟩) | (refine ⟨1000000, _, _, _, hr, rfl, ?_⟩) | (with_reducible first | refine Or.inl ?_) | (clear hK K))
        all_goals (simp only [numT, hz, decide_true, cond_true, encTok])
        all_goals (refine ⟨by first | trivial | rfl, fun x hx => ?_⟩; simp only [List.mem_singleton] at hx; subst hx; simp)
      · rw [if_neg hz] at hp
        rw [hp] at hP
        have h3 : (numM neg (b :: r)).2 = 2 := by
          rcases hcode with h | h | ⟨_, h⟩
          · exact absurd h hz
          · exact h
          · cases h
        repeat' (first | (simp only [go_sem, zA, zB, zC, zD, zE, zF, zG, reduceCtorEq, zH, zI, zJ, zK, zL, pin, h1, h2, vErr]; all_goals fail_if_success guard_target =ₛ False) | (with_reducible first | ((first | refine seqVC_stepN rfl ?_ | refine seqVC_stepG rfl (by with_unfolding_all rfl) ?_ | refine AWP.seq ?_ | refine AWP.seqR (by kernel_rfl) ?_); intro K hK) | ((first | refine hK _ _ _ ?_ | refine hK _ _ ?_ | refine hK _ ?_); clear hK K) | refine seqVC_nil ?_ | refine AWP.block ?_ | (refine AWP.cond (by with_unfolding_all rfl) ?_ ?_ <;> intro h <;> (try simp only [zM, zN] at h) <;> try exact absurd h (by decide)) | refine AWP.skip ?_ | refine AWP.ret ?_ | refine AWP.exit ?_ | (refine ⟨fun h => ?_, fun h => ?_⟩ <;> (try simp only [zM, zN] at h) <;> try simp only [h]) | refine ⟨_, hT, ?_⟩ | refine ⟨_, hP, ?_⟩ | refine ⟨by omega, b, hb0, ?_⟩) | (refine ⟨1000000, _, _, _, hr, rfl, ?_⟩) | (with_reducible first | refine Or.inl ?_) | (clear hK K))
        all_goals (simp only [numT, h3, zeroTok, encTok])
        all_goals (refine ⟨by first | trivial | rfl, fun x hx => ?_⟩; simp only [List.mem_singleton] at hx; subst hx; simp)
/-- the signs, the longer ones first -/
def signL : List (List UInt8) := [[35, 123], [45, 62], [61, 62], [61, 61], [61, 60], [40], [41], [91], [93], [123], [125], [44], [59], [46], [58], [124], [47], [38], [61], [60], [43], [45], [42]]
def findS (t : List UInt8) : List (List UInt8) → Option (List UInt8)
  | [] => none
  | x :: l => bif Lib.hasPrefix t x then some x else findS t l
def signV (t : List UInt8) : (Tok × Int) × Nat := match findS t signL with
  | some x => ((⟨6, x, 0, 0⟩, 0), x.length)
  | none => ((zeroTok, 5), 0)
theorem prefix_len {t x : List UInt8} (h : Lib.hasPrefix t x = true) : x.length ≤ t.length := by
  unfold Lib.hasPrefix at h
  exact (List.isPrefixOf_iff_prefix.1 h).length_le
theorem gl0 : gl.lookup 0 = some [.sl 1 (signL.map Sx.encStr)] := rfl
theorem sign_c (s : List UInt8) (hs : s.length ≤ 1000000000) (i : Nat) (hi : i ≤ s.length) :
    PCB Tryd.prog 67 [Scp pin] [(pin, scB s i)] (TkR (signV (s.drop i)).1) [(pin, scB s (i + (signV (s.drop i)).2))] := by
  refine PCB.of_body Tryd.func67 rfl (by decide) Tryd.ntmps67 Tryd.results67 rfl rfl rfl ?_ rfl rfl
  repeat' (first | (simp only [go_sem, zA, zB, zC, zD, zE, zF, zG, reduceCtorEq, zH, zI, zJ, zK, zL, pin, gl0]; all_goals fail_if_success guard_target =ₛ False) | (with_reducible first | ((first | refine seqVC_stepN rfl ?_ | refine AWP.seq ?_ | refine AWP.seqR (by kernel_rfl) ?_ | refine parVC_stepN rfl ?_ | refine parEVC_stepN rfl ?_ | refine genVC_stepN rfl ?_); intro K hK) | ((first | refine hK _ _ _ ?_ | refine hK _ _ ?_ | refine hK _ ?_); clear hK K) | refine seqVC_nil ?_ | refine parVC_nil ?_ | refine parEVC_nil ?_ | refine genVC_nil ?_ | refine AWP.block ?_ | (refine AWP.cond (by with_unfolding_all rfl) ?_ ?_ <;> intro h <;> (try simp only [zM, zN] at h) <;> try exact absurd h (by decide)) | refine AWP.skip ?_ | refine AWP.ret ?_ | refine AWP.exit ?_ | refine AWP.parR mixed (by kernel_rfl) fun K hK => ?_ | refine ⟨(by kernel_rfl : depB _ _ _ = true), ?_⟩ | refine Or.inl ?_) | (clear hK K))
  refine AWP.len 6 rfl fun hlen0 => ?_
  (try rw [List.length_map] at hlen0)
  refine AWP.range (S := Nat) (signL) Sx.encStr (fun k u => (8, I .i64 (k : Nat)) :: []) (fun k u => [(1000000, scB s i), (2, .cells [.dat (.int .i64 0), .dat (.str []), .dat (.int .i64 0), .dat (.int .i64 0)])]) [0, 2, 6, 7] [] (fun k u => findS (s.drop i) signL = findS (s.drop i) (signL.drop k)) (0) (by simp only [go_sem, zA, zB, zC, zD, zE, zF, zG, reduceCtorEq, zH, zI, zJ, zK, zL]; exact Gh.to [] (by repeat (first | exact trivial | refine ⟨rfl, ?_⟩ | refine ⟨by (simp only [go_sem, zA, zB, zC, zD, zE, zF, zG, reduceCtorEq, zH, zI, zJ, zK, zL, List.length_append, List.length_map, List.length_cons, List.length_nil, Nat.zero_add]) <;> rfl, ?_⟩)) (by repeat (first | exact trivial | refine ⟨rfl, ?_⟩ | refine ⟨by (simp only [go_sem, zA, zB, zC, zD, zE, zF, zG, reduceCtorEq, zH, zI, zJ, zK, zL, List.length_append, List.length_map, List.length_cons, List.length_nil, Nat.zero_add]) <;> rfl, ?_⟩)) rfl rfl rfl) ?_ ?_ ?_
  · rfl
  · intro k u x hlt hx hx' hb hok
    simp only [go_sem, zA, zB, zC, zD, zE, zF, zG, reduceCtorEq, zH, zI, zJ, zK, zL]
    rw [List.drop_eq_getElem_cons hlt, show signL[k] = x from (List.getElem?_eq_some_iff.1 hx).2, findS] at hok
    have hp := hasPrefix_c (s.drop i) x
    cases hz : Lib.hasPrefix (s.drop i) x
    ·
      rw [hz, cond_false] at hok
      rw [hz] at hp
      repeat' (first | (simp only [go_sem, zA, zB, zC, zD, zE, zF, zG, reduceCtorEq, zH, zI, zJ, zK, zL, List.length_map, List.take_length, hb, encStr, pin]; all_goals fail_if_success guard_target =ₛ False) | (with_reducible first | ((first | refine seqVC_stepN rfl ?_ | refine AWP.seq ?_ | refine AWP.seqR (by kernel_rfl) ?_ | refine parVC_stepN rfl ?_ | refine parEVC_stepN rfl ?_ | refine genVC_stepN rfl ?_); intro K hK) | ((first | refine hK _ _ _ ?_ | refine hK _ _ ?_ | refine hK _ ?_); clear hK K) | refine seqVC_nil ?_ | refine parVC_nil ?_ | refine parEVC_nil ?_ | refine genVC_nil ?_ | refine AWP.block ?_ | (refine AWP.cond (by with_unfolding_all rfl) ?_ ?_ <;> intro h <;> (try simp only [zM, zN] at h) <;> try exact absurd h (by decide)) | refine AWP.skip ?_ | refine AWP.ret ?_ | refine AWP.exit ?_ | refine ⟨_, hp, ?_⟩ | refine ⟨by omega, encStr x, hx', ?_⟩ | refine ⟨by omega, ?_⟩ | refine ⟨by omega, by omega, by omega, ?_⟩ | refine AWP.parR mixed (by kernel_rfl) fun K hK => ?_ | refine ⟨(by kernel_rfl : depB _ _ _ = true), ?_⟩ | refine Or.inl ?_) | (clear hK K))
      all_goals (rw [wrap_succ hlt hlen0])
      all_goals (exact Gh.to [] (by repeat (first | exact trivial | refine ⟨rfl, ?_⟩ | refine ⟨by (simp only [go_sem, zA, zB, zC, zD, zE, zF, zG, reduceCtorEq, zH, zI, zJ, zK, zL, List.length_append, List.length_map, List.length_cons, List.length_nil, Nat.zero_add]) <;> rfl, ?_⟩)) (by repeat (first | exact trivial | refine ⟨rfl, ?_⟩ | refine ⟨by (simp only [go_sem, zA, zB, zC, zD, zE, zF, zG, reduceCtorEq, zH, zI, zJ, zK, zL, List.length_append, List.length_map, List.length_cons, List.length_nil, Nat.zero_add]) <;> rfl, ?_⟩)) rfl rfl rfl)
    ·
      rw [hz, cond_true] at hok
      rw [hz] at hp
      have hl := prefix_len hz
      rw [List.length_drop] at hl
      have hw : IntKind.i64.wrap ((i : Int) + (x.length : Int)) = ((i + x.length : Nat) : Int) := by rw [w64 (by omega)]; rfl
      repeat' (first | (simp only [go_sem, zA, zB, zC, zD, zE, zF, zG, reduceCtorEq, zH, zI, zJ, zK, zL, List.length_map, List.take_length, hb, encStr, pin, hw]; all_goals fail_if_success guard_target =ₛ False) | (with_reducible first | ((first | refine seqVC_stepN rfl ?_ | refine AWP.seq ?_ | refine AWP.seqR (by kernel_rfl) ?_ | refine parVC_stepN rfl ?_ | refine parEVC_stepN rfl ?_ | refine genVC_stepN rfl ?_); intro K hK) | ((first | refine hK _ _ _ ?_ | refine hK _ _ ?_ | refine hK _ ?_); clear hK K) | refine seqVC_nil ?_ | refine parVC_nil ?_ | refine parEVC_nil ?_ | refine genVC_nil ?_ | refine AWP.block ?_ | (refine AWP.cond (by with_unfolding_all rfl) ?_ ?_ <;> intro h <;> (try simp only [zM, zN] at h) <;> try exact absurd h (by decide)) | refine AWP.skip ?_ | refine AWP.ret ?_ | refine AWP.exit ?_ | refine ⟨_, hp, ?_⟩ | refine ⟨by omega, encStr x, hx', ?_⟩ | refine ⟨by omega, ?_⟩ | refine ⟨by omega, by omega, by omega, ?_⟩ | refine AWP.parR mixed (by kernel_rfl) fun K hK => ?_ | refine ⟨(by kernel_rfl : depB _ _ _ = true), ?_⟩ | refine Or.inl ?_) | (clear hK K))
      all_goals (simp only [signV, hok])
      all_goals (refine ⟨by first | trivial | rfl, fun x hx => ?_⟩; simp only [List.mem_singleton] at hx; subst hx; simp)
  · intro u hb hok
    simp only [go_sem, zA, zB, zC, zD, zE, zF, zG, reduceCtorEq, zH, zI, zJ, zK, zL]
    rw [List.drop_length, findS] at hok
    repeat' (first | (simp only [go_sem, zA, zB, zC, zD, zE, zF, zG, reduceCtorEq, zH, zI, zJ, zK, zL, List.length_map, hb, pin]; all_goals fail_if_success guard_target =ₛ False) | (with_reducible first | ((first | refine seqVC_stepN rfl ?_ | refine AWP.seq ?_ | refine AWP.seqR (by kernel_rfl) ?_ | refine parVC_stepN rfl ?_ | refine parEVC_stepN rfl ?_ | refine genVC_stepN rfl ?_); intro K hK) | ((first | refine hK _ _ _ ?_ | refine hK _ _ ?_ | refine hK _ ?_); clear hK K) | refine seqVC_nil ?_ | refine parVC_nil ?_ | refine parEVC_nil ?_ | refine genVC_nil ?_ | refine AWP.block ?_ | (refine AWP.cond (by with_unfolding_all rfl) ?_ ?_ <;> intro h <;> (try simp only [zM, zN] at h) <;> try exact absurd h (by decide)) | refine AWP.skip ?_ | refine AWP.ret ?_ | refine AWP.exit ?_ | refine AWP.parR mixed (by kernel_rfl) fun K hK => ?_ | refine ⟨(by kernel_rfl : depB _ _ _ = true), ?_⟩ | refine Or.inl ?_) | (clear hK K))
    all_goals (simp only [signV, hok])
    all_goals (refine ⟨by first | trivial | rfl, fun x hx => ?_⟩; simp only [List.mem_singleton] at hx; subst hx; simp)
end Go.Proofs.YtogponhonjiidaaDoor
set_option linter.unusedVariables false
set_option maxRecDepth 20000
namespace Go.Proofs.YtogponhonjiidaaDoor
open Go Go.Sx
open Nat renaming reduceBEq → zA, reduceBNe → zB, reduceAdd → zC, reduceSub → zD, reduceMul → zE, reduceLeDiff → zF, reduceLT → zG, reduceEqDiff → zH
open Int renaming reduceToNat → zI, reduceLE → zJ, reduceLT → zK, reduceEq → zL
open Bool renaming not_eq_true' → zM, not_eq_false' → zN
theorem errG {W : World} {n : String} {d : DataW Unit} {nm : String} {rest : List (String × DataW Unit)} {g : Nat} (hg : Tryd.prog.globalNamed n = some g) (hty : (Tryd.prog.globals[g]?).map (·.type) = some 82)
    (h : laidMet Tryd.prog ((n, DataW.iface nm d) :: rest) W) : ∃ vs, At (W.heap[g]?) 0 vs ∧ repRow (fun b => W.heap[b]?) [.err true] vs := by
  obtain ⟨g', t, cs, fuel, p, h1, h2, h3, h4⟩ := laidMet_head h
  obtain rfl := Option.some.inj (hg.symm.trans h1)
  obtain rfl := Option.some.inj (hty.symm.trans h2)
  obtain ⟨et, fz, hb⟩ := tab_of h3 hg
  obtain ⟨te, pe, hcs⟩ := err_of Tryd.underlying82 h4
  refine ⟨[.iface te pe], ⟨cs, et, fz, [], [], hb, by rw [hcs]; rfl, rfl⟩, ?_⟩
  simp only [repRow, C.rep, cond_true]
  exact ⟨_, _, rfl, ⟨te, pe, rfl⟩, rfl⟩
theorem repStrs {M : Mem0} : ∀ l : List (List UInt8), repRows M 1 (l.map Sx.encStr) (l.map fun s => Value.string ⟨s.toArray⟩)
  | [] => by simp [repRows]
  | s :: l => by
    have := repStrs (M := M) l
    simp only [List.map_cons, repRows]
    exact ⟨[.string ⟨s.toArray⟩], _, rfl, rfl, by simp only [Sx.encStr, repRow, C.rep]; exact ⟨_, _, rfl, rfl, rfl⟩, this⟩
theorem repInts {M : Mem0} : ∀ l : List Int, repRow M (l.map fun z => C.int .u64 z) (l.map fun z => Value.int .u64 z)
  | [] => by simp [repRow]
  | s :: l => by
    have := repInts (M := M) l
    simp only [List.map_cons, repRow, C.rep]
    exact ⟨_, _, rfl, rfl, this⟩
theorem globOk {W : World} (hL : laidMet Tryd.prog Rows.tokenReservedRow.laid W) (hS : W.ShapedOpen Tryd.prog) : GlobOk (fun b => W.heap[b]?) := by
  have l2 := laidMet_tail (laidMet_tail hL)
  have l3 := laidMet_tail l2
  have l4 := laidMet_tail l3
  have l6 := laidMet_tail (laidMet_tail l4)
  have e5 := errG (g := 5) (by kernel_rfl) (by kernel_rfl) l3
  have e4 := errG (g := 4) (by kernel_rfl) (by kernel_rfl) l4
  have e1 : Lib.TabIs Tryd.prog W "internal/strconv.uint64pow10" .u64 pow10V := Lib.tabIs_of_head (g := 1) (t := 134) (e := 107) (n := 20) (by kernel_rfl) (by kernel_rfl) Tryd.underlying134 Tryd.underlying107 (by kernel_rfl) (by kernel_rfl) l2
  obtain ⟨t1, z1, b1⟩ := tab_of e1 (g := 1) (by kernel_rfl)
  have e0 : ∃ vs, At (W.heap[0]?) 0 vs ∧ repRow (fun b => W.heap[b]?) [.sl 1 (signL.map Sx.encStr)] vs := by
    obtain ⟨g', t, cs, fuel, p, h1, h2, h3, h4⟩ := laidMet_head l6
    obtain rfl := Option.some.inj ((show Tryd.prog.globalNamed "semtype/words.signs" = some 0 by kernel_rfl).symm.trans h1)
    obtain rfl := Option.some.inj ((show (Tryd.prog.globals[0]?).map (·.type) = some 28 by kernel_rfl).symm.trans h2)
    obtain ⟨et, fz, hb⟩ := tab_of h3 h1
    obtain ⟨b, off, cap, hcs, hc1, hc2, hat⟩ := strs_of (strs := signL) (rst := []) Tryd.underlying28 Tryd.underlying9 (by kernel_rfl) (by decide) h4
    refine ⟨[.slice (some ⟨b, off, none⟩) signL.length cap], ⟨cs, et, fz, [], [], hb, by rw [hcs]; rfl, rfl⟩, ?_⟩
    simp only [repRow, C.rep]
    refine ⟨_, _, rfl, ⟨_, cap, signL.map fun s => Value.string ⟨s.toArray⟩, rfl, hc1, hc2, repStrs signL, .inr ⟨b, off, rfl, hat⟩⟩, rfl⟩
  have em : ∃ m : Int, At (W.heap[3]?) 0 [.int .i64 m] := by
    obtain ⟨m, hm⟩ := Go.Proofs.cell_of_shapedOpen_int (g := 3) (k := .i64) (zero := #[.int .i64 0]) (t := 3) hS (of_decide_eq_true (by kernel_rfl)) (by kernel_rfl) rfl (by kernel_rfl) (by kernel_rfl) Tryd.underlying3
    exact ⟨m, at_of_cells (by simp) fun i v hv => by
      cases i with
      | zero => cases hv; exact hm
      | succ i => simp at hv⟩
  refine ⟨fun g r hg => ?_, em, t1, z1, b1⟩
  by_cases g0 : g = 0
  · subst g0
    obtain rfl := Option.some.inj (gl0.symm.trans hg)
    exact e0
  by_cases g1 : g = 1
  · subst g1
    obtain rfl := Option.some.inj ((show gl.lookup 1 = some (pow10V.map fun z => C.int .u64 z) from rfl).symm.trans hg)
    exact ⟨pow10V.map fun z => Value.int .u64 z, ⟨_, t1, z1, [], [], b1, by simp, rfl⟩, repInts pow10V⟩
  by_cases g4 : g = 4
  · subst g4
    obtain rfl := Option.some.inj ((show gl.lookup 4 = some [.err true] from rfl).symm.trans hg)
    exact e4
  by_cases g5 : g = 5
  · subst g5
    obtain rfl := Option.some.inj ((show gl.lookup 5 = some [.err true] from rfl).symm.trans hg)
    exact e5
  · exfalso
    have h0 : (g == 0) = false := by simpa using g0
    have h1 : (g == 1) = false := by simpa using g1
    have h4 : (g == 4) = false := by simpa using g4
    have h5 : (g == 5) = false := by simpa using g5
    unfold gl at hg
    simp only [List.lookup, h0, h1, h4, h5] at hg
    cases hg
end Go.Proofs.YtogponhonjiidaaDoor
