/- Lemmas; conditions: as each states. -/
import Derived.Test.YtajfdbdklphonaaGreatDm16a
open Go.Proofs.Tryz renaming prog → zP
open List renaming length_map → lB
open Nat renaming reduceBEq → D, reduceBNe → E, reduceAdd → H, reduceSub → J, reduceMul → N, reduceLeDiff → O, reduceLT → U, reduceEqDiff → V
open Int renaming reduceToNat → W, reduceLE → Y, reduceLT → Z, reduceEq → zL
set_option linter.unusedVariables false
set_option linter.unusedSimpArgs false
set_option maxRecDepth 20000
set_option maxHeartbeats 4000000
namespace Go.Sx
variable {P : Program} {n : Nat} {σ : AS} {Q : Exit → AS → Prop}
theorem parM_trace (all : List Oper) (Bf : Bx) (K : Env → Prop) : ∀ (l : List Oper) (env : Env), dstsOk n l = true → parVC P all Bf l env K →
  ∃ t : Nat → T, (∀ i o, l[i]? = some o → OSpecM P n all Bf o (envA l t (fun _ => true) env i) (t i) none) ∧ K (envA l t (fun _ => true) env l.length)
 | [], env, _, h => ⟨fun _ => undefT, fun i o ho => by simp at ho, h⟩
 | o :: os, env, hd, h => by
  simp only [dstsOk, List.all_cons, Bool.and_eq_true] at hd
  obtain ⟨⟨hd1, hd2⟩, hd3⟩ := hd
  have step : ∃ t0 : T, OSpecM P n all Bf o env t0 none ∧ parVC P all Bf os (putE env o.dst t0) K := by
   rcases guardT_true h with ⟨hg, hx⟩ | ⟨hg, hx⟩
   ·obtain ⟨t, hop, h2⟩ := pureVC_sound hx
    exact ⟨t, ⟨hd1, .inl ⟨hg, .inl ⟨rfl, hop⟩⟩⟩, h2⟩
   ·exact ⟨undefT, ⟨hd1, .inr ⟨hg, rfl, rfl⟩⟩, hx⟩
  obtain ⟨t0, hspec, hk⟩ := step
  obtain ⟨t, hs, hK⟩ := parM_trace all Bf K os _ hd3 hk
  refine ⟨fun i => match i with | 0 => t0 | i + 1 => t i, ?_, ?_⟩
  ·intro i o' ho
   cases i with
   | zero => simp at ho; subst ho; exact hspec
   | succ i => rw [envA_cons]; exact hs i o' (by simpa using ho)
  ·rw [List.length_cons, envA_cons]; exact hK
def Res.flatB : Res → Bool
 | .cells cs => Cell.allInP (fun _ => false) cs
 | .row _ _ => true
 | .mp _ _ => true
mutual
theorem Cell.fresh_flat (j : Nat) : ∀ c : Cell, c.inP (fun _ => false) = true → c.fresh j = true
 | .dat _, _ => rfl
 | .ref _, _ => rfl
 | .ptr _ _, h => by simp [Cell.inP] at h
 | .own _ _, h => by simp [Cell.inP] at h
 | .rp _ _ _ _, h => by simp [Cell.inP] at h
 | .arr _ _, h => by simp [Cell.inP] at h
 | .mp _, h => by simp [Cell.inP] at h
 | .clo f caps, h => by
  simp only [Cell.inP] at h
  simp only [Cell.fresh]
  exact Cell.freshs_flat j caps h
theorem Cell.freshs_flat (j : Nat) : ∀ cs : List Cell, Cell.allInP (fun _ => false) cs = true → Cell.freshs j cs = true
 | [], _ => rfl
 | c :: cs, h => by
  simp only [Cell.allInP, Bool.and_eq_true] at h
  simp only [Cell.freshs, Bool.and_eq_true]
  exact ⟨Cell.fresh_flat j c h.1, Cell.freshs_flat j cs h.2⟩
end
theorem Bx.fresh_unput {j k : Nat} {res res2 : Res} {B : Bx} (hn : (B.map (·.1)).Nodup) (h : Bx.fresh j (Bx.put k res2 B) = true) (hl : B.lookup k = some res) (hf : res.flatB = true) : Bx.fresh j B = true := by
 refine bx_fresh_of fun x hx => ?_
 by_cases hk : x.1 = k
 ·have e : B.lookup k = some x.2 := lookup_of_mem hn (by rw [← hk]; exact hx)
  rw [hl] at e
  cases e
  have h1 := Bx.fresh_spec h (Bx.put_mem hl)
  refine ⟨by rw [hk]; exact h1.1, fun cs e => ?_⟩
  rw [e] at hf
  exact Cell.freshs_flat j cs hf
 ·exact Bx.fresh_spec (j := x.1) (r := x.2) h (Bx.put_mem_ne hk hx)
def turnVC (P : Program) (o : Oper) (env : Env) (B : Bx) (K : T → Bx → Prop) : Prop :=
 match o.op with
 | .call { callee := .value f, args := args, argTypes := ts } =>
  match calleeT (ev P env 0 f), evs P env args.toList ts.toList with
  | some (g, caps), some us => ∃ k res r res', PCBk P g (us ++ caps) k res r res' ∧ B.lookup k = some res ∧ res.flatB = true ∧ K r (Bx.put k res' B)
  | _, _ => False
 | _ => False
theorem turnVC_sound {o : Oper} {env : Env} {B : Bx} {K : T → Bx → Prop} (h : turnVC P o env B K) :
  ∃ k res t res', B.lookup k = some res ∧ res.flatB = true ∧ K t (Bx.put k res' B) ∧ ∀ B2 : Bx, B2.lookup k = some res → OpE P o env B2 t (Bx.put k res' B2) := by
 unfold turnVC at h
 split at h
 ·rename_i f args ts ho
  split at h
  ·rename_i g caps us hf hu
   obtain ⟨k, res, r, res', hpc, hb, hfl, hK⟩ := h
   refine ⟨k, res, r, res', hb, hfl, hK, fun B2 hb2 => ?_⟩
   obtain ⟨u, B', hop, _, rfl, rfl⟩ := vCall1_sound (B := B2) (args := args.toList) (K := fun u B' => u = r ∧ B' = Bx.put k res' B2) (by rw [ho]) hf hu ⟨k, res, r, res', hpc, hb2, rfl, rfl⟩
   exact hop
  ·exact h.elim
 ·exact h.elim
def genVCC (P : Program) (l : List Oper) (es : List Nat) (c m : Nat) (Bf : Bx) (env : Env) (B : Bx) (K : Env → Bx → Prop) : Prop :=
 parVC P l Bf (l.take c) env fun env1 => match l.drop c with
  | o :: os => turnVC P o env1 B fun t B1 => bxSub B1 Bf ∧ genVCM P l es Bf (c + 1) [] (os.take (m - (c + 1))) (putE env1 o.dst t) B1 fun env2 B2 => lastVC P (l.drop m) env2 B2 K
  | [] => False
def genCOk (n : Nat) (l : List Oper) (c m : Nat) : Bool := genMSOk n l m && (Nat.blt c m && (match l[c]? with | some o => o.guard.isNone | none => false))
theorem AWP.genC {id : Nat} {l : List Oper} {env : Env} {B : Bx} (c : Nat) (es : List Nat) (m : Nat) (ks : List Nat) (hm : P.follows .mixedOrders = true) (hl : genCOk n l c m = true)
  (h : ∀ K : Env → Bx → Prop, (∀ e b, Q .normal ⟨e, b⟩ → K e b) → genVCC P l es c m (Bx.outs B ks) env B K) : AWP P n (.region id l.toArray true) ⟨env, B⟩ Q := by
 simp only [genCOk, genMSOk, genMOk, Bool.and_eq_true, beq_iff_eq] at hl
 obtain ⟨⟨⟨hlex, hds⟩, hlen1, hdep, hgd⟩, hcm, hgc⟩ := hl
 have hcm : c < m := Nat.le_of_ble_eq_true hcm
 have hlt : m < l.length := by omega
 obtain ⟨oL, hoL⟩ : ∃ o, l[m]? = some o := ⟨l[m], by simp [hlt]⟩
 obtain ⟨oC, hoC⟩ : ∃ o, l[c]? = some o := ⟨l[c]'(by omega), by simp [show c < l.length by omega]⟩
 rw [hoL] at hgd
 rw [hoC] at hgc
 have hgL : oL.guard = none := by simpa using hgd
 have hgC : oC.guard = none := by simpa using hgc
 have hdst : ∀ i o, l[i]? = some o → dstOk n o = true ∧ Nat.blt (dstN o) pin = true := fun i o ho => by
  have := List.all_eq_true.1 hds o (List.mem_of_getElem? ho)
  simpa [Bool.and_eq_true] using this
 have hsub : ∀ l' : List Oper, (∀ x ∈ l', x ∈ l) → dstsOk n l' = true := fun l' hs => List.all_eq_true.2 fun x hx => List.all_eq_true.1 hds x (hs x hx)
 have hdropm : l.drop m = [oL] := by
  rw [List.drop_eq_getElem_cons hlt, List.drop_eq_nil_of_le (by omega)]
  have := List.getElem?_eq_getElem hlt
  rw [hoL] at this
  rw [Option.some.inj this]
 have hdropc : l.drop c = oC :: l.drop (c + 1) := by
  rw [List.drop_eq_getElem_cons (by omega)]
  have := List.getElem?_eq_getElem (show c < l.length by omega)
  rw [hoC] at this
  rw [Option.some.inj this]
 intro κ M0 a w hs
 have hBn : (B.map (·.1)).Nodup := by obtain ⟨M, ν, _, _, _, _, h7, _⟩ := hs; exact h7.nodup
 obtain ⟨hback, hpairs, _⟩ := lex_pairs hlex
 have hv := h (fun e b => Q .normal ⟨e, b⟩) (fun _ _ k => k)
 unfold genVCC at hv
 obtain ⟨t1, hs1, hK1⟩ := parM_trace l _ _ (l.take c) env (hsub _ fun x hx => List.mem_of_mem_take hx) hv
 rw [hdropc] at hK1
 simp only [List.length_take, show min c l.length = c by omega] at hK1
 obtain ⟨kb, res, tc, res2, hlk, hflat, ⟨hb1, hv2⟩, hop⟩ := turnVC_sound hK1
 have hB1f : ∀ x ∈ Bx.outs B ks, x ∈ Bx.put kb res2 B := bxSub_spec hb1
 obtain ⟨t2, mk2, hs2, hlen2, hro2, hfb2, hdis2, _, hjj2, hK2⟩ := genM_trace l es (Bx.outs B ks) _ ((l.drop (c + 1)).take (m - (c + 1))) (c + 1) [] _ _ (hsub _ fun x hx => List.mem_of_mem_drop (List.mem_of_mem_take hx)) hB1f hv2
 have hl2 : ((l.drop (c + 1)).take (m - (c + 1))).length = m - (c + 1) := by simp; omega
 rw [hl2] at hlen2 hjj2 hK2
 rw [hdropm] at hK2
 let t : Nat → T := fun i => if i < c then t1 i else if i = c then tc else if i < m then t2 (i - (c + 1)) else undefT
 let mk : Nat → Option (Nat × Res) := fun i => if c < i then mk2 (i - (c + 1)) else none
 have e1 : ∀ i, i ≤ c → envA l t (fun _ => true) env i = envA (l.take c) t1 (fun _ => true) env i := by
  intro i
  induction i with
  | zero => intro _; rfl
  | succ i ih =>
   intro hi
   rw [envA, envA, ih (by omega), List.getElem?_take_of_lt (by omega)]
   simp only [t, show i < c by omega, if_true]
 have ec : envA l t (fun _ => true) env (c + 1) = putE (envA (l.take c) t1 (fun _ => true) env c) oC.dst tc := by
  rw [envA, e1 c (Nat.le_refl _), hoC]
  simp only [cT, Option.bind_some, t, Nat.lt_irrefl, if_false, if_true]
 have e2 : ∀ i, c + 1 + i ≤ m → envA l t (fun _ => true) env (c + 1 + i) = envA ((l.drop (c + 1)).take (m - (c + 1))) t2 (fun _ => true) (putE (envA (l.take c) t1 (fun _ => true) env c) oC.dst tc) i := by
  intro i
  induction i with
  | zero => intro _; exact ec
  | succ i ih =>
   intro hi
   rw [show c + 1 + (i + 1) = (c + 1 + i) + 1 by omega, envA, envA, ih (by omega), List.getElem?_take_of_lt (by omega), List.getElem?_drop]
   simp only [t, show ¬ (c + 1 + i < c) by omega, show ¬ (c + 1 + i = c) by omega, show c + 1 + i < m by omega, if_false, if_true, show c + 1 + i - (c + 1) = i by omega]
 have em := e2 (m - (c + 1)) (by omega)
 rw [show c + 1 + (m - (c + 1)) = m by omega] at em
 have htm : t m = undefT := by simp only [t, show ¬ (m < c) by omega, show ¬ (m = c) by omega, Nat.lt_irrefl, if_false]
 have hbx : ∀ q, bxX mk (Bx.put kb res2 B) (fun _ => true) (c + 1 + q) = bxX mk2 (Bx.put kb res2 B) (fun _ => true) q := by
  intro q
  induction q with
  | zero =>
   have : ∀ q, q ≤ c + 1 → bxX mk (Bx.put kb res2 B) (fun _ => true) q = Bx.put kb res2 B := by
    intro q
    induction q with
    | zero => intro _; rfl
    | succ q ih =>
     intro hq
     rw [bxX, ih (by omega)]
     simp only [mk, show ¬ (c < q) by omega, if_false]
   exact this _ (Nat.le_refl _)
  | succ q ih =>
   rw [show c + 1 + (q + 1) = (c + 1 + q) + 1 by omega, bxX, bxX, ih]
   simp only [mk, show c < c + 1 + q by omega, if_true, show c + 1 + q - (c + 1) = q by omega]
 have hbm := hbx (m - (c + 1))
 rw [show c + 1 + (m - (c + 1)) = m by omega] at hbm
 rw [← em, ← hbm] at hK2
 obtain ⟨B', hopL, hKB⟩ : ∃ B', OpE P oL (envA l t (fun _ => true) env m) (bxX mk (Bx.put kb res2 B) (fun _ => true) m) undefT B' ∧ Q .normal ⟨putE (envA l t (fun _ => true) env m) oL.dst undefT, B'⟩ := by
  simp only [lastVC] at hK2
  split at hK2
  ·rename_i ho
   exact vStore_sound ho hK2
  ·exact hK2.elim
 have hmkS : ∀ i p, mk i = some p → c < i ∧ i < m ∧ mk2 (i - (c + 1)) = some p := by
  intro i p hp
  by_cases hci : c < i
  ·simp only [mk, hci, if_true] at hp
   have := hlen2 _ p hp
   exact ⟨hci, by omega, hp⟩
  ·simp only [mk, hci, if_false] at hp; cases hp
 have hfr1 : ∀ i p, mk i = some p → Bx.fresh p.1 (Bx.put kb res2 B) = true := fun i p hp => hfb2 _ p (hmkS i p hp).2.2
 have hfr0 : ∀ i p, mk i = some p → Bx.fresh p.1 B = true := fun i p hp => Bx.fresh_unput hBn (hfr1 i p hp) hlk hflat
 refine wp_region_any hm ?_
 have hsz : l.toArray.size = l.length := by simp
 rw [hsz]
 have hrep : ∀ j, (Array.replicate l.length false).getD j false = false := fun j => rep_getD _ j
 have hxs : ∀ j, xs (Array.replicate l.length false) j = false := fun j => rep_getD _ j
 have hend : envA l t (fun _ => true) env l.length = putE (envA l t (fun _ => true) env m) oL.dst undefT := by
  rw [hlen1, envA]
  simp only [cT, hoL, Option.bind_some, htm]
 refine genCS_sound (κ := κ) (M0 := M0) (t := t) (mk := mk) (B0 := B) (Bf := Bx.outs B ks) (c := c) (kb := kb) (res := res) (res2 := res2) (env0 := env) (L := m) (oL := oL) (B' := B') hback hpairs
  ⟨fun i j p q hp hq hij => ?_, fun i p hp x hx => (Bx.fresh_spec (j := x.1) (r := x.2) (hfr0 i p hp) hx).1⟩ hlk (by simp only [mk, Nat.lt_irrefl, if_false]) hcm (fun x hx => Bx.outs_sub hx) hB1f (fun i p hp => ⟨hfr0 i p hp, hfr1 i p hp⟩) (fun o ho => ?_)
  (fun i p hp => hro2 _ p (hmkS i p hp).2.2) (fun i p hp => by have := hmkS i p hp; omega) hlen1 hoL (hdst m oL hoL).1 hgL (fun i hi => List.all_eq_true.1 hdep i (List.mem_range.2 hi)) ?_ ?_ ?_ (fun a w s => ?_) l.length _ a _ ?_ ?_
 ·have h1 := hmkS i p hp
  have h2 := hmkS j q hq
  exact hdis2 _ _ p q h1.2.2 h2.2.2 (by omega)
 ·rw [hoC] at ho; cases ho
  refine ⟨(hdst c oC hoC).1, hgC, fun B2 hb2 => ?_⟩
  rw [e1 c (Nat.le_refl _)]
  have : t c = tc := by simp only [t, Nat.lt_irrefl, if_false, if_true]
  rw [this]
  exact hop B2 hb2
 ·rw [htm]; exact hopL
 ·intro i o hi hic ho
  by_cases hci : i < c
  ·rw [e1 i (by omega)]
   have h1 := hs1 i o (by rw [List.getElem?_take_of_lt hci]; exact ho)
   have : t i = t1 i := by simp only [t, hci, if_true]
   have hm0 : mk i = none := by simp only [mk, show ¬ (c < i) by omega, if_false]
   rw [this, hm0]; exact h1
  ·have hq : c + 1 + (i - (c + 1)) = i := by omega
   have he := e2 (i - (c + 1)) (by omega)
   rw [hq] at he
   have h1 := hs2 (i - (c + 1)) o (by rw [List.getElem?_take_of_lt (by omega), List.getElem?_drop, hq]; exact ho)
   have : t i = t2 (i - (c + 1)) := by simp only [t, hci, hic, hi, if_false, if_true]
   have hm0 : mk i = mk2 (i - (c + 1)) := by simp only [mk, show c < i by omega, if_true]
   rw [this, hm0, he]; exact h1
 ·intro g k p hg hgk hk
  obtain ⟨h1, h2, h3⟩ := hmkS g p hg
  by_cases hkm : k < m
  ·have := hjj2 (g - (c + 1)) (k - (c + 1)) p h3 (by omega) (by omega)
   have htk : t k = t2 (k - (c + 1)) := by simp only [t, show ¬ (k < c) by omega, show ¬ (k = c) by omega, hkm, if_false, if_true]
   rw [htk]
   rw [show c + 1 + (k - (c + 1)) = k by omega, show c + 1 + (g - (c + 1)) = g by omega] at this
   exact this
  ·left
   have : t k = undefT := by simp only [t, show ¬ (k < c) by omega, show ¬ (k = c) by omega, hkm, if_false]
   rw [this]; rfl
 ·rw [hend] at s
  exact ⟨_, s, hKB⟩
 ·unfold cnt
  have hfil : (List.range l.length).filter (fun i => !(Array.replicate l.length false).getD i false) = List.range l.length := by
   rw [List.filter_eq_self]
   intro x _
   simp only [hrep x, Bool.not_false]
  rw [hfil, List.length_range]
 ·have hst := mid_start (σ := ⟨env, B⟩) (l := l) (t := t) (b := fun _ => B) (e := fun _ => false) rfl hs
  obtain ⟨M, ν, _, h1, h2, h3, h4, _, _, h7, h8⟩ := hst.st
  have hbx0 : ∀ q, bxX mk B (xs (Array.replicate l.length false)) q = B := by
   intro q
   induction q with
   | zero => rfl
   | succ q ih => unfold bxX; rw [hxs q]; simp only [ih]
  exact ⟨⟨hst.size, hst.closed, M, ν, h1, h2, h3, h4, by rw [hxs c, cF, hbx0]; exact h7, h8⟩, hrep m⟩
attribute [go_sem] turnVC Res.flatB Cell.allInP Cell.inP
end Go.Sx
set_option maxRecDepth 20000
set_option maxHeartbeats 16000000
namespace Go.Proofs.YtajfdbdklphonaaGreat
open Go Go.Sx
theorem cut70 {α : Type} (f : α → List C) (l : List α) : (List.take (if (70 : Int) < (l.length : Int) then (70 : Int) else (l.length : Int)).toNat (List.map f l)) = (l.take 70).map f := cut_eq f l 70
mutual
theorem matL_cnt (f : Nat) (dep : Nat) : ∀ (l : List Dat) (s : Src), cntPs (matL (matD f dep) l s).1 + rem (matL (matD f dep) l s).2 ≤ cntDs l + rem s
 | [], s => by simp [matL, cntPs, cntDs]
 | d :: l, s => by
  have h1 := mat_cnt f dep d s
  have h2 := matL_cnt f dep l (matD f dep d s).2
  rw [matL, cntPs, cntDs]
  simp only
  omega
theorem mat_cnt : ∀ (f dep : Nat) (d : Dat) (s : Src), cntP (matD f dep d s).1 + rem (matD f dep d s).2 ≤ cntD d + rem s
 | 0, dep, d, s => by
  have := cntD_eq d
  show cntP (leafP 1 0 []) + rem s ≤ _
  rw [cntP_eq]; simp [leafP, cntPs]; omega
 | f + 1, dep, d, s => by
  have hr := rem_next s 7
  have hr2 := rem_next (nextS s 7) 3
  have hc := cntD_eq d
  have lf : ∀ (k n : Int) (t : List UInt8), cntP (leafP k n t) = 1 := fun k n t => by rw [cntP_eq]; simp [leafP, cntPs]
  unfold matD
  cases decide (kM dep s = 0)
  ·cases decide (kM dep s = 1)
   ·cases h2 : decide (kM dep s = 2)
    ·cases decide (d.kind = 6) || decide (d.kind = 7) || decide (d.kind = 8)
     ·cases decide (d.kind = 1)
      ·cases decide (d.kind = 3)
       ·simp only [cT, cF, lf]; omega
       ·simp only [cT, cF, lf]; omega
      ·simp only [cT, cF, lf]; omega
     ·have h := matL_cnt f (dep - 1) d.kids (nextS s 7)
      simp only [cT, cF]
      rw [cntP_eq]; simp only [kidsQ]; omega
    ·have h := mat_cnt f 0 d (nextS s 7)
     have hv : nextV s 7 ≠ 0 := fun e => by
      have h2 := of_decide_eq_true h2
      unfold kM at h2
      rw [e] at h2
      cases hz : decide ((dep : Int) = 0) && decide ((3 : Int) < 0) <;> rw [hz] at h2 <;> cases h2
     have hl := rem_less hv
     simp only [cT, cF]
     rw [cntP_eq]; simp only [kidsQ, cntPs]; omega
   ·simp only [cT, cF, lf]; omega
  ·simp only [cT, cF, lf]; omega
end
theorem baseD_p {p : Src → Prop} (hp : ∀ s n, p s → p (nextS s n)) (k : Int) (s : Src) (h : p s) : p (madeBase k s).2 := by
 unfold madeBase
 cases decide (k = 1) <;> cases decide (k = 2) <;> cases decide (k = 3) <;> cases decide (k = 4) <;> cases decide (k = 5) <;> cases decide (k = 6) <;>
  first | exact hp _ _ h | exact h | exact hp _ _ (hp _ _ (hp _ _ (hp _ _ h)))
theorem keyD_p {p : Src → Prop} (hp : ∀ s n, p s → p (nextS s n)) (s : Src) (h : p s) : p (keyV s).2 := by
 unfold keyV
 cases decide (nextV s 2 = 0) <;> exact hp _ _ (hp _ _ h)
theorem madeN_p {p : Src → Prop} {f : Src → Dat × Src} (hf : ∀ s, p s → p (f s).2) : ∀ (n : Nat) (s : Src) (acc : List Dat), p s → p (madeN f n s acc).2
 | 0, s, acc, h => h
 | n + 1, s, acc, h => madeN_p hf n _ _ (hf s h)
theorem listN_p {p : Src → Prop} {f : Src → Dat × Src} (hf : ∀ s, p s → p (f s).2) : ∀ (n : Nat) (s : Src) (t : Dat), p s → p (listN f n s t).2
 | 0, s, t, h => h
 | n + 1, s, t, h => listN_p hf n _ _ (hf s h)
theorem mapN_p {p : Src → Prop} (hp : ∀ s n, p s → p (nextS s n)) {f : Src → Dat × Src} (hf : ∀ s, p s → p (f s).2) : ∀ (n : Nat) (s : Src) (t : Dat), p s → p (mapN f n s t).2
 | 0, s, t, h => h
 | n + 1, s, t, h => mapN_p hp hf n _ _ (hf _ (keyD_p hp s h))
theorem madeD_p {p : Src → Prop} (hp : ∀ s n, p s → p (nextS s n)) : ∀ (d : Nat) (s : Src), p s → p (made d s).2
 | 0, s, h => baseD_p hp _ _ (hp _ _ h)
 | d + 1, s, h => by
  have ih := madeD_p hp d
  unfold made
  cases decide (nextV s 12 ≤ 6)
  ·cases decide (nextV s 12 = 7)
   ·cases decide (nextV s 12 ≤ 9)
    ·cases decide (nextV s 12 = 10)
     ·exact mapN_p hp ih _ _ _ (hp _ _ (hp _ _ h))
     ·exact listN_p ih _ _ _ (hp _ _ (hp _ _ h))
    ·exact madeN_p ih _ _ _ (hp _ _ (hp _ _ h))
   ·have h0 : p (made0 (nextS s 12)).2 := baseD_p hp _ _ (hp _ _ (hp _ _ h))
    cases decide ((made0 (nextS s 12)).1.kind = 9) <;> exact h0
  ·exact baseD_p hp _ _ (hp _ _ h)
def names4 : List (List UInt8) := [[88], [87], [81], [89]]
def kinds4 : List Int := [5, 12, 9, 7]
def trueQ : Grd := ⟨1, [], 0, [], ⟨0, []⟩, []⟩
def testQ (k : Int) : Grd := ⟨k, [88], 0, [], ⟨0, []⟩, []⟩
theorem GSm_true : GSm trueQ := by unfold GSm; rw [cntG_eq]; simp [trueQ, cntGs]
theorem GSm_test (k : Int) : GSm (testQ k) := by unfold GSm; rw [cntG_eq]; simp [testQ, cntGs]
theorem matches41_law (l : List Int) (hl : ∀ x ∈ l, In64 x) (n : Int) : PC zP 3 [.one (.dat (.sl 1 (l.map encInt))), I .i64 n] (Bo true) := by
 have hs0 : (Src.mk (l.take 70) 0).ok := ⟨fun x hx => hl x (List.mem_of_mem_take hx), by simp; omega⟩
 have hmade := made_k 22 3 (by omega) ⟨l.take 70, 0⟩ hs0
 have hs1 := ok_made 3 hs0
 have hmb := made_mb 3 ⟨l.take 70, 0⟩
 have hr1 : rem (made 3 ⟨l.take 70, 0⟩).2 ≤ 70 := madeD_p (p := fun t => rem t ≤ 70) (fun t n h => Nat.le_trans (rem_next t n) h) 3 _ (by unfold rem; simp; omega)
 generalize (made 3 ⟨l.take 70, 0⟩).1 = d at *
 generalize (made 3 ⟨l.take 70, 0⟩).2 = s1 at *
 have hgd : Gd d := ⟨hmb.2, Nat.le_trans hmb.1 (by decide)⟩
 have hcnt := cnt_bulkD d
 have hmat := matcher_c (rem s1 + cntD d + 1) 3 (by omega) d hgd.cl.small s1 hs1 (by omega)
 have hs2 := mat_ok (rem s1 + cntD d + 1) 3 d s1 hs1
 have hmc := mat_cnt (rem s1 + cntD d + 1) 3 d s1
 unfold MatC at hmat
 generalize (matD (rem s1 + cntD d + 1) 3 d s1).1 = g at *
 generalize (matD (rem s1 + cntD d + 1) 3 d s1).2 = s2 at *
 have hg : PSm g := by have := hgd.2; unfold PSm; omega
 have hmat' : PCBk zP 5 [Sp 22, Dt d, I .i64 (3 : Nat)] 22 (srcB s1) (Pt g) (srcB s2) := PCBk.mk 22 hmat
 have a4 := nextV_in (nextS s2 2) (n := 4) (by omega)
 have hs3 := ok_next hs2 2
 have hx4 : [[C.int .i64 5], [C.int .i64 12], [C.int .i64 9], [C.int .i64 7]][(nextV (nextS s2 2) 4).toNat]? = some [C.int .i64 (kinds4.getD (nextV (nextS s2 2) 4).toNat 0)] := lit_get encInt kinds4 0 (v := nextV (nextS s2 2) 4) a4
 obtain ⟨j, hj, hj1, hj4⟩ : ∃ j : Int, IntKind.u64.wrap (1 + (IntKind.u64.wrap n).tmod 4) = j ∧ 1 ≤ j ∧ j ≤ 4 := by
  have h0 : 0 ≤ IntKind.u64.wrap n := by rw [wrap_u64]; omega
  refine ⟨1 + (IntKind.u64.wrap n).tmod 4, ?_, ?_, ?_⟩
  ·rw [wrap_u64]
   have := Int.tmod_lt_of_pos (IntKind.u64.wrap n) (show (0 : Int) < 4 by omega)
   have := Int.tmod_nonneg 4 h0
   omega
  ·have := Int.tmod_nonneg 4 h0; omega
  ·have := Int.tmod_lt_of_pos (IntKind.u64.wrap n) (show (0 : Int) < 4 by omega); omega
 obtain ⟨ns, hns, hnl⟩ : ∃ ns : List (List UInt8), List.take j.toNat [[C.str [88]], [C.str [87]], [C.str [81]], [C.str [89]]] = ns.map Sx.encStr ∧ ns.length ≤ 1000 := ⟨names4.take j.toNat, by rw [List.map_take]; rfl, by simp [names4]; omega⟩
 have hsame : ∀ x : Dat, Gd x → PC zP 9 [.st (encDat x), .st (encDat x)] (Bo true) := fun x hx => sameDat_s x hx.1
 have heq : ∀ v : Val, PC zP 14 [.st (encVal v), .st (encVal v)] (Bo true) := fun v => by
  have h := refEqual_c v v
  rwa [show decide (valC v v = 0) = true by rw [decide_eq_true_eq, valC_zero]] at h
 have hhf := refHasFunction_c d
 have hera := erase_c d hgd.cl.small
 -- what the matchers give, for a guard
 have key : ∀ q : Grd, GSm q → ∃ (out : List Dat) (ok : Bool), PC zP 7 [.st (matC g q ns), .st (encDat d)] (.tup [DsD out, Bo ok]) ∧ PC zP 8 [.st (matC g q ns), .st (encDat d)] (.tup [DsD out, Bo ok]) ∧
   PC zP 12 [.st (matC g q ns), .st (encVal (eraseV d))] (.tup [VsP (out.map eraseV), Bo ok]) ∧ ∀ x ∈ out, Gd x := fun q hq => by
  refine ⟨outD g q ns d, okD g q d, dMatch_c g q ns d hg hq hgd hnl, ?_, ?_, ?_⟩
  ·have h := mDatum_c g q ns d hg hq hgd hnl
   have e : outR g q ns d = outD g q ns d := by
    unfold outR outD
    cases ho : okD g q d
    ·rfl
    ·exact out_same g q ns d ho
   rw [← e]; exact h
  ·have h := bMatch_c g q ns d hg hq hgd hnl
   have e : (bif okD g q d then ns.map (fun s => eraseV (atN g d s)) else []) = (outD g q ns d).map eraseV := by
    unfold outD
    cases okD g q d
    ·rfl
    ·show ns.map _ = (ns.map _).map _
     rw [List.map_map]; rfl
   rw [← e]; exact h
  ·unfold outD
   cases okD g q d
   ·intro x hx; cases hx
   ·intro x hx
    obtain ⟨s, _, rfl⟩ := List.mem_map.1 hx
    unfold atN
    cases (namesP g).any (fun x => decide (s = x))
    ·exact zero_gd
    ·exact findN_gd (namD_gd g d hgd) s
 cases hk : decide (nextV s2 2 = 1)
 case' false => obtain ⟨out, ok, c1, c2, c3, hout⟩ := key trueQ GSm_true
 case' true => obtain ⟨out, ok, c1, c2, c3, hout⟩ := key (testQ (kinds4.getD (nextV (nextS s2 2) 4).toNat 0)) (GSm_test _)
 all_goals
  simp only [matC, trueQ, testQ, List.map_nil] at c1 c2 c3
  generalize hasFun d = hf at *
  have hol : out.length ≤ 9223372036854775807 → (out.map eraseV).length = out.length := fun _ => lB _
  have hsm2 : ∀ x ∈ out, PC zP 13 [.st (encDat x)] (.st (encVal (eraseV x))) := fun x hx => erase_c x (hout x hx).cl.small
  refine PCB.ob Tryz.func3 Tryz.ntmps3 Tryz.results3 ?_
  repeat' (first | (simp only [go_sem, D, E, H, J, N, O, U, reduceCtorEq, V, W, Y, Z, zL, lB, List.drop_zero, cut70, hk, hj, hns, encP_eq g, List.map_nil, BEq.rfl, dT] <;> refine nf ?_) | (refine stp ?_; intro K hK) | (apply hK; clear hK K) | refine stn ?_ | (with_reducible first | (refine ⟨by split <;> omega, by split <;> omega, ?_⟩) | refine ⟨by omega, _, hx4, ?_⟩ | refine ⟨by omega, by omega, ?_⟩ | refine ⟨_, c1, ?_⟩ | refine ⟨_, c2, ?_⟩ | refine ⟨by decide, ?_⟩) | (refine ⟨22, _, _, _, hmade, rfl, ?_⟩) | (refine ⟨22, _, _, _, hmat', rfl, ?_⟩) | (refine ⟨22, _, _, _, next_k 22 _ (by first | exact hs2 | exact hs3) _ (by omega), rfl, ?_⟩) | (with_reducible refine AWP.genC (id := 3) 2 [11] 12 [22] mixed (by kernel_rfl) fun K hK => ?_; simp only [genVCC, List.take_succ_cons, List.take_zero, List.drop_succ_cons, List.drop_zero, Bx.outs, Bx.drop, cT, cF, D, H, J, go_sem]) | refine stq ?_ | fail)
  refine AWP.len 8 rfl fun hlen0 => ?_
  (try rw [lB] at hlen0)
  refine AWP.range (S := Unit) (out) encDat (fun k s => (70, I .i64 (k : Nat)) :: []) (fun k s => []) [6, 7, 8, 9, 10, 69] [6, 7] (fun k u => Is (0 : Nat) 0) (()) (by refine st ?_; exact Gh.ts []) ?_ ?_ ?_
  ·rfl
  ·intro k u x hlt hx hx' hb hok
   refine st ?_
   have hxs := hsame x (hout x (List.mem_of_getElem? hx))
   repeat' (first | (simp only [go_sem, D, E, H, J, N, O, U, reduceCtorEq, V, W, Y, Z, zL, lB, hb] <;> refine nf ?_) | (refine stp ?_; intro K hK) | (apply hK; clear hK K) | refine stn ?_ | (with_reducible first | refine ⟨_, hxs, ?_⟩ | refine ⟨by omega, encDat x, hx', ?_⟩) | (refine stp' ?_; intro K hK) | (clear hK K))
   all_goals (rw [wrap_succ hlt hlen0])
   all_goals (refine ⟨(), ?_, Gh.ts []⟩)
   all_goals rfl
  ·intro u hb hok
   refine st ?_
   cases hf
   ·
    repeat' (first | (simp only [go_sem, D, E, H, J, N, O, U, reduceCtorEq, V, W, Y, Z, zL, lB, hb, BEq.rfl, dT] <;> refine nf ?_) | (refine stp ?_; intro K hK) | (apply hK; clear hK K) | refine stn ?_ | (with_reducible first | refine ⟨_, hhf, ?_⟩ | refine ⟨_, hera, ?_⟩ | refine ⟨_, c3, ?_⟩) | (refine stp' ?_; intro K hK) | refine stq ?_ | (clear hK K))
    refine AWP.len 13 rfl fun hlen1 => ?_
    (try rw [lB] at hlen1)
    refine AWP.range (S := Unit) (out.map eraseV) encVal (fun k s => (106, I .i64 (k : Nat)) :: []) (fun k s => []) [8, 13, 105] [] (fun k u => Is (0 : Nat) 0) (()) (by refine st ?_; exact Gh.ts []) ?_ ?_ ?_
    ·rfl
    ·intro k u x hlt hx hx' hb2 hok2
     refine st ?_
     rw [List.getElem?_map] at hx
     obtain ⟨y, hy, rfl⟩ := Option.map_eq_some_iff.1 hx
     have hy' : (out.map encDat)[k]? = some (encDat y) := by rw [List.getElem?_map, hy]; rfl
     have hxe := heq (eraseV y)
     have hye := hsm2 y (List.mem_of_getElem? hy)
     have hko : k < out.length := by rw [lB] at hlt; exact hlt
     have hb3 : decide ((k : Int) < ((out.length : Nat) : Int)) = true := by rw [decide_eq_true_eq]; omega
     repeat' (first | (simp only [go_sem, D, E, H, J, N, O, U, reduceCtorEq, V, W, Y, Z, zL, lB, hb2, hb3] <;> refine nf ?_) | (refine stp ?_; intro K hK) | (apply hK; clear hK K) | refine stn ?_ | (with_reducible first | refine ⟨_, hxe, ?_⟩ | refine ⟨_, hye, ?_⟩ | refine ⟨by omega, encVal (eraseV y), hx', ?_⟩ | refine ⟨by omega, encDat y, hy', ?_⟩) | (refine stp' ?_; intro K hK) | (clear hK K))
     all_goals (rw [wrap_succ hlt hlen1])
     all_goals (refine ⟨(), ?_, Gh.ts []⟩)
     all_goals rfl
    ·intro u hb2 hok2
     refine st ?_
     rw [lB] at hb2
     repeat' (first | (simp only [go_sem, D, E, H, J, N, O, U, reduceCtorEq, V, W, Y, Z, zL, lB, hb2] <;> refine nf ?_) | (refine stp ?_; intro K hK) | (apply hK; clear hK K) | refine stn ?_ | (with_reducible refine ⟨_, awake_c, ?_⟩) | refine stq ?_ | (clear hK K))
     all_goals (first | exact nn | refine fin0 ?_)
   ·
    repeat' (first | (simp only [go_sem, D, E, H, J, N, O, U, reduceCtorEq, V, W, Y, Z, zL, lB, hb] <;> refine nf ?_) | (refine stp ?_; intro K hK) | (apply hK; clear hK K) | refine stn ?_ | (with_reducible first | refine ⟨_, hhf, ?_⟩ | refine ⟨_, awake_c, ?_⟩) | refine stq ?_ | (clear hK K))
    all_goals (first | exact nn | refine fin0 ?_)
end Go.Proofs.YtajfdbdklphonaaGreat

