/- Lemmas; conditions: as each states. -/
import Derived.Test.YtajfdbdklphonaaGreatDm11
open Go.Proofs.Tryz renaming prog → zP
open List renaming length_map → lB, map_nil → lF, take_succ_cons → lG, take_length → lK, mem_of_getElem? → lP
open Go.Sx.AWP renaming range → xC, lenB → xE, len → xF
open Nat renaming reduceBEq → D, reduceBNe → E, reduceAdd → H, reduceSub → J, reduceMul → N, reduceLeDiff → O, reduceLT → U, reduceEqDiff → V
open Int renaming reduceToNat → W, reduceLE → Y, reduceLT → Z, reduceEq → zL
set_option linter.unusedVariables false
set_option linter.unusedSimpArgs false
set_option maxRecDepth 20000
set_option maxHeartbeats 16000000
namespace Go.Proofs.YtajfdbdklphonaaGreat
open Go Go.Sx
@[go_sem] theorem eqArrE (a b c d : Int) : eqStT zP 6 65 [.int .i64 a, .int .i64 b] [.int .i64 c, .int .i64 d] = some (decide (a = c) && decide (b = d)) := by kernel_rfl
@[go_sem] theorem eqArrG : Go.Program.eqGuardType zP (Go.Program.depth zP) 65 = false := by kernel_rfl
theorem sameNodes_s (l : List NodeD) (r : Int) (hf : ∀ x ∈ l, x.fields = []) : PC zP 30 [.st [.sl 8 (l.map encNode), .int .i64 r], .st [.sl 8 (l.map encNode), .int .i64 r]] (Bo true) := by
 refine PCB.ob Tryz.func30 Tryz.ntmps30 Tryz.results30 ?_
 repeat' (first | (simp only [go_sem, D, E, H, J, N, O, U, reduceCtorEq, V, W, Y, Z, zL, lB, dT] <;> refine nf ?_) | (refine stp ?_; intro K hK) | (apply hK; clear hK K) | refine stn ?_ | fail)
 refine xE 2 0 rfl rfl fun hlen0 => ?_
 (try rw [lB] at hlen0)
 refine xC (S := Unit) (l) encNode (fun k s => (27, I .i64 (k : Nat)) :: []) (fun k s => []) [3, 25, 26] [3] (fun k u => Is (0 : Nat) 0) (()) (by refine st ?_; exact Gh.ts []) ?_ ?_ ?_
 ·rfl
 ·intro k u x hlt hx hx' hb hok
  refine st ?_
  have hxf := hf x (lP hx)
  repeat' (first | (simp only [go_sem, D, E, H, J, N, O, U, reduceCtorEq, V, W, Y, Z, zL, lB, dT, encNode, hb, hxf, lF, Bool.and_self, Bool.not_true] <;> refine nf ?_) | (refine stp ?_; intro K hK) | (apply hK; clear hK K) | refine stn ?_ | (with_reducible refine ⟨by omega, _, hx', ?_⟩) | fail)
  refine xE 6 4 rfl rfl fun hlen1 => ?_
  (try rw [lB] at hlen1)
  refine xC (S := Unit) (x.kids) encInt (fun k s => (91, I .i64 (k : Nat)) :: []) (fun k s => []) [3, 6, 7, 25, 26, 27, 90] [3, 6, 7] (fun j u => Is (0 : Nat) 0) (()) (by refine st ?_; exact Gh.ts []) ?_ ?_ ?_
  ·rfl
  ·intro j u y hlt hy hy' hby hoky
   refine st ?_
   repeat' (first | (simp only [go_sem, D, E, H, J, N, O, U, reduceCtorEq, V, W, Y, Z, zL, lB, dT, encInt, hby] <;> refine nf ?_) | (refine stp ?_; intro K hK) | (apply hK; clear hK K) | refine stn ?_ | (with_reducible refine ⟨by omega, _, hy', ?_⟩) | (refine stp' ?_; intro K hK) | (clear hK K))
   all_goals (rw [wrap_succ hlt hlen1])
   all_goals (refine ⟨(), ?_, Gh.ts []⟩)
   all_goals rfl
  ·intro u2 hb2 hok2
   refine st ?_
   repeat' (first | (simp only [go_sem, D, E, H, J, N, O, U, reduceCtorEq, V, W, Y, Z, zL, lB, hb2] <;> refine nf ?_) | (refine stp ?_; intro K hK) | (apply hK; clear hK K) | refine stn ?_ | (clear hK K))
   refine xE 6 5 rfl rfl fun hlen2 => ?_
   (try rw [lB] at hlen2)
   refine xC (S := Unit) (([] : List FieldD)) encField (fun k s => (109, I .i64 (k : Nat)) :: []) (fun k s => []) [3, 6, 7, 25, 26, 27, 108] [3, 6, 7] (fun j u => Is (0 : Nat) 0) (()) (by refine st ?_; exact Gh.ts []) ?_ ?_ ?_
   ·rfl
   ·intro j u y hlt hy hy' hby hoky
    exact absurd hlt (Nat.not_lt_zero _)
   ·intro u3 hb3 hok3
    refine st ?_
    repeat' (first | (simp only [go_sem, D, E, H, J, N, O, U, reduceCtorEq, V, W, Y, Z, zL, lB, hb3] <;> refine nf ?_) | (refine stp ?_; intro K hK) | (apply hK; clear hK K) | refine stn ?_ | (clear hK K))
    all_goals (rw [wrap_succ hlt hlen0])
    all_goals (refine ⟨(), ?_, Gh.ts []⟩)
    all_goals rfl
 ·intro u hb hok
  refine st ?_
  repeat' (first | (simp only [go_sem, D, E, H, J, N, O, U, reduceCtorEq, V, W, Y, Z, zL, lB, hb] <;> refine nf ?_) | (refine stp ?_; intro K hK) | (apply hK; clear hK K) | refine stn ?_ | (clear hK K))
  all_goals (first | exact nn | refine fin0 ?_)
theorem sameDat_s (d : Dat) (h : NdG d) : PC zP 9 [.st (encDat d), .st (encDat d)] (Bo true) := by
 have ih : ∀ x ∈ d.kids, PC zP 9 [.st (encDat x), .st (encDat x)] (Bo true) := fun x hx => sameDat_s x (h.kid x hx)
 have hn := sameNodes_s d.nodes d.root fun x hx => (h.x x hx).2
 have hkk : ∀ x : KeyD, sameK x x = true := fun x => by unfold sameK; simp
 rw [encDat_eq d]
 refine PCB.ob Tryz.func9 Tryz.ntmps9 Tryz.results9 ?_
 simp only [List.append_eq, List.cons_append, List.nil_append]
 repeat' (first | (simp only [go_sem, D, E, H, J, N, O, U, reduceCtorEq, V, W, Y, Z, zL, lB, dT, BEq.rfl] <;> refine nf ?_) | (refine stp ?_; intro K hK) | (apply hK; clear hK K) | refine stn ?_ | (with_reducible refine ⟨_, hn, ?_⟩) | refine stq ?_ | fail)
 refine xE 2 4 rfl rfl fun hlen0 => ?_
 (try rw [lB] at hlen0)
 refine xC (S := Unit) (d.keys) encKey (fun k s => (97, I .i64 (k : Nat)) :: []) (fun k s => []) [2, 3, 96] [2, 3] (fun k u => Is (0 : Nat) 0) (()) (by refine st ?_; exact Gh.ts []) ?_ ?_ ?_
 ·rfl
 ·intro k u x hlt hx hx' hb hok
  refine st ?_
  repeat' (first | (simp only [go_sem, D, E, H, J, N, O, U, reduceCtorEq, V, W, Y, Z, zL, lB, hkk, hb] <;> refine nf ?_) | (refine stp ?_; intro K hK) | (apply hK; clear hK K) | refine stn ?_ | (with_reducible refine ⟨by omega, encKey x, hx', ?_⟩) | (refine stp' ?_; intro K hK) | (clear hK K))
  all_goals (rw [wrap_succ hlt hlen0])
  all_goals (refine ⟨(), ?_, Gh.ts []⟩)
  all_goals rfl
 ·intro u hb hok
  refine st ?_
  repeat' (first | (simp only [go_sem, D, E, H, J, N, O, U, reduceCtorEq, V, W, Y, Z, zL, lB, hb] <;> refine nf ?_) | (refine stp ?_; intro K hK) | (apply hK; clear hK K) | refine stn ?_ | (clear hK K))
  refine xE 2 3 rfl rfl fun hlen1 => ?_
  (try rw [lB] at hlen1)
  refine xC (S := Unit) (d.kids) encDat (fun k s => (115, I .i64 (k : Nat)) :: []) (fun k s => []) [2, 3, 114] [2, 3] (fun k u => Is (0 : Nat) 0) (()) (by refine st ?_; exact Gh.ts []) ?_ ?_ ?_
  ·rfl
  ·intro k u x hlt hx hx' hb2 hok
   refine st ?_
   have hix := ih x (lP hx)
   repeat' (first | (simp only [go_sem, D, E, H, J, N, O, U, reduceCtorEq, V, W, Y, Z, zL, lB, hb2] <;> refine nf ?_) | (refine stp ?_; intro K hK) | (apply hK; clear hK K) | refine stn ?_ | (with_reducible first | refine ⟨_, hix, ?_⟩ | refine ⟨by omega, encDat x, hx', ?_⟩) | (refine stp' ?_; intro K hK) | (clear hK K))
   all_goals (rw [wrap_succ hlt hlen1])
   all_goals (refine ⟨(), ?_, Gh.ts []⟩)
   all_goals rfl
  ·intro u hb2 hok
   refine st ?_
   repeat' (first | (simp only [go_sem, D, E, H, J, N, O, U, reduceCtorEq, V, W, Y, Z, zL, lB, hb2] <;> refine nf ?_) | (refine stp ?_; intro K hK) | (apply hK; clear hK K) | refine stn ?_ | (clear hK K))
   all_goals (first | exact nn | refine fin0 ?_)
termination_by SizeOf.sizeOf d
decreasing_by
 cases d; simp only at hx; have := List.sizeOf_lt_of_mem hx; simp; omega
end Go.Proofs.YtajfdbdklphonaaGreat
namespace Go.Sx
variable {P : Program}
theorem AWP.join {n : Nat} {Q : Exit → AS → Prop} {S : Type} {id : Nat} {l : Array Oper} {d : Bool} {x y : Code} {env : Env} {B : Bx} (chg : S → Env) (chB : S → Bx) (ks kb : List Nat) (ok : S → Prop)
    (hx : AWP P n (.seq (.region id l d) x) ⟨env, B⟩ (Then (fun σ' => ∃ s, ok s ∧ Gh n σ' ⟨chg s ++ keepL env ks, chB s ++ keepB B kb⟩) Q))
    (hy : ∀ s, ok s → AWP P n y ⟨chg s ++ keepL env ks, chB s ++ keepB B kb⟩ Q) : AWP P n (.seq (.seq (.region id l d) x) y) ⟨env, B⟩ Q := by
  intro κ M0 a w hs
  refine wp_seq (wp_mono (hx κ M0 a w hs) ?_)
  rintro e a' w' ⟨σ', s, q⟩
  cases e with
  | normal =>
    obtain ⟨s', hok, hg⟩ := q
    exact hy s' hok κ M0 a' w' (hg κ M0 a' w' s)
  | _ => exact ⟨σ', s, q⟩
end Go.Sx
set_option maxRecDepth 20000
set_option maxHeartbeats 8000000
namespace Go.Proofs.YtajfdbdklphonaaGreat
open Go Go.Sx
structure Grd where
 kind : Int
 name : List UInt8
 num : Int
 text : List UInt8
 key : KeyD
 kids : List Grd
mutual
def encG : Grd → List C
 | ⟨kind, name, num, text, key, kids⟩ => [.int .i64 kind, .str name, .int .i64 num, .str text, .int .i64 key.kind, .str key.text, .sl 7 (encGs kids)]
def encGs : List Grd → List (List C)
 | [] => []
 | g :: l => encG g :: encGs l
end
theorem encGs_eq : ∀ l : List Grd, encGs l = l.map encG
 | [] => by simp only [encGs, lF]
 | g :: l => by simp only [encGs, List.map_cons, encGs_eq l]
theorem encG_eq (g : Grd) : encG g = [.int .i64 g.kind, .str g.name, .int .i64 g.num, .str g.text, .int .i64 g.key.kind, .str g.key.text, .sl 7 (g.kids.map encG)] := by cases g; simp only [encG, encGs_eq]
theorem encG_lit (x : Grd) : encG x = [.int .i64 x.kind, .str x.name, .int .i64 x.num, .str x.text, .int .i64 x.key.kind, .str x.key.text, .sl 7 (x.kids.map encG)] := encG_eq x
@[go_sem] theorem encG_cut (x : Grd) : cutC 7 (encG x) = some (encG x, []) := by rw [encG_eq]; rfl
@[go_sem low] theorem encG_cutk (x : Grd) (k : Nat) : cutC k (encG x) = cutC k [.int .i64 x.kind, .str x.name, .int .i64 x.num, .str x.text, .int .i64 x.key.kind, .str x.key.text, .sl 7 (x.kids.map encG)] := by rw [encG_lit]
@[go_sem] theorem encG_cutm (x : Grd) : cutC 7 ((encG x).map Cell.dat) = some ((encG x).map Cell.dat, []) := by rw [encG_eq]; rfl
@[go_sem low] theorem encG_cutmk (x : Grd) (k : Nat) : cutC k ((encG x).map Cell.dat) = cutC k (([.int .i64 x.kind, .str x.name, .int .i64 x.num, .str x.text, .int .i64 x.key.kind, .str x.key.text, .sl 7 (x.kids.map encG)] : List C).map Cell.dat) := by rw [encG_lit]
@[go_sem] theorem encG_soft (x : Grd) : (encG x).map C.soft = encG x := by rw [encG_eq]; rfl
@[go_sem] theorem encG_len (x : Grd) : lenIs 7 (encG x) = true := by rw [encG_eq]; rfl
@[go_sem high] theorem encG_takeP (x : Grd) (n : Nat) (K : T → Prop) : takeP false n (encG x) K = K (.one (.dat (.int .i64 x.kind))) := by rw [encG_lit]; rfl
@[go_sem high] theorem encG_takeT (x : Grd) (n : Nat) (K : T → Prop) : takeT false n ((encG x).map Cell.dat) K = K (.one (.dat (.int .i64 x.kind))) := by rw [encG_lit]; rfl
@[go_sem] theorem encG_lenm (x : Grd) : lenIs 7 ((encG x).map Cell.dat) = true := by rw [encG_eq]; rfl
mutual
def cntG : Grd → Nat
 | ⟨_, _, _, _, _, kids⟩ => 1 + cntGs kids
def cntGs : List Grd → Nat
 | [] => 0
 | g :: l => cntG g + cntGs l
end
theorem cntG_eq (g : Grd) : cntG g = 1 + cntGs g.kids := by cases g; simp only [cntG]
theorem cntGs_mem : ∀ {l : List Grd} {g : Grd}, g ∈ l → cntG g ≤ cntGs l
 | x :: l, g, h => by
  simp only [cntGs]
  rcases List.mem_cons.1 h with rfl | h
  ·omega
  ·have := cntGs_mem h; omega
theorem cntGs_take {l : List Grd} {k : Nat} {x : Grd} (hx : l[k]? = some x) : cntGs (l.take (k + 1)) = cntGs (l.take k) + cntG x := by
 induction l generalizing k with
 | nil => simp at hx
 | cons y l ih =>
  cases k with
  | zero => simp at hx; subst hx; simp [cntGs]
  | succ k => have := ih (k := k) (by simpa using hx); simp only [lG, cntGs, this]; omega
theorem cntGs_le (l : List Grd) (k : Nat) : cntGs (l.take k) ≤ cntGs l := by
 induction l generalizing k with
 | nil => simp
 | cons y l ih => cases k with
  | zero => simp [cntGs]
  | succ k => have := ih k; simp only [lG, cntGs]; omega
abbrev GSm (g : Grd) : Prop := cntG g ≤ 100000000
theorem cnt_kid {g k : Grd} (h : k ∈ g.kids) : cntG k < cntG g := by have := cntG_eq g; have := cntGs_mem h; omega
theorem GSm.kid {g : Grd} (h : GSm g) : ∀ k ∈ g.kids, GSm k := fun k hk => by have := cnt_kid hk; unfold GSm at *; omega
theorem wrap_addG {a b : Nat} (h : a + b ≤ 1000000000) : IntKind.i64.wrap ((a : Int) + (b : Int)) = ((a + b : Nat) : Int) := by rw [w64 (by omega)]; omega
abbrev Gt (g : Grd) : T := .st (encG g)
theorem count_g (g : Grd) (hg : GSm g) : PC zP 109 [Gt g] (I .i64 (cntG g)) := by
 have ih : ∀ k ∈ g.kids, PC zP 109 [Gt k] (I .i64 (cntG k)) := fun k hk => count_g k (hg.kid k hk)
 unfold GSm at hg
 have hce := cntG_eq g
 refine PCB.ob Tryz.func109 Tryz.ntmps109 Tryz.results109 ?_
 repeat' (first | (simp only [go_sem, D, E, H, J, N, O, U, reduceCtorEq, V, W, Y, Z, zL, encG_eq g, lB] <;> refine nf ?_) | (refine stp ?_; intro K hK) | (apply hK; clear hK K) | refine stn ?_ | fail)
 refine xF 7 rfl fun hlen0 => ?_
 (try rw [lB] at hlen0)
 refine xC (S := Nat) (g.kids) encG (fun k s => (9, I .i64 (k : Nat)) :: [(3, I .i64 (s : Nat))]) (fun k s => []) [7, 8] [] (fun k s => Is s (1 + cntGs (g.kids.take k))) (1) (by simp only [go_sem, D, E, H, J, N, O, U, reduceCtorEq, V, W, Y, Z, zL, encG_eq]; exact Gh.ts []) ?_ ?_ ?_
 ·simp [Is, cntGs]
 ·intro k s x hlt hx hx' hb hok
  unfold Is at hok
  refine st ?_
  have hix := ih x (lP hx)
  have hct := cntGs_take hx
  have hcl := cntGs_le g.kids (k + 1)
  have hw := wrap_addG (a := s) (b := cntG x) (by omega)
  repeat' (first | (simp only [go_sem, D, E, H, J, N, O, U, reduceCtorEq, V, W, Y, Z, zL, lB, hb, hw] <;> refine nf ?_) | (refine stp ?_; intro K hK) | (apply hK; clear hK K) | refine stn ?_ | (with_reducible first | refine ⟨_, hix, ?_⟩ | refine ⟨by omega, encG x, hx', ?_⟩) | refine stq ?_ | (clear hK K))
  all_goals (rw [wrap_succ hlt hlen0])
  all_goals (refine ⟨s + cntG x, ?_, Gh.ts []⟩)
  all_goals (show _ = _; omega)
 intro s0 hb0 hok0
 refine st ?_
 rw [Is, lK] at hok0
 repeat' (first | (simp only [go_sem, D, E, H, J, N, O, U, reduceCtorEq, V, W, Y, Z, zL, lB, hb0] <;> refine nf ?_) | (refine stp ?_; intro K hK) | (apply hK; clear hK K) | refine stn ?_ | (clear hK K))
 all_goals (refine fin0 ?_; rw [show cntG g = s0 by omega])
termination_by cntG g
decreasing_by exact cnt_kid hk
theorem guards_c (g : Grd) (hg : GSm g) : PC zP 127 [Gt g] (I .i64 (cntG g)) := by
 have ih : ∀ k ∈ g.kids, PC zP 127 [Gt k] (I .i64 (cntG k)) := fun k hk => guards_c k (hg.kid k hk)
 unfold GSm at hg
 have hce := cntG_eq g
 refine PCB.ob Tryz.func127 Tryz.ntmps127 Tryz.results127 ?_
 repeat' (first | (simp only [go_sem, D, E, H, J, N, O, U, reduceCtorEq, V, W, Y, Z, zL, encG_eq g, lB] <;> refine nf ?_) | (refine stp ?_; intro K hK) | (apply hK; clear hK K) | refine stn ?_ | fail)
 refine xE 1 6 rfl rfl fun hlen0 => ?_
 (try rw [lB] at hlen0)
 refine xC (S := Nat) (g.kids) encG (fun k s => (4, I .i64 (k : Nat)) :: [(3, I .i64 (s : Nat))]) (fun k s => []) [1] [1] (fun k s => Is s (1 + cntGs (g.kids.take k))) (1) (by simp only [go_sem, D, E, H, J, N, O, U, reduceCtorEq, V, W, Y, Z, zL, encG_eq]; exact Gh.ts []) ?_ ?_ ?_
 ·simp [Is, cntGs]
 ·intro k s x hlt hx hx' hb hok
  unfold Is at hok
  refine st ?_
  have hix := ih x (lP hx)
  have hct := cntGs_take hx
  have hcl := cntGs_le g.kids (k + 1)
  have hw := wrap_addG (a := s) (b := cntG x) (by omega)
  repeat' (first | (simp only [go_sem, D, E, H, J, N, O, U, reduceCtorEq, V, W, Y, Z, zL, encG_eq g, lB, hb, hw] <;> refine nf ?_) | (refine stp ?_; intro K hK) | (apply hK; clear hK K) | refine stn ?_ | (with_reducible first | refine ⟨_, hix, ?_⟩ | refine ⟨by omega, encG x, hx', ?_⟩) | refine stq ?_ | (clear hK K))
  all_goals (rw [wrap_succ hlt hlen0])
  all_goals (refine ⟨s + cntG x, ?_, Gh.ts []⟩)
  all_goals (show _ = _; omega)
 intro s0 hb0 hok0
 refine st ?_
 rw [Is, lK] at hok0
 repeat' (first | (simp only [go_sem, D, E, H, J, N, O, U, reduceCtorEq, V, W, Y, Z, zL, encG_eq g, lB, hb0] <;> refine nf ?_) | (refine stp ?_; intro K hK) | (apply hK; clear hK K) | refine stn ?_ | (clear hK K))
 all_goals (refine fin0 ?_; rw [show cntG g = s0 by omega])
termination_by cntG g
decreasing_by exact cnt_kid hk
theorem indexFuncG0 (F : FuncId) (p : Grd → Bool) (l : List Grd) (hp : ∀ g ∈ l, PC zP F [Gt g] (Bo (p g))) :
    PC zP 107 [.one (.dat (.sl 7 (l.map encG))), .one (.dat (.fn F))] (I .i64 (findI p 0 l)) := by
  refine PCB.ob Tryz.func107 Tryz.ntmps107 Tryz.results107 ?_
  repeat' (first | (simp only [go_sem, D, E, H, J, N, O, U, reduceCtorEq, V, W, Y, Z, zL, lB] <;> refine nf ?_) | (refine stp ?_; intro K hK) | (apply hK; clear hK K) | refine stn ?_ | fail)
  refine xF 0 rfl fun hlen0 => ?_
  (try rw [lB] at hlen0)
  refine xC (S := Unit) (l) encG (fun k s => (8, I .i64 (k : Nat)) :: []) (fun k s => []) [0, 1, 7] [] (fun k s => findI p 0 l = findI p k (l.drop k)) (()) (by refine st ?_; exact Gh.ts []) ?_ ?_ ?_
  · rfl
  · intro k s x hlt hx hx' hb hok
    refine st ?_
    have hix := hp x (lP hx)
    rw [findI_drop p l k x hx] at hok
    cases hz : p x <;> simp only [hz, cT, cF] at hok
    ·
      repeat' (first | (simp only [go_sem, D, E, H, J, N, O, U, reduceCtorEq, V, W, Y, Z, zL, lB, hb, hz] <;> refine nf ?_) | (refine stp ?_; intro K hK) | (apply hK; clear hK K) | refine stn ?_ | (with_reducible first | refine ⟨_, hix, ?_⟩ | refine ⟨by omega, encG x, hx', ?_⟩) | refine stq ?_ | (clear hK K))
      all_goals (rw [wrap_succ hlt hlen0])
      all_goals (refine ⟨(), ?_, Gh.ts []⟩)
      all_goals exact hok
    ·
      repeat' (first | (simp only [go_sem, D, E, H, J, N, O, U, reduceCtorEq, V, W, Y, Z, zL, lB, hb, hz] <;> refine nf ?_) | (refine stp ?_; intro K hK) | (apply hK; clear hK K) | refine stn ?_ | (with_reducible first | refine ⟨_, hix, ?_⟩ | refine ⟨by omega, encG x, hx', ?_⟩) | refine stq ?_ | (clear hK K))
      all_goals (first | exact lf | (refine fin0 ?_; simp only [hok, zb, cT, cF, dT, dF] <;> rfl))
  intro s0 hb0 hok0
  refine st ?_
  rw [List.drop_length] at hok0
  repeat' (first | (simp only [go_sem, D, E, H, J, N, O, U, reduceCtorEq, V, W, Y, Z, zL, lB, hb0] <;> refine nf ?_) | (refine stp ?_; intro K hK) | (apply hK; clear hK K) | refine stn ?_ | (clear hK K))
  all_goals (refine fin0 ?_; rw [hok0]; rfl)
theorem containsG0 (F : FuncId) (p : Grd → Bool) (l : List Grd) (hp : ∀ g ∈ l, PC zP F [Gt g] (Bo (p g))) :
    PC zP 80 [.one (.dat (.sl 7 (l.map encG))), .one (.dat (.fn F))] (Bo (l.any p)) := by
  have h := indexFuncG0 F p l hp
  refine PCB.ob Tryz.func80 Tryz.ntmps80 Tryz.results80 ?_
  repeat' (first | (simp only [go_sem, D, E, H, J, N, O, U, reduceCtorEq, V, W, Y, Z, zL] <;> refine nf ?_) | (refine stp ?_; intro K hK) | (apply hK; clear hK K) | refine stn ?_ | (with_reducible refine ⟨_, h, ?_⟩) | refine stq ?_ | fail)
  all_goals (refine fin0 ?_; rw [show decide (0 ≤ findI p 0 l) = l.any p from by rw [← Bool.coe_iff_coe]; simpa using findI_any p l 0])
theorem indexFuncG1 (F : FuncId) (r1 : List C) (p : Grd → Bool) (l : List Grd) (hp : ∀ g ∈ l, PC zP F [Gt g, .one (.ref r1)] (Bo (p g))) :
    PC zP 107 [.one (.dat (.sl 7 (l.map encG))), .one (.dat (.fnc F [r1]))] (I .i64 (findI p 0 l)) := by
  refine PCB.ob Tryz.func107 Tryz.ntmps107 Tryz.results107 ?_
  repeat' (first | (simp only [go_sem, D, E, H, J, N, O, U, reduceCtorEq, V, W, Y, Z, zL, lB] <;> refine nf ?_) | (refine stp ?_; intro K hK) | (apply hK; clear hK K) | refine stn ?_ | fail)
  refine xF 0 rfl fun hlen0 => ?_
  (try rw [lB] at hlen0)
  refine xC (S := Unit) (l) encG (fun k s => (8, I .i64 (k : Nat)) :: []) (fun k s => []) [0, 1, 7] [] (fun k s => findI p 0 l = findI p k (l.drop k)) (()) (by refine st ?_; exact Gh.ts []) ?_ ?_ ?_
  · rfl
  · intro k s x hlt hx hx' hb hok
    refine st ?_
    have hix := hp x (lP hx)
    rw [findI_drop p l k x hx] at hok
    cases hz : p x <;> simp only [hz, cT, cF] at hok
    ·
      repeat' (first | (simp only [go_sem, D, E, H, J, N, O, U, reduceCtorEq, V, W, Y, Z, zL, lB, hb, hz] <;> refine nf ?_) | (refine stp ?_; intro K hK) | (apply hK; clear hK K) | refine stn ?_ | (with_reducible first | refine ⟨_, hix, ?_⟩ | refine ⟨by omega, encG x, hx', ?_⟩) | refine stq ?_ | (clear hK K))
      all_goals (rw [wrap_succ hlt hlen0])
      all_goals (refine ⟨(), ?_, Gh.ts []⟩)
      all_goals exact hok
    ·
      repeat' (first | (simp only [go_sem, D, E, H, J, N, O, U, reduceCtorEq, V, W, Y, Z, zL, lB, hb, hz] <;> refine nf ?_) | (refine stp ?_; intro K hK) | (apply hK; clear hK K) | refine stn ?_ | (with_reducible first | refine ⟨_, hix, ?_⟩ | refine ⟨by omega, encG x, hx', ?_⟩) | refine stq ?_ | (clear hK K))
      all_goals (first | exact lf | (refine fin0 ?_; simp only [hok, zb, cT, cF, dT, dF] <;> rfl))
  intro s0 hb0 hok0
  refine st ?_
  rw [List.drop_length] at hok0
  repeat' (first | (simp only [go_sem, D, E, H, J, N, O, U, reduceCtorEq, V, W, Y, Z, zL, lB, hb0] <;> refine nf ?_) | (refine stp ?_; intro K hK) | (apply hK; clear hK K) | refine stn ?_ | (clear hK K))
  all_goals (refine fin0 ?_; rw [hok0]; rfl)
theorem containsG1 (F : FuncId) (r1 : List C) (p : Grd → Bool) (l : List Grd) (hp : ∀ g ∈ l, PC zP F [Gt g, .one (.ref r1)] (Bo (p g))) :
    PC zP 80 [.one (.dat (.sl 7 (l.map encG))), .one (.dat (.fnc F [r1]))] (Bo (l.any p)) := by
  have h := indexFuncG1 F r1 p l hp
  refine PCB.ob Tryz.func80 Tryz.ntmps80 Tryz.results80 ?_
  repeat' (first | (simp only [go_sem, D, E, H, J, N, O, U, reduceCtorEq, V, W, Y, Z, zL] <;> refine nf ?_) | (refine stp ?_; intro K hK) | (apply hK; clear hK K) | refine stn ?_ | (with_reducible refine ⟨_, h, ?_⟩) | refine stq ?_ | fail)
  all_goals (refine fin0 ?_; rw [show decide (0 ≤ findI p 0 l) = l.any p from by rw [← Bool.coe_iff_coe]; simpa using findI_any p l 0])
theorem indexFuncG2 (F : FuncId) (r1 r2 : List C) (p : Grd → Bool) (l : List Grd) (hp : ∀ g ∈ l, PC zP F [Gt g, .one (.ref r1), .one (.ref r2)] (Bo (p g))) :
    PC zP 107 [.one (.dat (.sl 7 (l.map encG))), .one (.dat (.fnc F [r1, r2]))] (I .i64 (findI p 0 l)) := by
  refine PCB.ob Tryz.func107 Tryz.ntmps107 Tryz.results107 ?_
  repeat' (first | (simp only [go_sem, D, E, H, J, N, O, U, reduceCtorEq, V, W, Y, Z, zL, lB] <;> refine nf ?_) | (refine stp ?_; intro K hK) | (apply hK; clear hK K) | refine stn ?_ | fail)
  refine xF 0 rfl fun hlen0 => ?_
  (try rw [lB] at hlen0)
  refine xC (S := Unit) (l) encG (fun k s => (8, I .i64 (k : Nat)) :: []) (fun k s => []) [0, 1, 7] [] (fun k s => findI p 0 l = findI p k (l.drop k)) (()) (by refine st ?_; exact Gh.ts []) ?_ ?_ ?_
  · rfl
  · intro k s x hlt hx hx' hb hok
    refine st ?_
    have hix := hp x (lP hx)
    rw [findI_drop p l k x hx] at hok
    cases hz : p x <;> simp only [hz, cT, cF] at hok
    ·
      repeat' (first | (simp only [go_sem, D, E, H, J, N, O, U, reduceCtorEq, V, W, Y, Z, zL, lB, hb, hz] <;> refine nf ?_) | (refine stp ?_; intro K hK) | (apply hK; clear hK K) | refine stn ?_ | (with_reducible first | refine ⟨_, hix, ?_⟩ | refine ⟨by omega, encG x, hx', ?_⟩) | refine stq ?_ | (clear hK K))
      all_goals (rw [wrap_succ hlt hlen0])
      all_goals (refine ⟨(), ?_, Gh.ts []⟩)
      all_goals exact hok
    ·
      repeat' (first | (simp only [go_sem, D, E, H, J, N, O, U, reduceCtorEq, V, W, Y, Z, zL, lB, hb, hz] <;> refine nf ?_) | (refine stp ?_; intro K hK) | (apply hK; clear hK K) | refine stn ?_ | (with_reducible first | refine ⟨_, hix, ?_⟩ | refine ⟨by omega, encG x, hx', ?_⟩) | refine stq ?_ | (clear hK K))
      all_goals (first | exact lf | (refine fin0 ?_; simp only [hok, zb, cT, cF, dT, dF] <;> rfl))
  intro s0 hb0 hok0
  refine st ?_
  rw [List.drop_length] at hok0
  repeat' (first | (simp only [go_sem, D, E, H, J, N, O, U, reduceCtorEq, V, W, Y, Z, zL, lB, hb0] <;> refine nf ?_) | (refine stp ?_; intro K hK) | (apply hK; clear hK K) | refine stn ?_ | (clear hK K))
  all_goals (refine fin0 ?_; rw [hok0]; rfl)
theorem containsG2 (F : FuncId) (r1 r2 : List C) (p : Grd → Bool) (l : List Grd) (hp : ∀ g ∈ l, PC zP F [Gt g, .one (.ref r1), .one (.ref r2)] (Bo (p g))) :
    PC zP 80 [.one (.dat (.sl 7 (l.map encG))), .one (.dat (.fnc F [r1, r2]))] (Bo (l.any p)) := by
  have h := indexFuncG2 F r1 r2 p l hp
  refine PCB.ob Tryz.func80 Tryz.ntmps80 Tryz.results80 ?_
  repeat' (first | (simp only [go_sem, D, E, H, J, N, O, U, reduceCtorEq, V, W, Y, Z, zL] <;> refine nf ?_) | (refine stp ?_; intro K hK) | (apply hK; clear hK K) | refine stn ?_ | (with_reducible refine ⟨_, h, ?_⟩) | refine stq ?_ | fail)
  all_goals (refine fin0 ?_; rw [show decide (0 ≤ findI p 0 l) = l.any p from by rw [← Bool.coe_iff_coe]; simpa using findI_any p l 0])
end Go.Proofs.YtajfdbdklphonaaGreat
set_option maxRecDepth 20000
set_option maxHeartbeats 16000000
namespace Go.Proofs.YtajfdbdklphonaaGreat
open Go Go.Sx
def atD (d : Dat) (k : KeyD) : Dat := bif decide (findI (fun x => sameK k x) 0 d.keys < 0) then zeroDat else d.kids.getD (findI (fun x => sameK k x) 0 d.keys).toNat zeroDat
theorem atD_at {d : Dat} {k : KeyD} {j : Nat} {y : Dat} (h : findI (fun x => sameK k x) 0 d.keys = (j : Int)) (hy : d.kids[j]? = some y) : atD d k = y := by
 unfold atD
 rw [h, show decide ((j : Int) < 0) = false from by rw [decide_eq_false_iff_not]; omega, cF, Int.toNat_natCast, List.getD_eq_getElem?_getD, hy]; rfl
theorem atD_no {d : Dat} {k : KeyD} (h : findI (fun x => sameK k x) 0 d.keys = -1) : atD d k = zeroDat := by
 unfold atD; rw [h]; rfl
theorem refGet_c (d : Dat) (k : KeyD) (hk : d.kind = 8) (hl : d.keys.length = d.kids.length) :
    PC zP 55 [Dt d, .st (encKey k)] (.tup [Dt (atD d k), Bo (decide (0 ≤ findI (fun x => sameK k x) 0 d.keys))]) := by
  refine PCB.ob Tryz.func55 Tryz.ntmps55 Tryz.results55 ?_
  repeat' (first | (simp only [go_sem, D, E, H, J, N, O, U, reduceCtorEq, V, W, Y, Z, zL, encDat_eq d, hk, lB] <;> refine nf ?_) | (refine stp ?_; intro K hK) | (apply hK; clear hK K) | refine stn ?_ | fail)
  refine xE 2 4 rfl rfl fun hlen0 => ?_
  (try rw [lB] at hlen0)
  refine xC (S := Unit) (d.keys) encKey (fun k s => (15, I .i64 (k : Nat)) :: []) (fun k s => []) [2, 3, 4, 13, 14] [2, 3, 4] (fun j u => findI (fun x => sameK k x) 0 d.keys = findI (fun x => sameK k x) j (d.keys.drop j)) (()) (by simp only [go_sem, D, E, H, J, N, O, U, reduceCtorEq, V, W, Y, Z, zL, encDat_eq d, hk]; exact Gh.ts []) ?_ ?_ ?_
  · rfl
  · intro j u x hlt hx hx' hb hok
    refine st ?_
    rw [findI_drop _ d.keys j x hx] at hok
    cases hz : sameK k x <;> simp only [hz, cT, cF] at hok <;> rw [sameK_comm] at hz
    ·
      repeat' (first | (simp only [go_sem, D, E, H, J, N, O, U, reduceCtorEq, V, W, Y, Z, zL, encDat_eq d, hk, lB, hb, hz] <;> refine nf ?_) | (refine stp ?_; intro K hK) | (apply hK; clear hK K) | refine stn ?_ | (with_reducible refine ⟨by omega, encKey x, hx', ?_⟩) | (clear hK K))
      all_goals (rw [wrap_succ hlt hlen0])
      all_goals (refine ⟨(), ?_, Gh.ts []⟩)
      all_goals exact hok
    · obtain ⟨y, hy, hy', hb2, hd2⟩ := at_lt (enc := encDat) (show j < d.kids.length by omega)
      have hd3 : decide ((j : Int) < ((d.kids.length : Nat) : Int)) = true := by rw [decide_eq_true_eq]; omega
      repeat' (first | (simp only [go_sem, D, E, H, J, N, O, U, reduceCtorEq, V, W, Y, Z, zL, encDat_eq d, hk, lB, hb, hb2, hz, hd3] <;> refine nf ?_) | (refine stp ?_; intro K hK) | (apply hK; clear hK K) | refine stn ?_ | (with_reducible first | refine ⟨by omega, encKey x, hx', ?_⟩ | refine ⟨by omega, encDat y, hy', ?_⟩) | (clear hK K))
      all_goals (first | exact nn | refine fin0 ?_)
      all_goals (rw [atD_at hok hy, hok, show decide (0 ≤ (j : Int)) = true from by rw [decide_eq_true_eq]; omega])
  intro s0 hb0 hok0
  refine st ?_
  rw [List.drop_length] at hok0
  repeat' (first | (simp only [go_sem, D, E, H, J, N, O, U, reduceCtorEq, V, W, Y, Z, zL, encDat_eq d, hk, lB, hb0] <;> refine nf ?_) | (refine stp ?_; intro K hK) | (apply hK; clear hK K) | refine stn ?_ | (clear hK K))
  all_goals (first | exact nn | refine fin0 ?_)
  all_goals (rw [atD_no hok0, hok0]; rfl)
abbrev NE := List (List UInt8 × Dat)
def partD (kind : Int) (keys : List KeyD) (d : Dat) (i : Nat) : Dat :=
 bif decide (kind = 7) || decide (kind = 8) then d.kids.getD i zeroDat else bif decide (kind = 9) then atD d (keys.getD i ⟨0, []⟩) else d
mutual
def namD : Pat → Dat → NE
 | ⟨kind, num, text, kids, keys⟩, d => (bif nameP kind then [(text, d)] else []) ++ namDs kids (partD kind keys d) 0
def namDs : List Pat → (Nat → Dat) → Nat → NE
 | [], _, _ => []
 | g :: l, f, i => namD g (f i) ++ namDs l f (i + 1)
end
theorem namD_eq (g : Pat) (d : Dat) : namD g d = (bif nameP g.kind then [(g.text, d)] else []) ++ namDs g.kids (partD g.kind g.keys d) 0 := by cases g; rw [namD]
end Go.Proofs.YtajfdbdklphonaaGreat