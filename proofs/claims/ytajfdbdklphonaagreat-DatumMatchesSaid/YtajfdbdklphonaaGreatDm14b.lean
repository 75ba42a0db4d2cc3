/- Lemmas; conditions: as each states. -/
import Derived.Test.YtajfdbdklphonaaGreatDm13bp
import Derived.Test.YtajfdbdklphonaaGreatDm14a
open Go.Proofs.Tryz renaming prog → zP
open List renaming length_append → lA, length_map → lB, map_cons → lE, mem_singleton → lN, mem_of_getElem? → lP
open Go.Sx.AWP renaming genR → xA, range → xC, gh → xD
open Nat renaming reduceBEq → D, reduceBNe → E, reduceAdd → H, reduceSub → J, reduceMul → N, reduceLeDiff → O, reduceLT → U, reduceEqDiff → V
open Int renaming reduceToNat → W, reduceLE → Y, reduceLT → Z, reduceEq → zL
open Bool renaming not_eq_true' → zM, not_eq_false' → zN
set_option linter.unusedVariables false
set_option linter.unusedSimpArgs false
set_option maxRecDepth 20000
set_option maxHeartbeats 16000000
namespace Go.Proofs.YtajfdbdklphonaaGreat
open Go Go.Sx
theorem soundP_sm (g : Pat) : PSm (soundP g) := by have := okP_cnt (soundP_ok g); unfold PSm; omega
theorem compact_full (l : List (List UInt8)) (h : l.length ≤ (Lib.compact l).length) : Lib.compact l = l := by
 unfold Lib.compact Lib.compactUpTo at *
 rw [lB] at h
 have hf : (List.range l.length).filter (Lib.keeps l.toArray) = List.range l.length :=
  List.Sublist.eq_of_length_le List.filter_sublist (by rw [List.length_range]; exact h)
 rw [hf]
 apply List.ext_getElem
 ·simp
 ·intro i h1 h2
  simp [h2]
theorem sorted_nodup (l : List (List UInt8)) (h : l.length ≤ (sortedV l).length) : (l.mergeSort fun x y => decide (x ≤ y)) = sortedV l := by
 rw [← compact_sort] at h ⊢
 exact (compact_full _ (by rw [List.length_mergeSort]; exact h)).symm
def namesP (g : Pat) : List (List UInt8) := sortedV (collP (soundP g))
theorem NamesP_c (g : Pat) (hg : PSm g) : PC zP 21 [Pt g] (SsP (namesP g)) := by
 have h1 := soundP_c g hg
 have hs := soundP_sm g
 have h2 := collectP_n (soundP g) hs
 have hl : (collP (soundP g)).length ≤ 100000000 := Nat.le_trans (collP_len _) hs
 have h3 : PCBk zP 47 [.one (.own 6 (collP (soundP g)).length)] 6 (.row 1 ((collP (soundP g)).map Sx.encStr)) (.tup []) (.row 1 ((namesP g).map Sx.encStr)) := by
  have h := PCBk.own1 6 (sortStr_c Go.Proofs.Tryz.sortS (collP (soundP g)) (by omega))
  rw [sorted_nodup _ (okP_dup (soundP_ok g))] at h
  exact h
 have hlen : (collP (soundP g)).length = (namesP g).length := by
  have h := congrArg List.length (sorted_nodup _ (okP_dup (soundP_ok g)))
  rwa [List.length_mergeSort] at h
 rw [hlen] at h2 h3
 refine PCB.ob Tryz.func21 Tryz.ntmps21 Tryz.results21 ?_
 refine AWP.ghQ ?_
 repeat' (first | (simp only [go_sem, D, E, H, J, N, O, U, reduceCtorEq, V, W, Y, Z, zL, lB] <;> refine nf ?_) | (refine stp ?_; intro K hK) | (apply hK; clear hK K) | refine stn ?_ | (with_reducible first | refine ⟨_, h1, ?_⟩ | refine Or.inr (Or.inl ⟨_, _, h2, ?_⟩)) | (apply Or.inr; refine ⟨6, _, _, _, h3, rfl, ?_⟩; simp only [go_sem, D, E, H, J, N, O, U, reduceCtorEq, V, W, Y, Z, zL]) | refine stq ?_ | fail)
 refine ⟨_, Gh.fs 6, ?_⟩
 simp only [go_sem, D, E, H, J, N, O, U, reduceCtorEq, V, W, Y, Z, zL, lB]
 all_goals (first | exact nn | refine fin0 ?_)
theorem PatternNames_c (g : Pat) (hg : PSm g) : PC zP 53 [Pt g] (SsP (namesP g)) := by
 have h1 := taken_c g hg
 have hs := soundP_sm g
 have h2 := occurrences_c (soundP g) hs
 have h3 := sorted_c (collP (soundP g)) (by have := collP_len (soundP g); have := okP_cnt (soundP_ok g); omega)
 refine PCB.ob Tryz.func53 Tryz.ntmps53 Tryz.results53 ?_
 repeat' (first | (simp only [go_sem, D, E, H, J, N, O, U, reduceCtorEq, V, W, Y, Z, zL] <;> refine nf ?_) | (refine stp ?_; intro K hK) | (apply hK; clear hK K) | refine stn ?_ | (with_reducible first | refine ⟨_, h1, ?_⟩ | refine ⟨_, h2, ?_⟩ | refine ⟨_, h3, ?_⟩) | refine stq ?_ | fail)
 all_goals exact lf
@[go_sem] theorem mp92 : mpT zP 94 = some ([.int .i64 0, .int .i64 0, .str [], .nil 7, .nil 2, .nil 9, .nil 1], true) := by kernel_rfl
abbrev ME := List (List UInt8 × Val)
def encM (m : ME) : List (List UInt8 × List C) := m.map fun p => (p.1, encVal p.2)
def putV (k : List UInt8) (v : Val) : ME → ME
 | [] => [(k, v)]
 | p :: m => bif decide (p.1 = k) then (k, v) :: m else p :: putV k v m
def getV (k : List UInt8) : ME → Option Val
 | [] => none
 | p :: m => bif decide (p.1 = k) then some p.2 else getV k m
theorem putA_enc (k : List UInt8) (v : Val) : ∀ m : ME, putA k (encVal v) (encM m) = encM (putV k v m)
 | [] => rfl
 | p :: m => by
  have ih := putA_enc k v m
  unfold encM at ih ⊢
  simp only [lE, putA, putV]
  cases decide (p.1 = k)
  ·simp only [cF, lE, ih]
  ·simp only [cT, lE]
theorem assoc_enc (k : List UInt8) : ∀ m : ME, assoc k (encM m) = (getV k m).map encVal
 | [] => rfl
 | p :: m => by
  have ih := assoc_enc k m
  unfold encM at ih ⊢
  simp only [lE, assoc, getV]
  cases decide (p.1 = k)
  ·simp only [cF, ih]
  ·simp only [cT, Option.map_some]
abbrev MR := Bool × ME
def valAt (v : Val) (k : KeyD) : Option Val :=
 bif decide (findI (fun x => sameK k x) 0 v.keys < 0) then none else v.kids[(findI (fun x => sameK k x) 0 v.keys).toNat]?
mutual
def matchP : Pat → Val → ME → MR
 | ⟨kind, num, text, kids, keys⟩, v, m =>
  bif decide (kind = 1) then (true, m) else
  bif decide (kind = 2) then (true, putV text v m) else
  bif decide (kind = 10) then matchH kids v (putV text v m) else
  bif decide (kind = 3) then (decide (v.kind = 1) && decide (v.num = num), m) else
  bif decide (kind = 4) then (decide (v.kind = 2) && decide (v.text = text), m) else
  bif decide (kind = 5) then (decide (v.kind = 3) && decide (v.text = text), m) else
  bif decide (kind = 6) then (decide (v.kind = 5), m) else
  bif decide (kind = 7) then (bif decide (v.kind = 6) && decide (kids.length = v.kids.length) then matchL kids v.kids m else (false, m)) else
  bif decide (kind = 8) then (bif decide (v.kind = 7) && decide (kids.length = v.kids.length) then matchL kids v.kids m else (false, m)) else
  bif decide (v.kind = 8) then matchM keys kids v m else (false, m)
def matchH : List Pat → Val → ME → MR
 | [], _, m => (false, m)
 | g :: _, v, m => matchP g v m
def matchL : List Pat → List Val → ME → MR
 | g :: l, v :: vs, m => bif (matchP g v m).1 then matchL l vs (matchP g v m).2 else (false, (matchP g v m).2)
 | _, _, m => (true, m)
def matchM : List KeyD → List Pat → Val → ME → MR
 | k :: ks, g :: l, v, m => match valAt v k with
  | some w => bif (matchP g w m).1 then matchM ks l v (matchP g w m).2 else (false, (matchP g w m).2)
  | none => (false, m)
 | _, _, _, m => (true, m)
end
def MatchC (g : Pat) (v : Val) : Prop := ∀ m : ME, PCB zP 42 [Pt g, Vt v, .one (.mp pin)] [(pin, .mp true (encM m))] (Bo (matchP g v m).1) [(pin, .mp true (encM (matchP g v m).2))]
theorem matchL_drop {l : List Pat} {vs : List Val} {k : Nat} {g : Pat} {v : Val} {m : ME} (hg : l[k]? = some g) (hv : vs[k]? = some v) :
    matchL (l.drop k) (vs.drop k) m = bif (matchP g v m).1 then matchL (l.drop (k + 1)) (vs.drop (k + 1)) (matchP g v m).2 else (false, (matchP g v m).2) := by
  obtain ⟨h1, h2⟩ := List.getElem?_eq_some_iff.1 hg
  obtain ⟨h3, h4⟩ := List.getElem?_eq_some_iff.1 hv
  rw [List.drop_eq_getElem_cons h1, List.drop_eq_getElem_cons h3, h2, h4, matchL]
theorem matchL_nil (vs : List Val) (m : ME) : matchL [] vs m = (true, m) := by cases vs <;> rfl
theorem matchAll_c (l : List Pat) (vs : List Val) (m : ME) (hl : ∀ g ∈ l, ∀ v ∈ vs, MatchC g v) :
    PCB zP 74 [.one (.dat (.sl 5 (l.map encP))), .one (.dat (.sl 7 (vs.map encVal))), .one (.mp pin)] [(pin, .mp true (encM m))]
      (Bo (bif decide (l.length = vs.length) then matchL l vs m else (false, m)).1) [(pin, .mp true (encM (bif decide (l.length = vs.length) then matchL l vs m else (false, m)).2))] := by
  by_cases hlen : l.length = vs.length
  case neg =>
    have hd : decide ((l.length : Int) = (vs.length : Int)) = false := by simp only [decide_eq_false_iff_not]; omega
    rw [decide_eq_false hlen]
    refine PCB.ob Tryz.func74 Tryz.ntmps74 Tryz.results74 ?_
    repeat' (first | (simp only [go_sem, D, E, H, J, N, O, U, reduceCtorEq, V, W, Y, Z, zL, pin, lB, hd] <;> refine nf ?_) | (refine stp ?_; intro K hK) | (apply hK; clear hK K) | refine stn ?_ | (clear hK K))
    all_goals ((try refine ⟨by first | trivial | rfl, ?_⟩); intro q hq; simp only [lN] at hq; subst hq; simp)
  have hd : decide ((l.length : Int) = (vs.length : Int)) = true := by simp only [decide_eq_true_eq]; omega
  rw [decide_eq_true hlen, cT]
  refine PCB.ob Tryz.func74 Tryz.ntmps74 Tryz.results74 ?_
  repeat' (first | (simp only [go_sem, D, E, H, J, N, O, U, reduceCtorEq, V, W, Y, Z, zL, pin, lB, hd] <;> refine nf ?_) | (refine stp ?_; intro K hK) | (apply hK; clear hK K) | refine stn ?_ | fail)
  refine AWP.len 14 rfl fun hlen0 => ?_
  (try rw [lB] at hlen0)
  refine xC (S := ME) (l) encP (fun k s => (16, I .i64 (k : Nat)) :: []) (fun k s => [(1000000, .mp true (encM s))]) [1, 2, 14, 15] [] (fun k s => matchL l vs m = matchL (l.drop k) (vs.drop k) s) (m) (by simp only [go_sem, D, E, H, J, N, O, U, reduceCtorEq, V, W, Y, Z, zL, pin]; exact Gh.ts []) ?_ ?_ ?_
  · rfl
  · intro k s x hlt hx hx' hb hok
    refine st ?_
    obtain ⟨v, hv, hv', _, _⟩ := at_lt (enc := encVal) (show k < vs.length by omega)
    have hix := hl x (lP hx) v (lP hv) s
    rw [matchL_drop hx hv] at hok
    cases hz : (matchP x v s).1 <;> rw [hz] at hok hix <;> simp only [cT, cF] at hok
    ·
      repeat' (first | (simp only [go_sem, D, E, H, J, N, O, U, reduceCtorEq, V, W, Y, Z, zL, pin, lB, hb, hz] <;> refine nf ?_) | (refine stp ?_; intro K hK) | (apply hK; clear hK K) | refine stn ?_ | (with_reducible first | refine ⟨by omega, encP x, hx', ?_⟩ | refine ⟨by omega, encVal v, hv', ?_⟩) | (refine ⟨1000000, _, _, _, PCBk.mk 1000000 hix, rfl, ?_⟩) | (with_reducible refine xA (id := 6) [6] [1000000] mixed (by kernel_rfl) fun K hK => ?_; simp only [Bx.outs, Bx.drop, cT, cF, Nat.reduceBEq, go_sem]) | (clear hK K))
      all_goals (rw [hok]; (try refine ⟨by first | trivial | rfl, ?_⟩); intro q hq; simp only [lN] at hq; subst hq; simp)
    ·
      repeat' (first | (simp only [go_sem, D, E, H, J, N, O, U, reduceCtorEq, V, W, Y, Z, zL, pin, lB, hb, hz] <;> refine nf ?_) | (refine stp ?_; intro K hK) | (apply hK; clear hK K) | refine stn ?_ | (with_reducible first | refine ⟨by omega, encP x, hx', ?_⟩ | refine ⟨by omega, encVal v, hv', ?_⟩) | (refine ⟨1000000, _, _, _, PCBk.mk 1000000 hix, rfl, ?_⟩) | (with_reducible refine xA (id := 6) [6] [1000000] mixed (by kernel_rfl) fun K hK => ?_; simp only [Bx.outs, Bx.drop, cT, cF, Nat.reduceBEq, go_sem]) | (clear hK K))
      all_goals (rw [wrap_succ hlt hlen0])
      all_goals (refine ⟨(matchP x v s).2, ?_, Gh.ts []⟩)
      all_goals exact hok
  · intro s hb hok
    refine st ?_
    rw [List.drop_length, matchL_nil] at hok
    repeat' (first | (simp only [go_sem, D, E, H, J, N, O, U, reduceCtorEq, V, W, Y, Z, zL, pin, lB, hb] <;> refine nf ?_) | (refine stp ?_; intro K hK) | (apply hK; clear hK K) | refine stn ?_ | (clear hK K))
    all_goals (rw [hok]; (try refine ⟨by first | trivial | rfl, ?_⟩); intro q hq; simp only [lN] at hq; subst hq; simp)
theorem matchM_drop {ks : List KeyD} {l : List Pat} {i : Nat} {k : KeyD} {g : Pat} {v : Val} {m : ME} (hk : ks[i]? = some k) (hg : l[i]? = some g) :
    matchM (ks.drop i) (l.drop i) v m = match valAt v k with
      | some w => bif (matchP g w m).1 then matchM (ks.drop (i + 1)) (l.drop (i + 1)) v (matchP g w m).2 else (false, (matchP g w m).2)
      | none => (false, m) := by
  obtain ⟨h1, h2⟩ := List.getElem?_eq_some_iff.1 hk
  obtain ⟨h3, h4⟩ := List.getElem?_eq_some_iff.1 hg
  rw [List.drop_eq_getElem_cons h1, List.drop_eq_getElem_cons h3, h2, h4, matchM]
  all_goals (cases valAt v k <;> rfl)
theorem matchM_nil (l : List Pat) (v : Val) (m : ME) : matchM [] l v m = (true, m) := by cases l <;> rfl
theorem matchMap_c (g : Pat) (v : Val) (m : ME) (hgk : g.keys.length ≤ g.kids.length) (hvk : v.keys.length = v.kids.length) (hl : ∀ k ∈ g.kids, ∀ w ∈ v.kids, MatchC k w) :
    PCB zP 75 [Pt g, Vt v, .one (.mp pin)] [(pin, .mp true (encM m))] (Bo (matchM g.keys g.kids v m).1) [(pin, .mp true (encM (matchM g.keys g.kids v m).2))] := by
  refine PCB.ob Tryz.func75 Tryz.ntmps75 Tryz.results75 ?_
  repeat' (first | (simp only [go_sem, D, E, H, J, N, O, U, reduceCtorEq, V, W, Y, Z, zL, pin, encP_eq g, encVal_eq v, lB] <;> refine nf ?_) | (refine stp ?_; intro K hK) | (apply hK; clear hK K) | refine stn ?_ | fail)
  refine AWP.len 11 rfl fun hlen0 => ?_
  (try rw [lB] at hlen0)
  refine xC (S := ME) (g.keys) encKey (fun k s => (13, I .i64 (k : Nat)) :: []) (fun k s => [(1000000, .mp true (encM s))]) [2, 3, 4, 11, 12] [3, 4] (fun k s => matchM g.keys g.kids v m = matchM (g.keys.drop k) (g.kids.drop k) v s) (m) (by simp only [go_sem, D, E, H, J, N, O, U, reduceCtorEq, V, W, Y, Z, zL, pin, encP_eq g, encVal_eq v]; exact Gh.ts []) ?_ ?_ ?_
  · rfl
  · intro k s x hlt hx hx' hb hok
    refine st ?_
    obtain ⟨gk, hg1, hg2, _, _⟩ := at_lt (enc := encP) (show k < g.kids.length by omega)
    have hix := indexKey_c v.keys x
    rw [matchM_drop hx hg1] at hok
    rcases find_cases (fun y => sameK x y) v.keys 0 with h | ⟨n, h, _, h2⟩
    · have hva : valAt v x = none := by unfold valAt; rw [h]; rfl
      rw [hva] at hok
      rw [h] at hix
      repeat' (first | (simp only [go_sem, D, E, H, J, N, O, U, reduceCtorEq, V, W, Y, Z, zL, pin, encP_eq g, encVal_eq v, lB, hb] <;> refine nf ?_) | (refine stp ?_; intro K hK) | (apply hK; clear hK K) | refine stn ?_ | (with_reducible first | refine ⟨_, hix, ?_⟩ | refine ⟨by omega, encKey x, hx', ?_⟩) | (refine stp' ?_; intro K hK) | refine stq ?_ | (clear hK K))
      all_goals (rw [hok]; (try refine ⟨by first | trivial | rfl, ?_⟩); intro q hq; simp only [lN] at hq; subst hq; simp)
    · obtain ⟨w, hw, hw', _, _⟩ := at_lt (enc := encVal) (show n < v.kids.length by omega)
      have hneg : decide ((n : Int) < 0) = false := by simp only [decide_eq_false_iff_not]; omega
      have hva : valAt v x = some w := by unfold valAt; rw [h, hneg, cF, Int.toNat_natCast, hw]
      have hmx := hl gk (lP hg1) w (lP hw) s
      rw [hva] at hok
      rw [h] at hix
      simp only at hok
      cases hz : (matchP gk w s).1 <;> rw [hz] at hok hmx <;> simp only [cT, cF] at hok
      ·
        repeat' (first | (simp only [go_sem, D, E, H, J, N, O, U, reduceCtorEq, V, W, Y, Z, zL, pin, encP_eq g, encVal_eq v, lB, hb, hz, hneg] <;> refine nf ?_) | (refine stp ?_; intro K hK) | (apply hK; clear hK K) | refine stn ?_ | (with_reducible first | refine ⟨_, hix, ?_⟩ | refine ⟨by omega, encKey x, hx', ?_⟩ | refine ⟨by omega, encP gk, hg2, ?_⟩ | refine ⟨by omega, encVal w, hw', ?_⟩) | (refine ⟨1000000, _, _, _, PCBk.mk 1000000 hmx, rfl, ?_⟩) | (with_reducible refine xA (id := 5) [14] [1000000] mixed (by kernel_rfl) fun K hK => ?_; simp only [Bx.outs, Bx.drop, cT, cF, Nat.reduceBEq, go_sem]) | refine stq ?_ | (clear hK K))
        all_goals (rw [hok]; (try refine ⟨by first | trivial | rfl, ?_⟩); intro q hq; simp only [lN] at hq; subst hq; simp)
      ·
        repeat' (first | (simp only [go_sem, D, E, H, J, N, O, U, reduceCtorEq, V, W, Y, Z, zL, pin, encP_eq g, encVal_eq v, lB, hb, hz, hneg] <;> refine nf ?_) | (refine stp ?_; intro K hK) | (apply hK; clear hK K) | refine stn ?_ | (with_reducible first | refine ⟨_, hix, ?_⟩ | refine ⟨by omega, encKey x, hx', ?_⟩ | refine ⟨by omega, encP gk, hg2, ?_⟩ | refine ⟨by omega, encVal w, hw', ?_⟩) | (refine ⟨1000000, _, _, _, PCBk.mk 1000000 hmx, rfl, ?_⟩) | (with_reducible refine xA (id := 5) [14] [1000000] mixed (by kernel_rfl) fun K hK => ?_; simp only [Bx.outs, Bx.drop, cT, cF, Nat.reduceBEq, go_sem]) | refine stq ?_ | (clear hK K))
        all_goals (rw [wrap_succ hlt hlen0])
        all_goals (refine ⟨(matchP gk w s).2, ?_, Gh.ts []⟩)
        all_goals exact hok
  · intro s hb hok
    refine st ?_
    rw [List.drop_length, matchM_nil] at hok
    repeat' (first | (simp only [go_sem, D, E, H, J, N, O, U, reduceCtorEq, V, W, Y, Z, zL, pin, encP_eq g, encVal_eq v, lB, hb] <;> refine nf ?_) | (refine stp ?_; intro K hK) | (apply hK; clear hK K) | refine stn ?_ | (clear hK K))
    all_goals (rw [hok]; (try refine ⟨by first | trivial | rfl, ?_⟩); intro q hq; simp only [lN] at hq; subst hq; simp)
theorem matchP_eq (g : Pat) (v : Val) (m : ME) : matchP g v m = bif decide (g.kind = 1) then (true, m) else
    bif decide (g.kind = 2) then (true, putV g.text v m) else
    bif decide (g.kind = 10) then matchH g.kids v (putV g.text v m) else
    bif decide (g.kind = 3) then (decide (v.kind = 1) && decide (v.num = g.num), m) else
    bif decide (g.kind = 4) then (decide (v.kind = 2) && decide (v.text = g.text), m) else
    bif decide (g.kind = 5) then (decide (v.kind = 3) && decide (v.text = g.text), m) else
    bif decide (g.kind = 6) then (decide (v.kind = 5), m) else
    bif decide (g.kind = 7) then (bif decide (v.kind = 6) && decide (g.kids.length = v.kids.length) then matchL g.kids v.kids m else (false, m)) else
    bif decide (g.kind = 8) then (bif decide (v.kind = 7) && decide (g.kids.length = v.kids.length) then matchL g.kids v.kids m else (false, m)) else
    bif decide (v.kind = 8) then matchM g.keys g.kids v m else (false, m) := by cases g; rw [matchP]
theorem vP_of {g : Pat} (h : treeP g = true) : vP g = true := by rw [treeP_eq, Bool.and_eq_true] at h; exact h.1
theorem treeP_kid {g k : Pat} (h : treeP g = true) (hk : k ∈ g.kids) : treeP k = true := by
 rw [treeP_eq, Bool.and_eq_true, List.all_eq_true] at h
 exact h.2 k hk
theorem treeB_kid {v k : Val} (h : treeB v = true) (hk : k ∈ v.kids) : treeB k = true := by
 rw [treeB_kids, Bool.and_eq_true, Bool.and_eq_true, List.all_eq_true] at h
 exact h.2.1 k hk
theorem treeB_map {v : Val} (h : treeB v = true) (hk : v.kind = 8) : v.keys.length = v.kids.length := by
 rw [treeB_kids, Bool.and_eq_true] at h
 have h1 := h.1
 unfold nodeB at h1
 simp only [Bool.and_eq_true] at h1
 have h2 := h1.2.2.2
 unfold bodyB at h2
 simp only [hk, Int.reduceEq, dT, dF, cT, cF] at h2
 unfold mapB at h2
 simp only [Bool.and_eq_true, decide_eq_true_eq] at h2
 omega
theorem kindsP {g : Pat} (h : vP g = true) : g.kind = 1 ∨ g.kind = 2 ∨ g.kind = 3 ∨ g.kind = 4 ∨ g.kind = 5 ∨ g.kind = 6 ∨ g.kind = 7 ∨ g.kind = 8 ∨ (g.kind = 9 ∧ g.keys.length = g.kids.length) ∨ (g.kind = 10 ∧ ∃ k, g.kids = [k]) := by
 have hb : bodyP g = true := by unfold vP at h; simp only [Bool.and_eq_true] at h; exact h.2
 by_cases h9 : g.kind = 9
 ·have hm : mapP g = true := by
   unfold bodyP at hb
   simp only [h9, Int.reduceEq, dT, dF, Bool.or_false, cT, cF] at hb
   exact hb
  unfold mapP at hm
  simp only [Bool.and_eq_true, Bool.not_eq_true', Bool.or_eq_false_iff, Bool.not_eq_false', decide_eq_true_eq] at hm
  exact .inr (.inr (.inr (.inr (.inr (.inr (.inr (.inr (.inl ⟨h9, by omega⟩))))))))
 by_cases h10 : g.kind = 10
 ·have hm : decide ((g.kids.length : Int) = 1) = true := by
   unfold bodyP at hb
   simp only [h10, Int.reduceEq, dT, dF, Bool.or_false, cT, cF, Bool.and_eq_true] at hb
   exact hb.1
  simp only [decide_eq_true_eq] at hm
  obtain ⟨k, hk⟩ := List.length_eq_one_iff.1 (show g.kids.length = 1 by omega)
  exact .inr (.inr (.inr (.inr (.inr (.inr (.inr (.inr (.inr ⟨h10, k, hk⟩))))))))
 by_cases hx : g.kind = 1 ∨ g.kind = 2 ∨ g.kind = 3 ∨ g.kind = 4 ∨ g.kind = 5 ∨ g.kind = 6 ∨ g.kind = 7 ∨ g.kind = 8
 ·rcases hx with h | h | h | h | h | h | h | h <;> simp [h]
 ·exfalso
  have e1 : decide (g.kind = 1) = false := by simp only [decide_eq_false_iff_not]; omega
  have e2 : decide (g.kind = 2) = false := by simp only [decide_eq_false_iff_not]; omega
  have e3 : decide (g.kind = 3) = false := by simp only [decide_eq_false_iff_not]; omega
  have e4 : decide (g.kind = 4) = false := by simp only [decide_eq_false_iff_not]; omega
  have e5 : decide (g.kind = 5) = false := by simp only [decide_eq_false_iff_not]; omega
  have e6 : decide (g.kind = 6) = false := by simp only [decide_eq_false_iff_not]; omega
  have e7 : decide (g.kind = 7) = false := by simp only [decide_eq_false_iff_not]; omega
  have e8 : decide (g.kind = 8) = false := by simp only [decide_eq_false_iff_not]; omega
  have e9 : decide (g.kind = 9) = false := by simp only [decide_eq_false_iff_not]; omega
  have e10 : decide (g.kind = 10) = false := by simp only [decide_eq_false_iff_not]; omega
  unfold bodyP at hb
  rw [e1, e2, e3, e4, e5, e6, e7, e8, e9, e10] at hb
  cases hb
theorem match_c (g : Pat) (v : Val) (hg : treeP g = true) (hv : treeB v = true) : MatchC g v := by
 have ih : ∀ k ∈ g.kids, ∀ w : Val, treeB w = true → MatchC k w := fun k hk w hw => match_c k w (treeP_kid hg hk) hw
 intro m
 rcases kindsP (vP_of hg) with hk | hk | hk | hk | hk | hk | hk | hk | ⟨hk, hkk⟩ | ⟨hk, k0, hk0⟩
 ·
  refine PCB.ob Tryz.func42 Tryz.ntmps42 Tryz.results42 ?_
  repeat' (first | (simp only [go_sem, D, E, H, J, N, O, U, reduceCtorEq, V, W, Y, Z, zL, pin, encP_eq g, encVal_eq v, hk, lB] <;> refine nf ?_) | (refine stp ?_; intro K hK) | (apply hK; clear hK K) | refine stn ?_ | (clear hK K))
  all_goals (rw [matchP_eq, hk]; simp only [Int.reduceEq, zb, dT, dF, cT, cF, *]; (try refine ⟨by first | trivial | rfl, ?_⟩); intro q hq; simp only [lN] at hq; subst hq; simp)
 ·
  refine PCB.ob Tryz.func42 Tryz.ntmps42 Tryz.results42 ?_
  repeat' (first | (simp only [go_sem, D, E, H, J, N, O, U, reduceCtorEq, V, W, Y, Z, zL, pin, encP_eq g, hk, lB, putA_enc] <;> refine nf ?_) | (refine stp ?_; intro K hK) | (apply hK; clear hK K) | refine stn ?_ | (clear hK K))
  all_goals (rw [matchP_eq, hk]; simp only [Int.reduceEq, zb, dT, dF, cT, cF, *]; (try refine ⟨by first | trivial | rfl, ?_⟩); intro q hq; simp only [lN] at hq; subst hq; simp)
 iterate 4
  ·
   refine PCB.ob Tryz.func42 Tryz.ntmps42 Tryz.results42 ?_
   repeat' (first | (simp only [go_sem, D, E, H, J, N, O, U, reduceCtorEq, V, W, Y, Z, zL, pin, encP_eq g, encVal_eq v, hk, lB] <;> refine nf ?_) | (refine stp ?_; intro K hK) | (apply hK; clear hK K) | refine stn ?_ | (refine ⟨fun h => ?_, fun h => ?_⟩ <;> (try simp only [zM, zN] at h) <;> try simp only [h]) | (clear hK K))
   all_goals (rw [matchP_eq, hk]; simp only [Int.reduceEq, zb, dT, dF, cT, cF, *]; (try refine ⟨by first | trivial | rfl, ?_⟩); intro q hq; simp only [lN] at hq; subst hq; simp)
 ·have hal := matchAll_c g.kids v.kids m (fun k hk w hw => ih k hk w (treeB_kid hv hw))
  rw [matchP_eq, hk]
  cases hz : decide (v.kind = 6) <;> simp only [Int.reduceEq, zb, dT, dF, cT, cF, Bool.true_and, Bool.false_and]
  ·
   refine PCB.ob Tryz.func42 Tryz.ntmps42 Tryz.results42 ?_
   repeat' (first | (simp only [go_sem, D, E, H, J, N, O, U, reduceCtorEq, V, W, Y, Z, zL, pin, encP_eq g, encVal_eq v, hk, hz, lB] <;> refine nf ?_) | (refine stp ?_; intro K hK) | (apply hK; clear hK K) | refine stn ?_ | (clear hK K))
   all_goals ((try refine ⟨by first | trivial | rfl, ?_⟩); intro q hq; simp only [lN] at hq; subst hq; simp)
  ·
   refine PCB.ob Tryz.func42 Tryz.ntmps42 Tryz.results42 ?_
   repeat' (first | (simp only [go_sem, D, E, H, J, N, O, U, reduceCtorEq, V, W, Y, Z, zL, pin, encP_eq g, encVal_eq v, hk, hz, lB] <;> refine nf ?_) | (refine stp ?_; intro K hK) | (apply hK; clear hK K) | refine stn ?_ | (refine ⟨1000000, _, _, _, PCBk.mk 1000000 hal, rfl, ?_⟩) | (clear hK K))
   all_goals ((try refine ⟨by first | trivial | rfl, ?_⟩); intro q hq; simp only [lN] at hq; subst hq; simp)
 ·have hal := matchAll_c g.kids v.kids m (fun k hk w hw => ih k hk w (treeB_kid hv hw))
  rw [matchP_eq, hk]
  cases hz : decide (v.kind = 7) <;> simp only [Int.reduceEq, zb, dT, dF, cT, cF, Bool.true_and, Bool.false_and]
  ·
   refine PCB.ob Tryz.func42 Tryz.ntmps42 Tryz.results42 ?_
   repeat' (first | (simp only [go_sem, D, E, H, J, N, O, U, reduceCtorEq, V, W, Y, Z, zL, pin, encP_eq g, encVal_eq v, hk, hz, lB] <;> refine nf ?_) | (refine stp ?_; intro K hK) | (apply hK; clear hK K) | refine stn ?_ | (clear hK K))
   all_goals ((try refine ⟨by first | trivial | rfl, ?_⟩); intro q hq; simp only [lN] at hq; subst hq; simp)
  ·
   refine PCB.ob Tryz.func42 Tryz.ntmps42 Tryz.results42 ?_
   repeat' (first | (simp only [go_sem, D, E, H, J, N, O, U, reduceCtorEq, V, W, Y, Z, zL, pin, encP_eq g, encVal_eq v, hk, hz, lB] <;> refine nf ?_) | (refine stp ?_; intro K hK) | (apply hK; clear hK K) | refine stn ?_ | (refine ⟨1000000, _, _, _, PCBk.mk 1000000 hal, rfl, ?_⟩) | (clear hK K))
   all_goals ((try refine ⟨by first | trivial | rfl, ?_⟩); intro q hq; simp only [lN] at hq; subst hq; simp)
 ·rw [matchP_eq, hk]
  cases hz : decide (v.kind = 8) <;> simp only [Int.reduceEq, zb, dT, dF, cT, cF]
  ·
   refine PCB.ob Tryz.func42 Tryz.ntmps42 Tryz.results42 ?_
   repeat' (first | (simp only [go_sem, D, E, H, J, N, O, U, reduceCtorEq, V, W, Y, Z, zL, pin, encP_eq g, encVal_eq v, hk, hz, lB] <;> refine nf ?_) | (refine stp ?_; intro K hK) | (apply hK; clear hK K) | refine stn ?_ | fail)
   all_goals ((try refine ⟨by first | trivial | rfl, ?_⟩); intro q hq; simp only [lN] at hq; subst hq; simp)
  ·have hmm := matchMap_c g v m (by omega) (treeB_map hv (of_decide_eq_true hz)) (fun k hk w hw => ih k hk w (treeB_kid hv hw))
   rw [show Pt g = T.st (encP g) from rfl, show Vt v = T.st (encVal v) from rfl, encP_eq g, encVal_eq v, hk] at hmm
   refine PCB.ob Tryz.func42 Tryz.ntmps42 Tryz.results42 ?_
   repeat' (first | (simp only [go_sem, D, E, H, J, N, O, U, reduceCtorEq, V, W, Y, Z, zL, pin, encP_eq g, encVal_eq v, hk, hz, lB] <;> refine nf ?_) | (refine stp ?_; intro K hK) | (apply hK; clear hK K) | refine stn ?_ | (refine ⟨1000000, _, _, _, PCBk.mk 1000000 hmm, rfl, ?_⟩) | fail)
   all_goals ((try refine ⟨by first | trivial | rfl, ?_⟩); intro q hq; simp only [lN] at hq; subst hq; simp)
 ·have h0 := ih k0 (by rw [hk0]; simp) v hv (putV g.text v m)
  have hk0' : (g.kids.map encP)[0]? = some (encP k0) := by rw [hk0]; rfl
  rw [matchP_eq, hk, hk0]
  simp only [Int.reduceEq, zb, dT, dF, cT, cF, matchH]
  refine PCB.ob Tryz.func42 Tryz.ntmps42 Tryz.results42 ?_
  repeat' (first | (simp only [go_sem, D, E, H, J, N, O, U, reduceCtorEq, V, W, Y, Z, zL, pin, encP_eq g, hk, lB, putA_enc] <;> refine nf ?_) | (refine stp ?_; intro K hK) | (apply hK; clear hK K) | refine stn ?_ | (with_reducible refine ⟨encP k0, hk0', ?_⟩) | (refine ⟨1000000, _, _, _, PCBk.mk 1000000 h0, rfl, ?_⟩) | (with_reducible refine xA (id := 9) [6] [1000000] mixed (by kernel_rfl) fun K hK => ?_; simp only [Bx.outs, Bx.drop, cT, cF, Nat.reduceBEq, go_sem]) | (clear hK K))
  all_goals ((try refine ⟨by first | trivial | rfl, ?_⟩); intro q hq; simp only [lN] at hq; subst hq; simp)
termination_by cntP g
decreasing_by exact cntP_kid hk
end Go.Proofs.YtajfdbdklphonaaGreat
set_option maxRecDepth 20000
set_option maxHeartbeats 1000000
namespace Go.Proofs.YtajfdbdklphonaaGreat
open Go Go.Sx
theorem sorted_len (l : List (List UInt8)) : (sortedV l).length ≤ l.length := by
 have h : ∀ (l acc : List (List UInt8)), (l.foldl insS acc).length ≤ acc.length + l.length := by
  intro l
  induction l with
  | nil => intro acc; simp
  | cons x l ih =>
   intro acc
   have h1 := ih (insS acc x)
   have h2 := insS_len acc x
   simp only [List.foldl_cons, List.length_cons]
   omega
 have := h l []
 simpa [sortedV] using this
def bnd : Nat → Nat
 | 0 => 1
 | 1 => 1
 | h + 2 => 8 * (bnd (h + 1) + 2) + 8 * (bnd h + 2) + 20
end Go.Proofs.YtajfdbdklphonaaGreat
set_option maxRecDepth 20000
set_option maxHeartbeats 4000000
namespace Go.Proofs.YtajfdbdklphonaaGreat
open Go Go.Sx
abbrev eraBox (d : Dat) (n : Nat) : Res := .cells [.dat (.int .i64 d.kind), .dat (.int .i64 d.num), .dat (.str d.text), .own 900 n, .dat (.sl 2 (d.keys.map encKey)), .dat (.nil 9), .dat (.nil 1)]
theorem refErase_c (d : Dat) (hd : Small d) : PC zP 27 [.st (encDat d)] (Vt (eraseV d)) := by
 have ih : ∀ k ∈ d.kids, PC zP 27 [.st (encDat k)] (Vt (eraseV k)) := fun k hk => refErase_c k (hd.kid k hk)
 have hkk := hd.kids
 have hky := hd.keys
 refine PCB.ob Tryz.func27 Tryz.ntmps27 Tryz.results27 ?_
 cases h9 : decide (d.kind = 9) with
 | true =>
  repeat' (first | (simp only [go_sem, D, E, H, J, N, O, U, reduceCtorEq, V, W, Y, Z, zL, encDat_eq, h9] <;> refine nf ?_) | (refine stp ?_; intro K hK) | (apply hK; clear hK K) | refine stn ?_ | (clear hK K))
  all_goals (first | exact nn | refine fin0 ?_)
  all_goals (rw [eraseV_eq, h9, Vt, encVal_eq]; rfl)
 | false =>
  repeat' (first | (simp only [go_sem, D, E, H, J, N, O, U, reduceCtorEq, V, W, Y, Z, zL, encDat_eq d, h9, lB] <;> refine nf ?_) | (refine stp ?_; intro K hK) | (apply hK; clear hK K) | refine stn ?_ | (with_reducible (refine ⟨(by first | omega | (simp only [lA, lB, List.length_take, List.length_drop, List.length_cons, List.length_nil, List.length_replicate]; omega) : _ ≤ _), ?_⟩)) | (with_reducible refine AWP.genMS (id := 3) [8,10] 11 mixed (by kernel_rfl) fun K hK => ?_; simp only [List.take_succ_cons, List.take_zero, List.drop_succ_cons, List.drop_zero]) | refine stq ?_ | fail)
  refine xD (Gh.fs 20) ?_
  simp only [go_sem, D, E, H, J, N, O, U, reduceCtorEq, V, W, Y, Z, zL, lB]
  refine xD (Gh.nilcell 3 3 900 rfl rfl rfl (by simp only [go_sem, D, E, H, J, N, O, U, reduceCtorEq, V, W, Y, Z, zL]) (by simp only [go_sem, D, E, H, J, N, O, U, reduceCtorEq, V, W, Y, Z, zL])) ?_
  refine AWP.len 23 rfl fun hlen0 => ?_
  (try rw [lB] at hlen0)
  refine xC (S := List Val) (d.kids) encDat (fun k s => (25, I .i64 (k : Nat)) :: []) (fun k s => [(3, eraBox d s.length), (900, .row 7 (s.map encVal))]) [2, 3, 23, 24] [2] (fun k s => Is s ((d.kids.take k).map eraseV) ∧ s.length = k) ([]) (by simp only [go_sem, D, E, H, J, N, O, U, reduceCtorEq, V, W, Y, Z, zL, encDat_eq d]; exact Gh.ts []) ?_ ?_ ?_
  ·exact ⟨rfl, rfl⟩
  ·rintro k s x hlt hx hx' hb ⟨hok, hsl⟩
   refine st ?_
   have hix := ih x (lP hx)
   repeat' (first | (simp only [go_sem, D, E, H, J, N, O, U, reduceCtorEq, V, W, Y, Z, zL, lB, hb, val_snoc] <;> refine nf ?_) | (refine stp ?_; intro K hK) | (apply hK; clear hK K) | refine stn ?_ | (with_reducible first | refine ⟨_, hix, ?_⟩ | refine ⟨by omega, encDat x, hx', ?_⟩ | (refine ⟨(by first | omega | (simp only [lA, lB, List.length_take, List.length_drop, List.length_cons, List.length_nil, List.length_replicate]; omega) : _ ≤ _), ?_⟩)) | (with_reducible refine xA (id := 7) [1,5,7] [3,900] mixed (by kernel_rfl) fun K hK => ?_; simp only [Bx.outs, Bx.drop, cT, cF, Nat.reduceBEq, go_sem]) | (clear hK K))
   all_goals (rw [wrap_succ hlt hlen0])
   all_goals (refine ⟨s ++ [eraseV x], ?_, Gh.ts [(900, 34)]⟩)
   all_goals (refine ⟨?_, by simp; omega⟩; rw [Is, List.take_add_one, List.map_append, hx, ← show s = _ from hok]; rfl)
  ·rintro s hb ⟨hok, _⟩
   refine st ?_
   rw [List.take_length] at hok
   refine xD (Gh.fs 900) ?_
   simp only [go_sem, D, E, H, J, N, O, U, reduceCtorEq, V, W, Y, Z, zL, lB]
   repeat' (first | (simp only [go_sem, D, E, H, J, N, O, U, reduceCtorEq, V, W, Y, Z, zL, lB, hb] <;> refine nf ?_) | (refine stp ?_; intro K hK) | (apply hK; clear hK K) | refine stn ?_ | (clear hK K))
   all_goals (first | exact nn | refine fin0 ?_)
   all_goals (rw [eraseV_eq, h9, Vt, encVal_eq, show s = _ from hok]; rfl)
termination_by SizeOf.sizeOf d
decreasing_by
 cases d; simp only at hk; have := List.sizeOf_lt_of_mem hk; simp; omega
end Go.Proofs.YtajfdbdklphonaaGreat
set_option maxRecDepth 20000
set_option maxHeartbeats 16000000
namespace Go.Proofs.YtajfdbdklphonaaGreat
open Go Go.Sx
theorem clip_calls (a : Option Addr) (n cap : Nat) (hn : n ≤ cap) (w : World) : Calls zP 77 #[.slice a n cap] w fun e w' => e = .returned (.slice a n n) ∧ w' = w := by
 go_enter Tryz.func77, Tryz.ntmps77
 go_wp2
 all_goals go_ret
 all_goals exact ⟨rfl, rfl⟩
end Go.Proofs.YtajfdbdklphonaaGreat