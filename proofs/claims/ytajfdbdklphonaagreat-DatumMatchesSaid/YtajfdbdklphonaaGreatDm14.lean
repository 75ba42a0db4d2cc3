/- Lemmas; conditions: as each states. -/
import Derived.Test.YtajfdbdklphonaaGreatDm14b
open Go.Proofs.Tryz renaming prog → zP
open List renaming length_append → lA, length_map → lB, mem_of_getElem? → lP
open Go.Sx.AWP renaming range → xC, gh → xD
open Nat renaming reduceBEq → D, reduceBNe → E, reduceAdd → H, reduceSub → J, reduceMul → N, reduceLeDiff → O, reduceLT → U, reduceEqDiff → V
open Int renaming reduceToNat → W, reduceLE → Y, reduceLT → Z, reduceEq → zL
set_option linter.unusedVariables false
set_option linter.unusedSimpArgs false
set_option maxRecDepth 20000
set_option maxHeartbeats 16000000
namespace Go.Proofs.YtajfdbdklphonaaGreat
open Go Go.Sx
theorem clip_c (rows : List (List C)) : PC zP 77 [.one (.dat (.sl 1 rows))] (.one (.dat (.sl 1 rows))) := by
 refine ⟨⟨_, Tryz.func77, by decide, rfl⟩, ?_⟩
 intro M ν w vs hs hreps
 simp only [T.reps, T.rep, Cell.rep, C.rep] at hreps
 obtain ⟨v, vs', rfl, ⟨a, cap, mid, rfl, h1, h2, h3, h4⟩, rfl⟩ := hreps
 refine Calls.mono (clip_calls a rows.length cap h1 w) ?_
 rintro e w' ⟨rfl, rfl⟩
 refine ⟨_, M, rfl, Mem.ext.refl _ M, ?_, hs⟩
 simp only [T.rep, Cell.rep, C.rep]
 exact ⟨a, rows.length, mid, rfl, Nat.le_refl _, Nat.le_trans h1 h2, h3, h4⟩
theorem asc_pair : ∀ l : List (List UInt8), ascB Lib.compareBytes l = true → l.Pairwise (· < ·)
 | [], _ => .nil
 | [x], _ => List.pairwise_singleton _ x
 | x :: y :: m, h => by
  have h' : (decide (Lib.compareBytes x y < 0) && ascB Lib.compareBytes (y :: m)) = true := h
  rw [Bool.and_eq_true, ← less_dec, less_eq] at h'
  have ih := asc_pair (y :: m) h'.2
  have hxy := of_decide_eq_true h'.1
  refine List.Pairwise.cons (fun z hz => ?_) ih
  rcases List.mem_cons.1 hz with rfl | hz
  ·exact hxy
  ·exact List.lt_trans hxy ((List.pairwise_cons.1 ih).1 z hz)
theorem sorted_asc (l : List (List UInt8)) (h : l.Pairwise (· < ·)) : sortedV l = l := by
 obtain ⟨h1, h2⟩ := sortedV_spec l
 exact strict_ext _ _ h1 h h2
theorem sort_asc (l : List (List UInt8)) (h : l.Pairwise (· < ·)) : (l.mergeSort fun x y => decide (x ≤ y)) = l := by
 rw [sorted_nodup l (by rw [sorted_asc l h]; exact Nat.le_refl _), sorted_asc l h]
theorem labels_asc {v : Val} (h : treeB v = true) : v.labels.Pairwise (· < ·) := by
 rw [treeB_kids, Bool.and_eq_true] at h
 have h1 := h.1
 unfold nodeB labelsB at h1
 simp only [Bool.and_eq_true] at h1
 exact asc_pair _ h1.2.1.1
theorem withLabels_c (v : Val) (hv : Sm v) (hl : v.labels.Pairwise (· < ·)) : PC zP 43 [Vt v, SsP v.labels] (Vt v) := by
 have hb := bulkV_eq v
 have hbs : bulkV v ≤ 100000000 := hv
 have h1 : PC zP 76 [.st (encVal v)] (.st (encVal v)) := clone_c v hv
 rw [encVal_eq v] at h1
 have h2 := cloneStr_n v.labels (by omega)
 have h3 : PCBk zP 47 [.one (.own 9 v.labels.length)] 9 (.row 1 (v.labels.map Sx.encStr)) (.tup []) (.row 1 (v.labels.map Sx.encStr)) := by
  have h := PCBk.own1 9 (sortStr_c Go.Proofs.Tryz.sortS v.labels (by omega))
  rw [sort_asc _ hl] at h
  exact h
 have h4 : PCBk zP 78 [.one (.own 9 v.labels.length)] 9 (.row 1 (v.labels.map Sx.encStr)) (.one (.own 9 v.labels.length)) (.row 1 (v.labels.map Sx.encStr)) := by
  have h := compactStr_c Go.Proofs.Tryz.compS (v.labels.mergeSort fun x y => decide (x ≤ y))
  rw [compact_sort, List.length_mergeSort, sort_asc _ hl, sorted_asc _ hl] at h
  exact PCBk.own2 9 h
 have h5 := clip_c (v.labels.map Sx.encStr)
 refine PCB.ob Tryz.func43 Tryz.ntmps43 Tryz.results43 ?_
 repeat' (first | (simp only [go_sem, D, E, H, J, N, O, U, reduceCtorEq, V, W, Y, Z, zL, encVal_eq v, lB] <;> refine nf ?_) | (refine stp ?_; intro K hK) | (apply hK; clear hK K) | refine stn ?_ | (with_reducible first | refine ⟨_, h1, ?_⟩ | refine Or.inr (Or.inl ⟨_, _, h2, ?_⟩) | refine ⟨_, h5, ?_⟩) | (apply Or.inr; refine ⟨9, _, _, _, h3, rfl, ?_⟩; simp only [go_sem, D, E, H, J, N, O, U, reduceCtorEq, V, W, Y, Z, zL]) | (apply Or.inr; refine ⟨9, _, _, _, h4, rfl, ?_⟩; simp only [go_sem, D, E, H, J, N, O, U, reduceCtorEq, V, W, Y, Z, zL]) | refine stq ?_ | fail)
 all_goals (first | exact nn | refine fin0 ?_)
 all_goals (first | rfl | (rw [show Vt v = T.st (encVal v) from rfl, encVal_eq v]; done))
theorem getV_put (k k' : List UInt8) (v : Val) : ∀ m : ME, getV k (putV k' v m) = if k' = k then some v else getV k m
 | [] => by
  by_cases h : k' = k
  ·simp [putV, getV, h]
  ·simp [putV, getV, h]
 | p :: m => by
  have ih := getV_put k k' v m
  by_cases hp : p.1 = k'
  ·by_cases h : k' = k
   ·simp [putV, getV, h, hp]
   ·simp [putV, getV, h, hp]
  ·by_cases h : k' = k
   ·subst h
    simp only [putV, hp, dF, cF, getV, ih, if_true]
   ·rw [if_neg h] at ih
    simp only [putV, hp, dF, cF, getV, ih, if_neg h]
def GoodM (m : ME) : Prop := ∀ k w, getV k m = some w → treeB w = true ∧ Sm w
def Has (m : ME) (k : List UInt8) : Prop := ∃ w, getV k m = some w
theorem goodM_put {m : ME} (h : GoodM m) {k : List UInt8} {v : Val} (h1 : treeB v = true) (h2 : Sm v) : GoodM (putV k v m) := by
 intro k' w hw
 rw [getV_put] at hw
 by_cases e : k = k'
 ·rw [if_pos e] at hw; cases hw; exact ⟨h1, h2⟩
 ·rw [if_neg e] at hw; exact h k' w hw
theorem has_put {m : ME} {k k' : List UInt8} (v : Val) (h : k' = k ∨ Has m k) : Has (putV k' v m) k := by
 unfold Has
 rw [getV_put]
 by_cases e : k' = k
 ·exact ⟨v, if_pos e⟩
 ·rw [if_neg e]; exact h.resolve_left e
structure Ms (l : List (List UInt8)) (m m' : ME) (ok : Bool) : Prop where
 good : GoodM m → GoodM m'
 keep : ∀ k, Has m k → Has m' k
 nm : ok = true → ∀ k ∈ l, Has m' k
theorem Ms.same (m : ME) (ok : Bool) : Ms [] m m ok := ⟨id, fun _ h => h, fun _ k hk => by cases hk⟩
theorem valAt_mem {v w : Val} {k : KeyD} (h : valAt v k = some w) : w ∈ v.kids := by
 unfold valAt at h
 cases hd : decide (findI (fun x => sameK k x) 0 v.keys < 0)
 ·rw [hd, cF] at h; exact lP h
 ·rw [hd, cT] at h; cases h
theorem ms_L : ∀ (l : List Pat) (vs : List Val) (m : ME), (∀ g ∈ l, ∀ w ∈ vs, ∀ m, Ms (collP g) m (matchP g w m).2 (matchP g w m).1) → (l.length ≤ vs.length) → Ms (l.flatMap collP) m (matchL l vs m).2 (matchL l vs m).1
 | [], vs, m, _, _ => by rw [matchL_nil]; exact Ms.same m true
 | g :: l, [], m, _, hlen => by simp at hlen
 | g :: l, v :: vs, m, h, hlen => by
  have h1 := h g (by simp) v (by simp) m
  have h2 := ms_L l vs (matchP g v m).2 (fun g hg w hw => h g (List.mem_cons_of_mem _ hg) w (List.mem_cons_of_mem _ hw)) (by simpa using hlen)
  rw [matchL]
  cases hz : (matchP g v m).1
  ·simp only [cF]
   exact ⟨h1.good, h1.keep, fun h => by cases h⟩
  ·simp only [cT]
   refine ⟨fun hm => h2.good (h1.good hm), fun k hk => h2.keep k (h1.keep k hk), fun ok k hk => ?_⟩
   rw [List.flatMap_cons, List.mem_append] at hk
   rcases hk with hk | hk
   ·exact h2.keep k (h1.nm hz k hk)
   ·exact h2.nm ok k hk
theorem ms_M : ∀ (ks : List KeyD) (l : List Pat) (v : Val) (m : ME), (∀ g ∈ l, ∀ w ∈ v.kids, ∀ m, Ms (collP g) m (matchP g w m).2 (matchP g w m).1) → (l.length ≤ ks.length) → Ms (l.flatMap collP) m (matchM ks l v m).2 (matchM ks l v m).1
 | ks, [], v, m, _, _ => by
  have : matchM ks [] v m = (true, m) := by cases ks <;> rfl
  rw [this]; exact Ms.same m true
 | [], g :: l, v, m, _, hlen => by simp at hlen
 | k :: ks, g :: l, v, m, h, hlen => by
  rw [matchM]
  cases hv : valAt v k with
  | none => exact ⟨id, fun _ h => h, fun h => by cases h⟩
  | some w =>
   have h1 := h g (by simp) w (valAt_mem hv) m
   have h2 := ms_M ks l v (matchP g w m).2 (fun g hg w hw => h g (List.mem_cons_of_mem _ hg) w hw) (by simpa using hlen)
   simp only
   cases hz : (matchP g w m).1
   ·simp only [cF]
    exact ⟨h1.good, h1.keep, fun h => by cases h⟩
   ·simp only [cT]
    refine ⟨fun hm => h2.good (h1.good hm), fun k hk => h2.keep k (h1.keep k hk), fun ok k hk => ?_⟩
    rw [List.flatMap_cons, List.mem_append] at hk
    rcases hk with hk | hk
    ·exact h2.keep k (h1.nm hz k hk)
    ·exact h2.nm ok k hk
theorem vP_kids0 {g : Pat} (h : vP g = true) (hk : kidsP g.kind = false) : g.kids = [] := by
 have hb : badP g = false := by unfold vP at h; simp only [Bool.and_eq_true, Bool.not_eq_true'] at h; exact h.1
 unfold badP at hb
 rw [hk] at hb
 simp only [Bool.or_eq_false_iff, Bool.not_false, Bool.true_and, decide_eq_false_iff_not] at hb
 exact List.length_eq_zero_iff.1 (by omega)
theorem ms_P (g : Pat) (v : Val) (m : ME) (hg : treeP g = true) (hv : treeB v = true) (hs : Sm v) : Ms (collP g) m (matchP g v m).2 (matchP g v m).1 := by
 have ih : ∀ k ∈ g.kids, ∀ w : Val, treeB w = true → Sm w → ∀ m, Ms (collP k) m (matchP k w m).2 (matchP k w m).1 := fun k hk w hw hsw m => ms_P k w m (treeP_kid hg hk) hw hsw
 have hvp := vP_of hg
 rw [collP_eq, matchP_eq]
 rcases kindsP hvp with hk | hk | hk | hk | hk | hk | hk | hk | ⟨hk, hkk⟩ | ⟨hk, k0, hk0⟩
 ·rw [hk, vP_kids0 hvp (by rw [hk]; rfl)]; exact Ms.same m _
 ·rw [hk, vP_kids0 hvp (by rw [hk]; rfl)]
  refine ⟨fun h => goodM_put h hv hs, fun k h => has_put v (.inr h), fun _ k h => has_put v (.inl ?_)⟩
  have : k ∈ [g.text] := by simpa [nameP] using h
  exact (List.mem_singleton.1 this).symm
 ·rw [hk, vP_kids0 hvp (by rw [hk]; rfl)]; exact Ms.same m _
 ·rw [hk, vP_kids0 hvp (by rw [hk]; rfl)]; exact Ms.same m _
 ·rw [hk, vP_kids0 hvp (by rw [hk]; rfl)]; exact Ms.same m _
 ·rw [hk, vP_kids0 hvp (by rw [hk]; rfl)]; exact Ms.same m _
 ·rw [hk]
  show Ms (g.kids.flatMap collP) m (bif decide (v.kind = 6) && decide (g.kids.length = v.kids.length) then matchL g.kids v.kids m else (false, m)).2 (bif decide (v.kind = 6) && decide (g.kids.length = v.kids.length) then matchL g.kids v.kids m else (false, m)).1
  cases hz : decide (v.kind = 6) && decide (g.kids.length = v.kids.length)
  ·exact ⟨id, fun _ h => h, fun h => by cases h⟩
  ·rw [Bool.and_eq_true, decide_eq_true_eq, decide_eq_true_eq] at hz
   exact ms_L g.kids v.kids m (fun g hg w hw => ih g hg w (treeB_kid hv hw) (hs.kid w hw)) (by omega)
 ·rw [hk]
  show Ms (g.kids.flatMap collP) m (bif decide (v.kind = 7) && decide (g.kids.length = v.kids.length) then matchL g.kids v.kids m else (false, m)).2 (bif decide (v.kind = 7) && decide (g.kids.length = v.kids.length) then matchL g.kids v.kids m else (false, m)).1
  cases hz : decide (v.kind = 7) && decide (g.kids.length = v.kids.length)
  ·exact ⟨id, fun _ h => h, fun h => by cases h⟩
  ·rw [Bool.and_eq_true, decide_eq_true_eq, decide_eq_true_eq] at hz
   exact ms_L g.kids v.kids m (fun g hg w hw => ih g hg w (treeB_kid hv hw) (hs.kid w hw)) (by omega)
 ·rw [hk]
  show Ms (g.kids.flatMap collP) m (bif decide (v.kind = 8) then matchM g.keys g.kids v m else (false, m)).2 (bif decide (v.kind = 8) then matchM g.keys g.kids v m else (false, m)).1
  cases hz : decide (v.kind = 8)
  ·exact ⟨id, fun _ h => h, fun h => by cases h⟩
  ·exact ms_M g.keys g.kids v m (fun g hg w hw => ih g hg w (treeB_kid hv hw) (hs.kid w hw)) (by omega)
 ·rw [hk, hk0]
  have h0 := ih k0 (by rw [hk0]; simp) v hv hs (putV g.text v m)
  show Ms ([g.text] ++ [k0].flatMap collP) m (matchP k0 v (putV g.text v m)).2 (matchP k0 v (putV g.text v m)).1
  refine ⟨fun h => h0.good (goodM_put h hv hs), fun k h => h0.keep k (has_put v (.inr h)), fun ok k h => ?_⟩
  simp only [List.singleton_append, List.flatMap_cons, List.flatMap_nil, List.append_nil, List.mem_cons] at h
  rcases h with rfl | h
  ·exact h0.keep _ (has_put v (.inl rfl))
  ·exact h0.nm ok k h
termination_by cntP g
decreasing_by exact cntP_kid hk
theorem freshs_dat (k : Nat) : ∀ r : List C, Cell.freshs k (r.map Cell.dat) = true
 | [] => rfl
 | c :: r => by simp [Cell.freshs, Cell.fresh, freshs_dat k r]
def atM (m : ME) (k : List UInt8) : Val := (getV k m).getD zeroVal
def matchV (g : Pat) (v : Val) : List Val × Bool :=
 bif treeB v && (matchP (soundP g) v []).1 then ((namesP g).map (atM (matchP (soundP g) v []).2), true) else ([], false)
theorem sound_twice (g : Pat) : soundP (soundP g) = soundP g := by
 have := soundP_ok g
 rw [soundP.eq_def (soundP g), this]; rfl
theorem names_sound (g : Pat) : namesP (soundP g) = namesP g := by unfold namesP; rw [sound_twice]
theorem Match_c (g : Pat) (v : Val) (hg : PSm g) (hv : Sm v) : PC zP 19 [Pt g, Vt v] (.tup [VsP (matchV g v).1, Bo (matchV g v).2]) := by
 have hs := soundP_sm g
 have h1 := soundP_c g hg
 have h2 := validate_c v hv
 rw [show Pt g = T.st (encP g) from rfl] at h1
 unfold matchV
 cases hz : treeB v <;> rw [hz] at h2
 case false =>
  refine PCB.ob Tryz.func19 Tryz.ntmps19 Tryz.results19 ?_
  repeat' (first | (simp only [go_sem, D, E, H, J, N, O, U, reduceCtorEq, V, W, Y, Z, zL] <;> refine nf ?_) | (refine stp ?_; intro K hK) | (apply hK; clear hK K) | refine stn ?_ | (with_reducible first | refine ⟨_, h1, ?_⟩ | refine ⟨_, h2, ?_⟩) | refine stq ?_ | (clear hK K))
  all_goals exact lf
 have ht := okP_tree (soundP_ok g)
 have h3 := match_c (soundP g) v ht hz []
 have hms := ms_P (soundP g) v [] ht hz hv
 cases hm : (matchP (soundP g) v []).1 <;> rw [hm] at h3
 case false =>
  refine PCB.ob Tryz.func19 Tryz.ntmps19 Tryz.results19 ?_
  repeat' (first | (simp only [go_sem, D, E, H, J, N, O, U, reduceCtorEq, V, W, Y, Z, zL] <;> refine nf ?_) | (refine stp ?_; intro K hK) | (apply hK; clear hK K) | refine stn ?_ | (with_reducible first | refine ⟨_, h1, ?_⟩ | refine ⟨_, h2, ?_⟩) | (refine ⟨12, _, _, _, PCBk.mk 12 h3, rfl, ?_⟩) | refine stq ?_ | (clear hK K))
  all_goals exact lf
 have hnm := NamesP_c (soundP g) hs
 rw [names_sound] at hnm
 have hin : ∀ k ∈ namesP g, Has (matchP (soundP g) v []).2 k := fun k hk => hms.nm hm k ((sortedV_spec _).2 k |>.1 hk)
 have hgood := hms.good (show GoodM [] from fun k w (h : none = some w) => by cases h)
 have hlen : (namesP g).length ≤ 100000000 := by
  have h5 := collP_len (soundP g)
  have h6 := okP_cnt (soundP_ok g)
  have h7 := sorted_len (collP (soundP g))
  unfold namesP; omega
 generalize (matchP (soundP g) v []).2 = M at *
 generalize namesP g = L at *
 refine PCB.ob Tryz.func19 Tryz.ntmps19 Tryz.results19 ?_
 refine AWP.ghQ ?_
 repeat' (first | (simp only [go_sem, D, E, H, J, N, O, U, reduceCtorEq, V, W, Y, Z, zL] <;> refine nf ?_) | (refine stp ?_; intro K hK) | (apply hK; clear hK K) | refine stn ?_ | (with_reducible first | refine ⟨_, h1, ?_⟩ | refine ⟨_, h2, ?_⟩ | refine ⟨_, hnm, ?_⟩) | (refine ⟨12, _, _, _, PCBk.mk 12 h3, rfl, ?_⟩) | refine stq ?_ | fail)
 refine xD (Gh.nilrow 7 900 rfl rfl rfl (by simp [Bx.fresh, freshs_dat])) ?_
 refine AWP.len 24 rfl fun hlen0 => ?_
 (try rw [lB] at hlen0)
 refine xC (S := List Val) (L) Sx.encStr (fun k s => (26, I .i64 (k : Nat)) :: [(7, .one (.own 900 s.length))]) (fun k s => [(900, .row 7 (s.map encVal))]) [6, 24, 25] [12] (fun k s => Is s ((L.take k).map (atM M))) ([]) (by refine st ?_; exact Gh.ts []) ?_ ?_ ?_
 ·simp [Is]
 ·intro k s x hlt hx hx' hb hok
  refine st ?_
  obtain ⟨w, hw⟩ := hin x (lP hx)
  obtain ⟨hw1, hw2⟩ := hgood x w hw
  have hwl : PC zP 43 [.st (encVal w), SsP w.labels] (.st (encVal w)) := withLabels_c w hw2 (labels_asc hw1)
  rw [encVal_eq w] at hwl
  have hae : assoc x (encM M) = some (encVal w) := by rw [assoc_enc, hw]; rfl
  have hsl : s.length ≤ k := by rw [show s = _ from hok, lB, List.length_take]; omega
  repeat' (first | (simp only [go_sem, D, E, H, J, N, O, U, reduceCtorEq, V, W, Y, Z, zL, lB, hb, hae, Option.getD_some, encVal_eq w, Sx.encStr, val_snoc'] <;> refine nf ?_) | (refine stp ?_; intro K hK) | (apply hK; clear hK K) | refine stn ?_ | (with_reducible first | refine ⟨_, hwl, ?_⟩ | refine ⟨by omega, Sx.encStr x, hx', ?_⟩ | (refine ⟨(by first | omega | (simp only [lA, lB, List.length_take, List.length_drop, List.length_cons, List.length_nil, List.length_replicate]; omega) : _ ≤ _), ?_⟩)) | refine stq ?_ | (clear hK K))
  all_goals (rw [wrap_succ hlt hlen0])
  all_goals (refine ⟨s ++ [w], ?_, Gh.ts [(900, 40)]⟩)
  all_goals (rw [Is, List.take_add_one, hx, List.map_append, ← show s = _ from hok]; simp [atM, hw])
 ·intro s hb hok
  refine st ?_
  rw [Is, List.take_length] at hok
  repeat' (first | (simp only [go_sem, D, E, H, J, N, O, U, reduceCtorEq, V, W, Y, Z, zL, lB, hb] <;> refine nf ?_) | (refine stp ?_; intro K hK) | (apply hK; clear hK K) | refine stn ?_ | (clear hK K))
  refine ⟨_, Gh.fs 900, ?_⟩
  simp only [go_sem, D, E, H, J, N, O, U, reduceCtorEq, V, W, Y, Z, zL, lB]
  all_goals (first | exact nn | refine fin0 ?_)
  all_goals (rw [show s = _ from hok])
def lookV : List KeyD → Val → Option (List Val)
 | [], _ => some []
 | k :: ks, v => match valAt v k with
  | some w => (lookV ks v).map (w :: ·)
  | none => none
mutual
def refP : Pat → Val → Option ME
 | ⟨kind, num, text, kids, keys⟩, v =>
  bif decide (kind = 1) then some [] else
  bif decide (kind = 2) then some [(text, v)] else
  bif decide (kind = 10) then (refH kids v).map ((text, v) :: ·) else
  bif decide (kind = 3) then (bif decide (v.kind = 1) && decide (v.num = num) then some [] else none) else
  bif decide (kind = 4) then (bif decide (v.kind = 2) && decide (v.text = text) then some [] else none) else
  bif decide (kind = 5) then (bif decide (v.kind = 3) && decide (v.text = text) then some [] else none) else
  bif decide (kind = 6) then (bif decide (v.kind = 5) then some [] else none) else
  bif decide (kind = 7) then (bif decide (v.kind = 6) && decide (kids.length = v.kids.length) then refL kids v.kids else none) else
  bif decide (kind = 8) then (bif decide (v.kind = 7) && decide (kids.length = v.kids.length) then refL kids v.kids else none) else
  bif decide (v.kind = 8) then (match lookV keys v with | some ws => refL kids ws | none => none) else none
def refH : List Pat → Val → Option ME
 | [], _ => none
 | g :: _, v => refP g v
def refL : List Pat → List Val → Option ME
 | g :: l, v :: vs => match refP g v with
  | some a => (refL l vs).map (a ++ ·)
  | none => none
 | _, _ => some []
end
theorem refP_eq (g : Pat) (v : Val) : refP g v = bif decide (g.kind = 1) then some [] else
    bif decide (g.kind = 2) then some [(g.text, v)] else
    bif decide (g.kind = 10) then (refH g.kids v).map ((g.text, v) :: ·) else
    bif decide (g.kind = 3) then (bif decide (v.kind = 1) && decide (v.num = g.num) then some [] else none) else
    bif decide (g.kind = 4) then (bif decide (v.kind = 2) && decide (v.text = g.text) then some [] else none) else
    bif decide (g.kind = 5) then (bif decide (v.kind = 3) && decide (v.text = g.text) then some [] else none) else
    bif decide (g.kind = 6) then (bif decide (v.kind = 5) then some [] else none) else
    bif decide (g.kind = 7) then (bif decide (v.kind = 6) && decide (g.kids.length = v.kids.length) then refL g.kids v.kids else none) else
    bif decide (g.kind = 8) then (bif decide (v.kind = 7) && decide (g.kids.length = v.kids.length) then refL g.kids v.kids else none) else
    bif decide (v.kind = 8) then (match lookV g.keys v with | some ws => refL g.kids ws | none => none) else none := by cases g; rw [refP]
theorem refL_nil (vs : List Val) : refL [] vs = some [] := by cases vs <;> rfl
theorem refL_drop {l : List Pat} {vs : List Val} {k : Nat} {g : Pat} {v : Val} (hg : l[k]? = some g) (hv : vs[k]? = some v) :
    refL (l.drop k) (vs.drop k) = match refP g v with | some a => (refL (l.drop (k + 1)) (vs.drop (k + 1))).map (a ++ ·) | none => none := by
  obtain ⟨h1, h2⟩ := List.getElem?_eq_some_iff.1 hg
  obtain ⟨h3, h4⟩ := List.getElem?_eq_some_iff.1 hv
  rw [List.drop_eq_getElem_cons h1, List.drop_eq_getElem_cons h3, h2, h4, refL]
  try (cases refP g v <;> rfl)
theorem lookV_drop {ks : List KeyD} {v : Val} {i : Nat} {k : KeyD} (hk : ks[i]? = some k) : lookV (ks.drop i) v = match valAt v k with | some w => (lookV (ks.drop (i + 1)) v).map (w :: ·) | none => none := by
 obtain ⟨h1, h2⟩ := List.getElem?_eq_some_iff.1 hk
 rw [List.drop_eq_getElem_cons h1, h2, lookV]
 try (cases valAt v k <;> rfl)
theorem lookV_mem : ∀ (ks : List KeyD) (v : Val) (ws : List Val), lookV ks v = some ws → ws.length = ks.length ∧ ∀ w ∈ ws, w ∈ v.kids
 | [], v, ws, h => by cases h; exact ⟨rfl, fun w hw => by cases hw⟩
 | k :: ks, v, ws, h => by
  rw [lookV] at h
  cases hv : valAt v k with
  | none => rw [hv] at h; cases h
  | some w =>
   rw [hv] at h
   simp only [Option.map_eq_some_iff] at h
   obtain ⟨us, hu, rfl⟩ := h
   obtain ⟨h1, h2⟩ := lookV_mem ks v us hu
   refine ⟨by simp [h1], fun x hx => ?_⟩
   rcases List.mem_cons.1 hx with rfl | hx
   ·exact valAt_mem hv
   ·exact h2 x hx
theorem refL_names : ∀ (l : List Pat) (vs : List Val) (a : ME), (∀ g ∈ l, ∀ w ∈ vs, ∀ a, refP g w = some a → a.map (·.1) = collP g) → l.length = vs.length → refL l vs = some a → a.map (·.1) = l.flatMap collP
 | [], vs, a, _, _, h => by rw [refL_nil] at h; cases h; rfl
 | g :: l, [], a, _, hlen, _ => by simp at hlen
 | g :: l, v :: vs, a, hn, hlen, h => by
  rw [refL] at h
  cases hr : refP g v with
  | none => rw [hr] at h; cases h
  | some b =>
   rw [hr] at h
   simp only [Option.map_eq_some_iff] at h
   obtain ⟨c, hc, rfl⟩ := h
   rw [List.map_append, hn g (by simp) v (by simp) b hr, refL_names l vs c (fun g hg w hw => hn g (List.mem_cons_of_mem _ hg) w (List.mem_cons_of_mem _ hw)) (by simpa using hlen) hc, List.flatMap_cons]
theorem refP_names (g : Pat) (v : Val) (hg : treeP g = true) (a : ME) (h : refP g v = some a) : a.map (·.1) = collP g := by
 have ih : ∀ k ∈ g.kids, ∀ w : Val, ∀ a, refP k w = some a → a.map (·.1) = collP k := fun k hk w a h => refP_names k w (treeP_kid hg hk) a h
 have hvp := vP_of hg
 rw [collP_eq]
 rw [refP_eq] at h
 rcases kindsP hvp with hk | hk | hk | hk | hk | hk | hk | hk | ⟨hk, hkk⟩ | ⟨hk, k0, hk0⟩
 ·rw [hk] at h; rw [hk, vP_kids0 hvp (by rw [hk]; rfl)]
  have h' : some [] = some a := h
  cases h'; rfl
 ·rw [hk] at h; rw [hk, vP_kids0 hvp (by rw [hk]; rfl)]
  have h' : some [(g.text, v)] = some a := h
  cases h'; rfl
 ·rw [hk] at h; rw [hk, vP_kids0 hvp (by rw [hk]; rfl)]
  have h' : (bif decide (v.kind = 1) && decide (v.num = g.num) then some [] else none) = some a := h
  cases hz : decide (v.kind = 1) && decide (v.num = g.num) <;> rw [hz] at h' <;> cases h'; rfl
 ·rw [hk] at h; rw [hk, vP_kids0 hvp (by rw [hk]; rfl)]
  have h' : (bif decide (v.kind = 2) && decide (v.text = g.text) then some [] else none) = some a := h
  cases hz : decide (v.kind = 2) && decide (v.text = g.text) <;> rw [hz] at h' <;> cases h'; rfl
 ·rw [hk] at h; rw [hk, vP_kids0 hvp (by rw [hk]; rfl)]
  have h' : (bif decide (v.kind = 3) && decide (v.text = g.text) then some [] else none) = some a := h
  cases hz : decide (v.kind = 3) && decide (v.text = g.text) <;> rw [hz] at h' <;> cases h'; rfl
 ·rw [hk] at h; rw [hk, vP_kids0 hvp (by rw [hk]; rfl)]
  have h' : (bif decide (v.kind = 5) then some [] else none) = some a := h
  cases hz : decide (v.kind = 5) <;> rw [hz] at h' <;> cases h'; rfl
 ·rw [hk] at h; rw [hk]
  have h' : (bif decide (v.kind = 6) && decide (g.kids.length = v.kids.length) then refL g.kids v.kids else none) = some a := h
  cases hz : decide (v.kind = 6) && decide (g.kids.length = v.kids.length) <;> rw [hz] at h'
  ·cases h'
  ·rw [Bool.and_eq_true, decide_eq_true_eq, decide_eq_true_eq] at hz
   exact refL_names g.kids v.kids a (fun g hg w hw => ih g hg w) hz.2 h'
 ·rw [hk] at h; rw [hk]
  have h' : (bif decide (v.kind = 7) && decide (g.kids.length = v.kids.length) then refL g.kids v.kids else none) = some a := h
  cases hz : decide (v.kind = 7) && decide (g.kids.length = v.kids.length) <;> rw [hz] at h'
  ·cases h'
  ·rw [Bool.and_eq_true, decide_eq_true_eq, decide_eq_true_eq] at hz
   exact refL_names g.kids v.kids a (fun g hg w hw => ih g hg w) hz.2 h'
 ·rw [hk] at h; rw [hk]
  have h' : (bif decide (v.kind = 8) then (match lookV g.keys v with | some ws => refL g.kids ws | none => none) else none) = some a := h
  cases hz : decide (v.kind = 8) <;> rw [hz] at h'
  ·cases h'
  ·cases hl : lookV g.keys v with
   | none => rw [hl] at h'; cases h'
   | some ws =>
    rw [hl] at h'
    have hlm := lookV_mem _ _ _ hl
    exact refL_names g.kids ws a (fun g hg w hw => ih g hg w) (by omega) h'
 ·rw [hk, hk0] at h; rw [hk, hk0]
  have h' : (refP k0 v).map ((g.text, v) :: ·) = some a := h
  simp only [Option.map_eq_some_iff] at h'
  obtain ⟨b, hb, rfl⟩ := h'
  have := ih k0 (by rw [hk0]; simp) v b hb
  simp [this, nameP]
termination_by cntP g
decreasing_by exact cntP_kid hk
def encN (m : ME) : List (List C) := m.map fun p => Sx.encStr p.1
def encW (m : ME) : List (List C) := m.map fun p => encVal p.2
theorem encN_app (a b : ME) : encN a ++ encN b = encN (a ++ b) := by unfold encN; rw [List.map_append]
theorem encW_app (a b : ME) : encW a ++ encW b = encW (a ++ b) := by unfold encW; rw [List.map_append]
theorem encN_len (a : ME) : (encN a).length = a.length := by unfold encN; rw [lB]
theorem encW_len (a : ME) : (encW a).length = a.length := by unfold encW; rw [lB]
def refR (o : Option ME) : T := .tup [.one (.dat (.sl 1 (encN (o.getD [])))), .one (.dat (.sl 7 (encW (o.getD [])))), Bo o.isSome]
theorem refR_some (l : ME) : refR (some l) = .tup [.one (.dat (.sl 1 (encN l))), .one (.dat (.sl 7 (encW l))), Bo true] := rfl
theorem refR_none : refR none = .tup [.one (.dat (.sl 1 [])), .one (.dat (.sl 7 [])), Bo false] := rfl
theorem refR_b (b : Bool) : refR (bif b then some [] else none) = .tup [.one (.dat (.sl 1 [])), .one (.dat (.sl 7 [])), Bo b] := by cases b <;> rfl
theorem treeB_cons {v : Val} (h : treeB v = true) (hk : v.kind = 7) : v.kids.length = 2 := by
 rw [treeB_kids, Bool.and_eq_true] at h
 have h1 := h.1
 unfold nodeB at h1
 simp only [Bool.and_eq_true] at h1
 have h2 := h1.2.2.2
 unfold bodyB at h2
 simp only [hk, Int.reduceEq, dT, dF, cT, cF, Bool.and_eq_true, decide_eq_true_eq] at h2
 omega
theorem vP_cons {g : Pat} (h : vP g = true) (hk : g.kind = 8) : g.kids.length = 2 := by
 have hb : bodyP g = true := by unfold vP at h; simp only [Bool.and_eq_true] at h; exact h.2
 unfold bodyP at hb
 simp only [hk, Int.reduceEq, dT, dF, Bool.or_false, cT, cF, decide_eq_true_eq] at hb
 omega
theorem refM_7 (g : Pat) (v : Val) (hs : PSm g) (hg : treeP g = true) (hv : treeB v = true) (ih : ∀ k ∈ g.kids, ∀ w : Val, treeB w = true → PC zP 93 [.st (encP k), .st (encVal w)] (refR (refP k w))) (hk : g.kind = 7) : PC zP 93 [Pt g, Vt v] (refR (refP g v)) := by
 have hvp := vP_of hg
 have hce := cntP_eq g
 unfold PSm at hs
 cases hz : decide (v.kind = 6)
 ·
  rw [show refP g v = none from by rw [refP_eq, hk]; show (bif decide (v.kind = 6) && decide (g.kids.length = v.kids.length) then refL g.kids v.kids else none) = none; rw [hz]; rfl]
  refine PCB.ob Tryz.func93 Tryz.ntmps93 Tryz.results93 ?_
  repeat' (first | (simp only [go_sem, D, E, H, J, N, O, U, reduceCtorEq, V, W, Y, Z, zL, encP_eq g, encVal_eq v, hk, hz, lB] <;> refine nf ?_) | (refine stp ?_; intro K hK) | (apply hK; clear hK K) | refine stn ?_ | (clear hK K))
  all_goals (first | exact nn | refine fin0 ?_)
  all_goals rfl
 cases hz2 : decide ((v.kids.length : Int) = (g.kids.length : Int))
 ·
  have hz3 : decide (g.kids.length = v.kids.length) = false := by simp only [decide_eq_false_iff_not] at hz2 ⊢; omega
  rw [show refP g v = none from by rw [refP_eq, hk]; show (bif decide (v.kind = 6) && decide (g.kids.length = v.kids.length) then refL g.kids v.kids else none) = none; rw [hz, hz3]; rfl]
  refine PCB.ob Tryz.func93 Tryz.ntmps93 Tryz.results93 ?_
  repeat' (first | (simp only [go_sem, D, E, H, J, N, O, U, reduceCtorEq, V, W, Y, Z, zL, encP_eq g, encVal_eq v, hk, hz, hz2, lB] <;> refine nf ?_) | (refine stp ?_; intro K hK) | (apply hK; clear hK K) | refine stn ?_ | (clear hK K))
  all_goals (first | exact nn | refine fin0 ?_)
  all_goals rfl
 have hll : v.kids.length = g.kids.length := by simp only [decide_eq_true_eq] at hz2; omega
 have hws : ∀ w ∈ v.kids, treeB w = true := fun w hw => treeB_kid hv hw
 have hfin : refP g v = (refL g.kids v.kids).map ([] ++ ·) := by
  rw [refP_eq, hk]; show (bif decide (v.kind = 6) && decide (g.kids.length = v.kids.length) then refL g.kids v.kids else none) = _; rw [hz, hll]; simp
 refine PCB.ob Tryz.func93 Tryz.ntmps93 Tryz.results93 ?_
 refine AWP.ghQ ?_
 repeat' (first | (simp only [go_sem, D, E, H, J, N, O, U, reduceCtorEq, V, W, Y, Z, zL, encP_eq g, encVal_eq v, hk, hz, hz2, lB] <;> refine nf ?_) | (refine stp ?_; intro K hK) | (apply hK; clear hK K) | refine stn ?_ | fail)
 refine xD (Gh.nilrow 7 901 rfl rfl rfl (by first | rfl | simp [Bx.fresh, freshs_dat])) ?_
 refine xD (Gh.nilrow 8 902 rfl rfl rfl (by first | rfl | simp [Bx.fresh, freshs_dat])) ?_
 refine AWP.lenB 2 3 rfl rfl fun hlen1 => ?_
 (try rw [lB] at hlen1)
 refine xC (S := ME) (g.kids) encP (fun k s => (12, I .i64 (k : Nat)) :: [(7, .one (.own 901 s.length)), (8, .one (.own 902 s.length)), (9, .one (.dat (.sl 7 (v.kids.map encVal))))]) (fun k s => [(901, .row 1 (encN s)), (902, .row 7 (encW s))]) [2] [2] (fun k s => refP g v = (refL (g.kids.drop k) (v.kids.drop k)).map (s ++ ·) ∧ s.length ≤ 1 + cntPs (g.kids.take k)) ([]) (by simp only [go_sem, D, E, H, J, N, O, U, reduceCtorEq, V, W, Y, Z, zL, encP_eq g]; exact Gh.ts []) ?_ ?_ ?_
 ·exact ⟨hfin, by simp⟩
 ·rintro k s x hlt hx hx' hb ⟨hok, hsl⟩
  refine st ?_
  obtain ⟨w, hw, hw', _, _⟩ := at_lt (enc := encVal) (l := v.kids) (k := k) (by have := hll; omega)
  have hmx : x ∈ g.kids := lP hx
  have hix := ih x hmx w (hws w (lP hw))
  have hct := cntPs_take hx
  have hcl := cntPs_le g.kids (k + 1)
  rw [refL_drop hx hw] at hok
  cases hr : refP x w with
  | none =>
   rw [hr] at hok hix
   rw [refR_none] at hix
   repeat' (first | (simp only [go_sem, D, E, H, J, N, O, U, reduceCtorEq, V, W, Y, Z, zL, encP_eq g, lB, hb] <;> refine nf ?_) | (refine stp ?_; intro K hK) | (apply hK; clear hK K) | refine stn ?_ | (with_reducible first | refine ⟨_, hix, ?_⟩ | refine ⟨by omega, encP x, hx', ?_⟩ | refine ⟨by omega, encVal w, hw', ?_⟩) | (refine stp' ?_; intro K hK) | (clear hK K))
   all_goals (refine ⟨_, Gh.refl _, ?_⟩; simp only [go_sem, D, E, H, J, N, O, U, reduceCtorEq, V, W, Y, Z, zL]; refine fin0 ?_)
   all_goals (rw [hok]; rfl)
  | some a =>
   have hna := refP_names x w (treeP_kid hg hmx) a hr
   have hal : a.length ≤ cntP x := by have := congrArg List.length hna; rw [lB] at this; have := collP_len x; omega
   rw [hr] at hok hix
   rw [refR_some] at hix
   repeat' (first | (simp only [go_sem, D, E, H, J, N, O, U, reduceCtorEq, V, W, Y, Z, zL, encP_eq g, lB, encN_len, encW_len, encN_app, encW_app, hb] <;> refine nf ?_) | (refine stp ?_; intro K hK) | (apply hK; clear hK K) | refine stn ?_ | (with_reducible first | refine ⟨_, hix, ?_⟩ | refine ⟨by omega, encP x, hx', ?_⟩ | refine ⟨by omega, encVal w, hw', ?_⟩ | refine ⟨(by omega : _ ≤ _), ?_⟩) | (refine stp' ?_; intro K hK) | (clear hK K))
   all_goals (rw [wrap_succ hlt hlen1])
   all_goals (refine ⟨s ++ a, ?_, Gh.ts [(901, 162), (902, 165)]⟩)
   all_goals (refine ⟨?_, by rw [lA]; omega⟩; rw [hok]; simp only [Option.map_map]; congr 1; funext z; simp)
 ·rintro s hb ⟨hok, hsl⟩
  refine st ?_
  rw [List.drop_length, refL_nil] at hok
  repeat' (first | (simp only [go_sem, D, E, H, J, N, O, U, reduceCtorEq, V, W, Y, Z, zL, encP_eq g, lB, hb] <;> refine nf ?_) | (refine stp ?_; intro K hK) | (apply hK; clear hK K) | refine stn ?_ | (clear hK K))
  refine GhQ.step (Gh.freeze 901 rfl rfl (by simp only [go_sem, D, E, H, J, N, O, U, reduceCtorEq, V, W, Y, Z, zL, encN_len, encW_len]) (by simp only [go_sem, D, E, H, J, N, O, U, reduceCtorEq, V, W, Y, Z, zL, encN_len, encW_len])) ?_
  simp only [go_sem, D, E, H, J, N, O, U, reduceCtorEq, V, W, Y, Z, zL, encN_len, encW_len]
  refine ⟨_, Gh.freeze 902 rfl rfl (by simp only [go_sem, D, E, H, J, N, O, U, reduceCtorEq, V, W, Y, Z, zL, encN_len, encW_len]) (by simp only [go_sem, D, E, H, J, N, O, U, reduceCtorEq, V, W, Y, Z, zL, encN_len, encW_len]), ?_⟩
  simp only [go_sem, D, E, H, J, N, O, U, reduceCtorEq, V, W, Y, Z, zL, encN_len, encW_len]
  all_goals (first | exact nn | refine fin0 ?_)
  all_goals (rw [hok]; simp [refR])
end Go.Proofs.YtajfdbdklphonaaGreat
