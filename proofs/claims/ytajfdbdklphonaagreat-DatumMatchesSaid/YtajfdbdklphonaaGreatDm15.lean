/- Lemmas; conditions: as each states. -/
import Derived.Test.YtajfdbdklphonaaGreatDm15b
open Go.Proofs.Tryz renaming prog → zP
open List renaming length_append → lA, length_map → lB, length_cons → lC, length_nil → lD, map_cons → lE, take_length → lK, take_add_one → lO, mem_of_getElem? → lP, length_take → lQ
open Go.Sx.AWP renaming range → xC, gh → xD, len → xF
open Go.Sx.Gh renaming nilrow → xI
open Nat renaming reduceBEq → D, reduceBNe → E, reduceAdd → H, reduceSub → J, reduceMul → N, reduceLeDiff → O, reduceLT → U, reduceEqDiff → V
open Int renaming reduceToNat → W, reduceLE → Y, reduceLT → Z, reduceEq → zL
set_option linter.unusedVariables false
set_option linter.unusedSimpArgs false
set_option maxRecDepth 20000
set_option maxHeartbeats 16000000
namespace Go.Proofs.YtajfdbdklphonaaGreat
open Go Go.Sx
theorem refL_get : ∀ (l : List Pat) (ws : List Val) (a : ME), refL l ws = some a → ∀ (i : Nat) (k : Pat) (w : Val), l[i]? = some k → ws[i]? = some w → ∃ b, refP k w = some b
 | [], ws, a, h, i, k, w, hk, hw => by simp at hk
 | g :: l, [], a, h, i, k, w, hk, hw => by simp at hw
 | g :: l, x :: ws, a, h, i, k, w, hk, hw => by
  rw [refL] at h
  cases hr : refP g x with
  | none => rw [hr] at h; cases h
  | some b =>
   rw [hr] at h
   simp only [Option.map_eq_some_iff] at h
   obtain ⟨c, hc, _⟩ := h
   cases i with
   | zero =>
    simp only [List.getElem?_cons_zero, Option.some.injEq] at hk hw
    subst hk hw
    exact ⟨b, hr⟩
   | succ i =>
    simp only [List.getElem?_cons_succ] at hk hw
    exact refL_get l ws c hc i k w hk hw
theorem look_in (d : Dat) (hk : d.kind ≠ 9) : ∀ (ks : List KeyD) (ws : List Val), lookV ks (eraseV d) = some ws → ∀ k ∈ ks, 0 ≤ findI (fun x => sameK k x) 0 d.keys
 | [], ws, h, k, hm => by cases hm
 | k :: ks, ws, h, y, hm => by
  rw [lookV] at h
  cases hv : valAt (eraseV d) k with
  | none => rw [hv] at h; cases h
  | some w =>
   rw [hv] at h
   simp only [Option.map_eq_some_iff] at h
   obtain ⟨us, hu, _⟩ := h
   rcases List.mem_cons.1 hm with rfl | hm
   ·unfold valAt at hv
    rw [erase_keys d hk] at hv
    cases hz : decide (findI (fun x => sameK y x) 0 d.keys < 0)
    ·rw [decide_eq_false_iff_not] at hz; omega
    ·rw [hz, cT] at hv; cases hv
   ·exact look_in d hk ks us hu y hm
theorem okN_of (g : Pat) (d : Dat) (hg : treeP g = true) (hd : treeB (eraseV d) = true) (a : ME) (h : refP g (eraseV d) = some a) : OkN g d := by
 have ih : ∀ k ∈ g.kids, ∀ x : Dat, treeB (eraseV x) = true → ∀ a, refP k (eraseV x) = some a → OkN k x := fun k hk x hx a h => okN_of k x (treeP_kid hg hk) hx a h
 have hvp := vP_of hg
 rw [refP_eq, erase_kind] at h
 have leaf : g.kids = [] → g.kind ≠ 9 → OkN g d := fun hk0 h9 => OkN.mk (fun _ => by rw [hk0]; simp) (fun h => absurd h h9) fun i k hk => by rw [hk0] at hk; simp at hk
 rcases kindsP hvp with hk | hk | hk | hk | hk | hk | hk | hk | ⟨hk, hkk⟩ | ⟨hk, k0, hk0⟩
 iterate 6 exact leaf (vP_kids0 hvp (by rw [hk]; rfl)) (by omega)
 ·rw [hk] at h
  have h' : (bif decide (d.kind = 6) && decide (g.kids.length = (eraseV d).kids.length) then refL g.kids (eraseV d).kids else none) = some a := h
  cases hz : decide (d.kind = 6) && decide (g.kids.length = (eraseV d).kids.length) <;> rw [hz] at h'
  ·cases h'
  ·rw [Bool.and_eq_true, decide_eq_true_eq, decide_eq_true_eq] at hz
   have h9 : d.kind ≠ 9 := by omega
   rw [erase_kids d h9, lB] at hz
   rw [erase_kids d h9] at h'
   refine OkN.mk (fun _ => by omega) (fun h => by omega) fun i k hki => ?_
   have hi : i < d.kids.length := by have := (List.getElem?_eq_some_iff.1 hki).1; omega
   have hy : d.kids[i]? = some d.kids[i] := List.getElem?_eq_getElem hi
   have hyy : (d.kids.map eraseV)[i]? = some (eraseV d.kids[i]) := by rw [List.getElem?_map, hy]; rfl
   rw [part7 (.inl hk) hy]
   obtain ⟨b, hb⟩ := refL_get g.kids (d.kids.map eraseV) a h' i k _ hki hyy
   exact ih k (lP hki) _ (treeB_kidE hd h9 (List.getElem_mem hi)) b hb
 ·rw [hk] at h
  have h' : (bif decide (d.kind = 7) && decide (g.kids.length = (eraseV d).kids.length) then refL g.kids (eraseV d).kids else none) = some a := h
  cases hz : decide (d.kind = 7) && decide (g.kids.length = (eraseV d).kids.length) <;> rw [hz] at h'
  ·cases h'
  ·rw [Bool.and_eq_true, decide_eq_true_eq, decide_eq_true_eq] at hz
   have h9 : d.kind ≠ 9 := by omega
   rw [erase_kids d h9, lB] at hz
   rw [erase_kids d h9] at h'
   refine OkN.mk (fun _ => by omega) (fun h => by omega) fun i k hki => ?_
   have hi : i < d.kids.length := by have := (List.getElem?_eq_some_iff.1 hki).1; omega
   have hy : d.kids[i]? = some d.kids[i] := List.getElem?_eq_getElem hi
   have hyy : (d.kids.map eraseV)[i]? = some (eraseV d.kids[i]) := by rw [List.getElem?_map, hy]; rfl
   rw [part7 (.inr hk) hy]
   obtain ⟨b, hb⟩ := refL_get g.kids (d.kids.map eraseV) a h' i k _ hki hyy
   exact ih k (lP hki) _ (treeB_kidE hd h9 (List.getElem_mem hi)) b hb
 ·rw [hk] at h
  have h' : (bif decide (d.kind = 8) then (match lookV g.keys (eraseV d) with | some ws => refL g.kids ws | none => none) else none) = some a := h
  cases hz : decide (d.kind = 8) <;> rw [hz] at h'
  ·cases h'
  ·have h8 := of_decide_eq_true hz
   have h9 : d.kind ≠ 9 := by omega
   have hlen : d.keys.length = d.kids.length := by
    have := treeB_map hd (by rw [erase_kind]; exact h8)
    rw [erase_keys d h9, erase_kids d h9, lB] at this; exact this
   cases hl : lookV g.keys (eraseV d) with
   | none => rw [hl] at h'; cases h'
   | some ws =>
    rw [hl] at h'
    obtain ⟨hw, hm⟩ := look_D d h9 hlen g.keys ws hl
    have hin := look_in d h9 g.keys ws hl
    have h'' : refL g.kids ((g.keys.map (atD d)).map eraseV) = some a := by rw [← hw]; exact h'
    refine OkN.mk (fun h => by omega) (fun _ => ⟨by omega, h8, hlen, hin⟩) fun i k hki => ?_
    have hi : i < g.keys.length := by have := (List.getElem?_eq_some_iff.1 hki).1; omega
    have hy : g.keys[i]? = some g.keys[i] := List.getElem?_eq_getElem hi
    have hyy : ((g.keys.map (atD d)).map eraseV)[i]? = some (eraseV (atD d g.keys[i])) := by rw [List.getElem?_map, List.getElem?_map, hy]; rfl
    rw [part9 hk hy]
    obtain ⟨b, hb⟩ := refL_get g.kids _ a h'' i k _ hki hyy
    exact ih k (lP hki) _ (treeB_kidE hd h9 (hm _ (List.getElem_mem hi))) b hb
 ·rw [hk, hk0] at h
  have h' : (refP k0 (eraseV d)).map ((g.text, eraseV d) :: ·) = some a := h
  simp only [Option.map_eq_some_iff] at h'
  obtain ⟨b, hb, _⟩ := h'
  refine OkN.mk (fun h => by omega) (fun h => by omega) fun i k hki => ?_
  have hkm := lP hki
  rw [part0 (by rw [hk]; rfl) (by rw [hk]; rfl) (by rw [hk]; rfl)]
  have hk1 : k = k0 := by rw [hk0] at hkm; simpa using hkm
  subst hk1
  exact ih k hkm d hd b hb
termination_by cntP g
decreasing_by exact cntP_kid hk
theorem zero_ndg : NdG zeroDat := NdG.leaf rfl rfl
def Gd (d : Dat) : Prop := NdG d ∧ bulkD d ≤ 1000000
theorem Gd.cl {d : Dat} (h : Gd d) : DCl d := cl_of d h.1 h.2
theorem Gd.kid {d : Dat} (h : Gd d) : ∀ k ∈ d.kids, Gd k := fun k hk => ⟨h.1.kid k hk, by have := bulkD_kid hk; have := h.2; omega⟩
theorem zero_gd : Gd zeroDat := ⟨zero_ndg, by rw [bulkD_eq]; simp [zeroDat, bulkDs]⟩
theorem getD_gd {d : Dat} (h : Gd d) (i : Nat) : Gd (d.kids.getD i zeroDat) := by
 rw [List.getD_eq_getElem?_getD]
 cases hx : d.kids[i]? with
 | none => exact zero_gd
 | some x => exact h.kid x (lP hx)
theorem part_gd {d : Dat} (h : Gd d) (k : Int) (ks : List KeyD) (i : Nat) : Gd (partD k ks d i) := by
 unfold partD
 cases decide (k = 7) || decide (k = 8)
 ·cases decide (k = 9)
  ·exact h
  ·show Gd (atD d _)
   unfold atD
   cases decide (findI (fun x => sameK (ks.getD i ⟨0, []⟩) x) 0 d.keys < 0)
   ·exact getD_gd h _
   ·exact zero_gd
 ·exact getD_gd h _
mutual
theorem namD_gd : ∀ (g : Pat) (d : Dat), Gd d → ∀ p ∈ namD g d, Gd p.2
 | ⟨kind, num, text, kids, keys⟩, d, h, p, hp => by
  rw [namD] at hp
  rcases List.mem_append.1 hp with hp | hp
  ·cases hn : nameP kind <;> rw [hn] at hp
   ·cases hp
   ·rw [List.mem_singleton.1 hp]; exact h
  ·exact namDs_gd kids _ 0 (fun j => part_gd h _ _ j) p hp
theorem namDs_gd : ∀ (l : List Pat) (f : Nat → Dat) (i : Nat), (∀ j, Gd (f j)) → ∀ p ∈ namDs l f i, Gd p.2
 | [], f, i, h, p, hp => by rw [namDs] at hp; cases hp
 | g :: l, f, i, h, p, hp => by
  rw [namDs] at hp
  rcases List.mem_append.1 hp with hp | hp
  ·exact namD_gd g _ (h i) p hp
  ·exact namDs_gd l f (i + 1) h p hp
end
theorem findN_gd {l : NE} (h : ∀ p ∈ l, Gd p.2) (s : List UInt8) : Gd (findN l s).1 := by
 unfold findN
 cases hf : l.find? (fun p => decide (p.1 = s)) with
 | none => exact zero_gd
 | some p => exact h p (List.mem_of_find?_eq_some hf)
def lastN (l : NE) (s : List UInt8) (x : Dat) : Dat := l.foldl (fun x p => bif decide (p.1 = s) then p.2 else x) x
theorem lastN_no : ∀ (l : NE) (s : List UInt8) (x : Dat), s ∉ l.map (·.1) → lastN l s x = x
 | [], s, x, _ => rfl
 | p :: l, s, x, h => by
  rw [lE, List.mem_cons, not_or] at h
  unfold lastN
  rw [List.foldl_cons, decide_eq_false (fun e => h.1 e.symm)]
  exact lastN_no l s x h.2
theorem last_first : ∀ (l : NE) (s : List UInt8), (l.map (·.1)).Nodup → lastN l s zeroDat = (findN l s).1
 | [], s, _ => rfl
 | p :: l, s, h => by
  rw [lE, List.nodup_cons] at h
  unfold lastN findN
  rw [List.foldl_cons, List.find?_cons]
  cases hp : decide (p.1 = s)
  ·have := last_first l s h.2
   unfold lastN findN at this
   exact this
  ·have e := of_decide_eq_true hp
   exact lastN_no l s p.2 (by rw [← e]; exact h.1)
theorem lastN_snoc (l : NE) (s : List UInt8) (x : Dat) (p : List UInt8 × Dat) : lastN (l ++ [p]) s x = bif decide (p.1 = s) then p.2 else lastN l s x := by
 unfold lastN; rw [List.foldl_append]; rfl
theorem containsStr_c (l : List (List UInt8)) (s : List UInt8) : PC zP 22 [.one (.dat (.sl 1 (l.map Sx.encStr))), S s] (Bo (l.any fun x => decide (s = x))) := by
 have h := indexStr_c l s
 refine PCB.ob Tryz.func22 Tryz.ntmps22 Tryz.results22 ?_
 repeat' (first | (simp only [go_sem, D, E, H, J, N, O, U, reduceCtorEq, V, W, Y, Z, zL] <;> refine nf ?_) | (refine stp ?_; intro K hK) | (apply hK; clear hK K) | refine stn ?_ | (with_reducible refine ⟨_, h, ?_⟩) | refine stq ?_ | fail)
 all_goals (refine fin0 ?_; rw [find_any])
def matC (g : Pat) (q : Grd) (ns : List (List UInt8)) : List C := [.int .i64 g.kind, .int .i64 g.num, .str g.text, .sl 5 (g.kids.map encP), .sl 2 (g.keys.map encKey), .int .i64 q.kind, .str q.name, .int .i64 q.num, .str q.text, .int .i64 q.key.kind, .str q.key.text, .sl 7 (q.kids.map encG), .sl 1 (ns.map Sx.encStr), .sl 1 []]
theorem matchV_sm (g : Pat) (v : Val) (hv : Sm v) : ∀ w ∈ (matchV g v).1, Sm w := by
 unfold matchV
 cases hz : treeB v && (matchP (soundP g) v []).1
 ·intro w hw; cases hw
 ·rw [Bool.and_eq_true] at hz
  have hms := ms_P (soundP g) v [] (okP_tree (soundP_ok g)) hz.1 hv
  have hin : ∀ k ∈ namesP g, Has (matchP (soundP g) v []).2 k := fun k hk => hms.nm hz.2 k ((sortedV_spec _).2 k |>.1 hk)
  have hgood := hms.good (show GoodM [] from fun k w (h : none = some w) => by cases h)
  intro w hw
  obtain ⟨k, hk, rfl⟩ := List.mem_map.1 hw
  obtain ⟨w, hw⟩ := hin k hk
  rw [atM, hw]; exact (hgood k w hw).2
def atN (g : Pat) (d : Dat) (s : List UInt8) : Dat := bif (namesP g).any (fun x => decide (s = x)) then (findN (namD g d) s).1 else zeroDat
def okD (g : Pat) (q : Grd) (d : Dat) : Bool := (matchV g (eraseV d)).2 && evW (namesP g) (matchV g (eraseV d)).1 q
def outD (g : Pat) (q : Grd) (ns : List (List UInt8)) (d : Dat) : List Dat := bif okD g q d then ns.map (atN g d) else []
abbrev DsD (l : List Dat) : T := .one (.dat (.sl 13 (l.map encDat)))
theorem any_mem {l : List (List UInt8)} {s : List UInt8} : l.any (fun x => decide (s = x)) = true ↔ s ∈ l := by
 rw [List.any_eq_true]
 constructor
 ·rintro ⟨x, hx, h⟩; rw [of_decide_eq_true h]; exact hx
 ·exact fun h => ⟨s, h, decide_eq_true rfl⟩
theorem names_ok {g : Pat} {s : List UInt8} (h : s ∈ namesP g) : soundP g = g := by
 unfold soundP
 cases ho : okP g
 ·exfalso
  unfold namesP soundP at h
  rw [ho] at h
  have := (sortedV_spec _).2 s |>.1 h
  have e : collP anyP = [] := by unfold anyP; simp [collP, collPs, nameP]
  rw [show (bif false then g else anyP) = anyP from rfl, e] at this
  cases this
 ·rfl
theorem match_part {g : Pat} {d : Dat} (h : (matchV g (eraseV d)).2 = true) : treeB (eraseV d) = true ∧ refP (soundP g) (eraseV d) = some (eraN (namD (soundP g) d)) ∧ OkN (soundP g) d := by
 have hv : treeB (eraseV d) = true := by
  unfold matchV at h
  cases hz : treeB (eraseV d)
  ·rw [hz] at h; cases h
  ·rfl
 rw [matchV_ref g _ hv] at h
 cases hr : refP (soundP g) (eraseV d) with
 | none => rw [hr] at h; cases h
 | some a =>
  have ht := okP_tree (soundP_ok g)
  have ha := nam_P (soundP g) d ht hv a hr
  exact ⟨hv, by rw [← ha], okN_of (soundP g) d ht hv a hr⟩
theorem zero_enc : encDat zeroDat = [.int .i64 0, .int .i64 0, .str [], .sl 13 [], .sl 2 [], .str [], .int .i64 0, .int .i64 0, .bool false, .sl 8 [], .int .i64 0, .str [], .str []] := by rw [encDat_eq]; rfl
theorem dMatch_c (g : Pat) (q : Grd) (ns : List (List UInt8)) (d : Dat) (hg : PSm g) (hq : GSm q) (hd : Gd d) (hns : ns.length ≤ 1000) :
    PC zP 7 [.st (matC g q ns), .st (encDat d)] (.tup [DsD (outD g q ns d), Bo (okD g q d)]) := by
  have hcl := hd.cl
  have hsm : Sm (eraseV d) := by have := bulk_erase d; have := hd.2; unfold Sm; omega
  have c1 := erase_c d hcl.small
  have c2 := Match_c g (eraseV d) hg hsm
  have c3 := NamesP_c g hg
  have c4 := Evaluate_c (namesP g) (matchV g (eraseV d)).1 (matchV_sm g _ hsm) q hq
  have hfnd : (matchV g (eraseV d)).2 = true → ∀ s ∈ namesP g, PC zP 23 [Pt g, Dt d, S s] (.tup [Dt (findN (namD g d) s).1, Bo (findN (namD g d) s).2]) := fun h s hs => by
    have e := names_ok hs
    have := (match_part h).2.2
    rw [e] at this
    exact find_x g d s this
  have hgd : ∀ s, Gd (findN (namD g d) s).1 := fun s => findN_gd (namD_gd g d hd) s
  have cz := cloneDat_c zeroDat zero_gd.cl
  have cz : PC zP 24 [.st [.int .i64 0, .int .i64 0, .str [], .sl 13 [], .sl 2 [], .str [], .int .i64 0, .int .i64 0, .bool false, .sl 8 [], .int .i64 0, .str [], .str []]] (.st (encDat zeroDat)) := by rw [← zero_enc]; exact cz
  simp only [Pt, encP_eq g] at c2 c3 hfnd
  simp only [Gt, encG_eq q] at c4
  unfold outD okD
  have hat : ∀ s, atN g d s = bif (namesP g).any (fun x => decide (s = x)) then (findN (namD g d) s).1 else zeroDat := fun s => rfl
  generalize atN g d = at0 at hat ⊢
  generalize evW (namesP g) (matchV g (eraseV d)).1 q = ev at *
  generalize (matchV g (eraseV d)).1 = ws at *
  cases hok : (matchV g (eraseV d)).2 <;> rw [hok] at c2 hfnd
  case false =>
    refine PCB.ob Tryz.func7 Tryz.ntmps7 Tryz.results7 ?_
    repeat' (first | (simp only [go_sem, D, E, H, J, N, O, U, reduceCtorEq, V, W, Y, Z, zL, matC] <;> refine nf ?_) | (refine stp ?_; intro K hK) | (apply hK; clear hK K) | refine stn ?_ | (with_reducible first | refine ⟨_, c1, ?_⟩ | refine ⟨_, c2, ?_⟩) | (refine stp' ?_; intro K hK) | (clear hK K))
    all_goals exact lf
  cases ev
  case false =>
    refine PCB.ob Tryz.func7 Tryz.ntmps7 Tryz.results7 ?_
    repeat' (first | (simp only [go_sem, D, E, H, J, N, O, U, reduceCtorEq, V, W, Y, Z, zL, matC] <;> refine nf ?_) | (refine stp ?_; intro K hK) | (apply hK; clear hK K) | refine stn ?_ | (with_reducible first | refine ⟨_, c1, ?_⟩ | refine ⟨_, c2, ?_⟩ | refine ⟨_, c3, ?_⟩ | refine ⟨_, c4, ?_⟩) | (refine stp' ?_; intro K hK) | (clear hK K))
    all_goals exact lf
  have hfnd := hfnd rfl
  generalize hL : namesP g = L at *
  refine PCB.ob Tryz.func7 Tryz.ntmps7 Tryz.results7 ?_
  refine AWP.ghQ ?_
  repeat' (first | (simp only [go_sem, D, E, H, J, N, O, U, reduceCtorEq, V, W, Y, Z, zL, matC] <;> refine nf ?_) | (refine stp ?_; intro K hK) | (apply hK; clear hK K) | refine stn ?_ | (with_reducible first | refine ⟨_, c1, ?_⟩ | refine ⟨_, c2, ?_⟩ | refine ⟨_, c3, ?_⟩ | refine ⟨_, c4, ?_⟩) | (refine stp' ?_; intro K hK) | refine stq ?_ | fail)
  refine xD (xI 9 900 rfl rfl rfl (by simp [Bx.fresh, freshs_dat, Cell.freshs, Cell.fresh])) ?_
  refine xF 37 rfl fun hlen0 => ?_
  (try rw [lB] at hlen0)
  refine xC (S := List Dat) (ns) Sx.encStr (fun k s => (39, I .i64 (k : Nat)) :: [(9, .one (.own 900 s.length))]) (fun k s => [(900, .row 13 (s.map encDat))]) [2, 3, 8, 37, 38] [2, 3] (fun k s => Is s ((ns.take k).map at0)) ([]) (by simp only [go_sem, D, E, H, J, N, O, U, reduceCtorEq, V, W, Y, Z, zL, matC]; exact Gh.ts []) ?_ ?_ ?_
  · simp [Is]
  · intro k s x hlt hx hx' hb hok2
    refine st ?_
    have hsl : s.length ≤ k := by rw [show s = _ from hok2, lB, lQ]; omega
    have hax := hat x
    have c5 := containsStr_c L x
    have c7 := cloneDat_c _ (hgd x).cl
    cases hz : L.any (fun y => decide (x = y)) <;> rw [hz] at hax c5
    ·
      repeat' (first | (simp only [go_sem, D, E, H, J, N, O, U, reduceCtorEq, V, W, Y, Z, zL, matC, hb, lB, datN_snoc] <;> refine nf ?_) | (refine stp ?_; intro K hK) | (apply hK; clear hK K) | refine stn ?_ | (with_reducible first | refine ⟨_, c5, ?_⟩ | refine ⟨_, cz, ?_⟩ | refine ⟨by omega, Sx.encStr x, hx', ?_⟩ | (refine ⟨(by first | omega | (simp only [lA, lB, lQ, List.length_drop, lC, lD, List.length_replicate]; omega) : _ ≤ _), ?_⟩)) | refine stq ?_ | (clear hK K))
      all_goals (rw [wrap_succ hlt hlen0])
      all_goals (refine ⟨s ++ [zeroDat], ?_, Gh.ts [(900, 59)]⟩)
      all_goals (rw [Is, lO, hx, List.map_append, ← show s = _ from hok2]; show _ = s ++ [at0 x]; rw [hax]; rfl)
    · have c6 := hfnd x (any_mem.1 hz)
      generalize (findN (namD g d) x).1 = r at *
      generalize (findN (namD g d) x).2 = rb at *
      repeat' (first | (simp only [go_sem, D, E, H, J, N, O, U, reduceCtorEq, V, W, Y, Z, zL, matC, hb, lB, datN_snoc, Sx.encStr] <;> refine nf ?_) | (refine stp ?_; intro K hK) | (apply hK; clear hK K) | refine stn ?_ | (with_reducible first | refine ⟨_, c5, ?_⟩ | refine ⟨_, c6, ?_⟩ | refine ⟨_, c7, ?_⟩ | refine ⟨by omega, Sx.encStr x, hx', ?_⟩ | (refine ⟨(by first | omega | (simp only [lA, lB, lQ, List.length_drop, lC, lD, List.length_replicate]; omega) : _ ≤ _), ?_⟩)) | refine stq ?_ | (clear hK K))
      all_goals (rw [wrap_succ hlt hlen0])
      all_goals (refine ⟨s ++ [r], ?_, Gh.ts [(900, 59)]⟩)
      all_goals (rw [Is, lO, hx, List.map_append, ← show s = _ from hok2]; show _ = s ++ [at0 x]; rw [hax]; rfl)
  · intro s hb hok2
    refine st ?_
    rw [Is, lK] at hok2
    repeat' (first | (simp only [go_sem, D, E, H, J, N, O, U, reduceCtorEq, V, W, Y, Z, zL, lB, hb] <;> refine nf ?_) | (refine stp ?_; intro K hK) | (apply hK; clear hK K) | refine stn ?_ | (clear hK K))
    refine ⟨_, Gh.fs 900, ?_⟩
    simp only [go_sem, D, E, H, J, N, O, U, reduceCtorEq, V, W, Y, Z, zL, lB]
    all_goals (first | exact nn | refine fin0 ?_)
    all_goals (rw [show s = _ from hok2]; try rfl)
def encN1 (p : List UInt8 × Dat) : List C := [.str p.1]
def encN2 (p : List UInt8 × Dat) : List C := encDat p.2
theorem strP_map (A : NE) : (A.map (·.1)).map Sx.encStr = A.map encN1 := by rw [List.map_map]; rfl
theorem datP_map (A : NE) : (A.map (·.2)).map encDat = A.map encN2 := by rw [List.map_map]; rfl
theorem named_n (g : Pat) (d : Dat) (ho : OkN g d) (hs : cntP g ≤ 100000000) : PCX zP 29 [Pt g, Dt d, .one (.dat (.nil 1)), .one (.dat (.nil 13))] []
    (.tup [.one (.own 1900 (namD g d).length), .one (.own 1901 (namD g d).length)]) [(1900, .row 1 ((namD g d).map encN1)), (1901, .row 13 ((namD g d).map encN2))] := by
  have h := (named_x g d ho [] [] (by simpa using hs) rfl).ren (fun k => k) 1000 (args1 := [Pt g, Dt d, .one (.own 900 0), .one (.own 901 0)]) (B1 := [(900, .row 1 []), (901, .row 13 [])])
    (r1 := (.tup [.one (.own 1900 (namD g d).length), .one (.own 1901 (namD g d).length)])) (B1' := [(1900, .row 1 ((namD g d).map encN1)), (1901, .row 13 ((namD g d).map encN2))]) rfl rfl rfl (by simp [T.ren, T.rens, Cell.ren]) (by rw [← strP_map, ← datP_map]; simp [Bx.ren, Res.ren])
  refine h.nils (fun p hp => ?_) rfl fun M vs ν hr => ?_
  · simp only [List.mem_cons, List.not_mem_nil, or_false] at hp
    rcases hp with rfl | rfl
    · exact ⟨_, rfl⟩
    · exact ⟨_, rfl⟩
  · simp only [T.reps, T.rep, Cell.rep, C.rep] at hr ⊢
    obtain ⟨v1, t1, e1, r1, v2, t2, e2, r2, v3, t3, e3, r3, v4, t4, e4, r4, e5⟩ := hr
    exact ⟨v1, t1, e1, r1, v2, t2, e2, r2, v3, t3, e3, by rw [r3]; rfl, v4, t4, e4, by rw [r4]; rfl, e5⟩
def outR (g : Pat) (q : Grd) (ns : List (List UInt8)) (d : Dat) : List Dat := bif okD g q d then ns.map (fun s => lastN (namD (soundP g) d) s zeroDat) else []
theorem matchV_sound (g : Pat) (v : Val) : matchV (soundP g) v = matchV g v := by unfold matchV; rw [sound_twice, names_sound]
theorem mDatum_c (g : Pat) (q : Grd) (ns : List (List UInt8)) (d : Dat) (hg : PSm g) (hq : GSm q) (hd : Gd d) (hns : ns.length ≤ 1000) :
    PC zP 8 [.st (matC g q ns), .st (encDat d)] (.tup [DsD (outR g q ns d), Bo (okD g q d)]) := by
  have hcl := hd.cl
  have hsm : Sm (eraseV d) := by have := bulk_erase d; have := hd.2; unfold Sm; omega
  have hsp := soundP_sm g
  have c1 := refErase_c d hcl.small
  have c2 : PC zP 25 [.st (encP g)] (Pt (soundP g)) := taken_c g hg
  have c3 : PC zP 26 [.st (encP (soundP g)), .st (encVal (eraseV d))] (.tup [Bds (bdM (soundP g) (eraseV d)), Bo (matchV (soundP g) (eraseV d)).2]) := match26_c (soundP g) (eraseV d) hsp hsm
  rw [matchV_sound] at c3
  have hbl : (matchV g (eraseV d)).2 = true → PC zP 28 [.st (encG q), Bds (bdM (soundP g) (eraseV d))] (Bo (evW (namesP g) (matchV g (eraseV d)).1 q)) := fun h => by
    have hl := matchV_len g (eraseV d) h
    have e : bdM (soundP g) (eraseV d) = (namesP g).zip (matchV g (eraseV d)).1 := by unfold bdM; rw [matchV_sound, h, names_sound]; rfl
    rw [e]
    have := evaluate26_c q ((namesP g).zip (matchV g (eraseV d)).1) hq (by rw [List.length_zip]; have := namesP_len g; omega)
    rw [List.map_fst_zip (by omega), List.map_snd_zip (by omega)] at this
    exact this
  have c5 : (matchV g (eraseV d)).2 = true → PCX zP 29 [.st (encP (soundP g)), .st (encDat d), .one (.dat (.nil 1)), .one (.dat (.nil 13))] [] _ _ := fun h => named_n (soundP g) d (match_part h).2.2 hsp
  have hnl : (namD (soundP g) d).length ≤ 100000000 := by have := namD_len (soundP g) d; unfold PSm at hsp; omega
  rw [encP_eq g] at c2
  rw [encG_eq q] at hbl
  unfold outR okD
  generalize evW (namesP g) (matchV g (eraseV d)).1 q = ev at *
  generalize bdM (soundP g) (eraseV d) = bd at *
  generalize namD (soundP g) d = A at *
  generalize soundP g = p at *
  cases hok : (matchV g (eraseV d)).2 <;> rw [hok] at c3
  case false =>
    refine PCB.ob Tryz.func8 Tryz.ntmps8 Tryz.results8 ?_
    repeat' (first | (simp only [go_sem, D, E, H, J, N, O, U, reduceCtorEq, V, W, Y, Z, zL, matC] <;> refine nf ?_) | (refine stp ?_; intro K hK) | (apply hK; clear hK K) | refine stn ?_ | (with_reducible first | refine ⟨_, c1, ?_⟩ | refine ⟨_, c2, ?_⟩ | refine ⟨_, c3, ?_⟩) | (refine stp' ?_; intro K hK) | refine stq ?_ | (clear hK K))
    all_goals exact lf
  have c4 := hbl hok
  have c5 := c5 hok
  cases ev
  case false =>
    refine PCB.ob Tryz.func8 Tryz.ntmps8 Tryz.results8 ?_
    repeat' (first | (simp only [go_sem, D, E, H, J, N, O, U, reduceCtorEq, V, W, Y, Z, zL, matC] <;> refine nf ?_) | (refine stp ?_; intro K hK) | (apply hK; clear hK K) | refine stn ?_ | (with_reducible first | refine ⟨_, c1, ?_⟩ | refine ⟨_, c2, ?_⟩ | refine ⟨_, c3, ?_⟩ | refine ⟨_, c4, ?_⟩) | (refine stp' ?_; intro K hK) | refine stq ?_ | (clear hK K))
    all_goals exact lf
  refine PCB.ob Tryz.func8 Tryz.ntmps8 Tryz.results8 ?_
  refine AWP.ghQ ?_
  repeat' (first | (simp only [go_sem, D, E, H, J, N, O, U, reduceCtorEq, V, W, Y, Z, zL, matC] <;> refine nf ?_) | (refine stp ?_; intro K hK) | (apply hK; clear hK K) | refine stn ?_ | (with_reducible first | refine ⟨_, c1, ?_⟩ | refine ⟨_, c2, ?_⟩ | refine ⟨_, c3, ?_⟩ | refine ⟨_, c4, ?_⟩) | (refine Or.inr (Or.inr (vCallX.mk c5 (by repeat (first | exact trivial | refine And.intro rfl ?_)) (by rfl) (by first | rfl | (simp only [newNames, List.all_cons, List.all_nil, go_sem, D, E, H, J, N, O, U, reduceCtorEq, V, W, Y, Z, zL, matC] <;> rfl)) (by rfl) (by rfl) ?_))) | (refine stp' ?_; intro K hK) | refine stq ?_ | fail)
  refine xD (Gh.fs 1900) ?_
  simp only [go_sem, D, E, H, J, N, O, U, reduceCtorEq, V, W, Y, Z, zL, lB]
  refine xD (Gh.fs 1901) ?_
  simp only [go_sem, D, E, H, J, N, O, U, reduceCtorEq, V, W, Y, Z, zL, lB]
  refine xD (xI 11 900 rfl rfl rfl (by simp [Bx.fresh, freshs_dat, Cell.freshs, Cell.fresh])) ?_
  refine xF 43 rfl fun hlen0 => ?_
  (try rw [lB] at hlen0)
  refine xC (S := List Dat) (ns) Sx.encStr (fun k s => (45, I .i64 (k : Nat)) :: [(11, .one (.own 900 s.length))]) (fun k s => [(900, .row 13 (s.map encDat))]) [9, 10, 43, 44] [] (fun k s => Is s ((ns.take k).map (fun s => lastN A s zeroDat))) ([]) (by simp only [go_sem, D, E, H, J, N, O, U, reduceCtorEq, V, W, Y, Z, zL, matC]; exact Gh.ts []) ?_ ?_ ?_
  · simp [Is]
  · intro k s x hlt hx hx' hb hok2
    refine st ?_
    have hsl : s.length ≤ k := by rw [show s = _ from hok2, lB, lQ]; omega
    repeat' (first | (simp only [go_sem, D, E, H, J, N, O, U, reduceCtorEq, V, W, Y, Z, zL, matC, hb, lB] <;> refine nf ?_) | (refine stp ?_; intro K hK) | (apply hK; clear hK K) | refine stn ?_ | (with_reducible refine ⟨by omega, Sx.encStr x, hx', ?_⟩) | fail)
    refine xD (Gh.soft 14 rfl) ?_
    simp only [go_sem, D, E, H, J, N, O, U, reduceCtorEq, V, W, Y, Z, zL, ← zero_enc]
    refine xF 49 rfl fun hlen1 => ?_
    (try rw [lB] at hlen1)
    refine xC (S := Dat) (A) encN1 (fun j t => (51, I .i64 (j : Nat)) :: []) (fun j t => [(14, .cells ((encDat t).map .dat))]) [9, 10, 11, 13, 14, 43, 44, 45, 49, 50] [900] (fun j t => Is t (lastN (A.take j) x zeroDat)) (zeroDat) (by simp only [go_sem, D, E, H, J, N, O, U, reduceCtorEq, V, W, Y, Z, zL, matC, zero_enc]; exact Gh.ts []) ?_ ?_ ?_
    · rfl
    · intro j t y hlt hy hy' hby hoky
      refine st ?_
      have hyd : (A.map encN2)[j]? = some (encDat y.2) := by rw [List.getElem?_map, hy]; rfl
      have hdl : decide ((j : Int) < ((A.length : Nat) : Int)) = true := by rw [decide_eq_true_eq]; omega
      have hst : lastN (A.take (j + 1)) x zeroDat = bif decide (y.1 = x) then y.2 else lastN (A.take j) x zeroDat := by rw [lO, hy]; exact lastN_snoc _ _ _ _
      unfold Is at hoky
      cases hz : decide (y.1 = x) <;> rw [hz] at hst
      ·
        repeat' (first | (simp only [go_sem, D, E, H, J, N, O, U, reduceCtorEq, V, W, Y, Z, zL, matC, hby, hz, encN1, lB] <;> refine nf ?_) | (refine stp ?_; intro K hK) | (apply hK; clear hK K) | refine stn ?_ | (with_reducible refine ⟨by omega, encN1 y, hy', ?_⟩) | (clear hK K))
        all_goals (rw [wrap_succ hlt hlen1])
        all_goals (refine ⟨t, ?_, Gh.ts []⟩)
        all_goals (rw [Is, hst, hoky]; rfl)
      ·
        repeat' (first | (simp only [go_sem, D, E, H, J, N, O, U, reduceCtorEq, V, W, Y, Z, zL, matC, hby, hz, hdl, encN1, lB] <;> refine nf ?_) | (refine stp ?_; intro K hK) | (apply hK; clear hK K) | refine stn ?_ | (with_reducible first | refine ⟨by omega, encN1 y, hy', ?_⟩ | refine ⟨by omega, encDat y.2, hyd, ?_⟩) | (clear hK K))
        all_goals (rw [wrap_succ hlt hlen1])
        all_goals (refine ⟨y.2, ?_, Gh.ts []⟩)
        all_goals (rw [Is, hst]; rfl)
    · intro t hbt hot
      refine st ?_
      rw [Is, lK] at hot
      repeat' (first | (simp only [go_sem, D, E, H, J, N, O, U, reduceCtorEq, V, W, Y, Z, zL, matC, hbt, lB, datN_snoc] <;> refine nf ?_) | (refine stp ?_; intro K hK) | (apply hK; clear hK K) | refine stn ?_ | (with_reducible (refine ⟨(by first | omega | (simp only [lA, lB, lQ, List.length_drop, lC, lD, List.length_replicate]; omega) : _ ≤ _), ?_⟩)) | refine stq ?_ | (clear hK K))
      all_goals (rw [wrap_succ hlt hlen0])
      all_goals (refine ⟨s ++ [t], ?_, Gh.ts [(900, 67)]⟩)
      all_goals (rw [Is, lO, hx, List.map_append, ← show s = _ from hok2, hot]; rfl)
  · intro s hb hok2
    refine st ?_
    rw [Is, lK] at hok2
    repeat' (first | (simp only [go_sem, D, E, H, J, N, O, U, reduceCtorEq, V, W, Y, Z, zL, lB, hb] <;> refine nf ?_) | (refine stp ?_; intro K hK) | (apply hK; clear hK K) | refine stn ?_ | (clear hK K))
    refine ⟨_, Gh.fs 900, ?_⟩
    simp only [go_sem, D, E, H, J, N, O, U, reduceCtorEq, V, W, Y, Z, zL, lB]
    all_goals (first | exact nn | refine fin0 ?_)
    all_goals (rw [show s = _ from hok2]; try rfl)
end Go.Proofs.YtajfdbdklphonaaGreat
