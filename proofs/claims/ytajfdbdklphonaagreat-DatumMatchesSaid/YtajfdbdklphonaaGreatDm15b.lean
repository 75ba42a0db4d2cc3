/- Lemmas; conditions: as each states. -/
import Derived.Test.YtajfdbdklphonaaGreatDm13
import Derived.Test.YtajfdbdklphonaaGreatDm15a
open Go.Proofs.Tryz renaming prog → zP
open List renaming length_append → lA, length_map → lB, length_cons → lC, length_nil → lD, map_cons → lE, take_length → lK, drop_length → lL, take_add_one → lO, mem_of_getElem? → lP, length_take → lQ
open Go.Sx.AWP renaming range → xC, gh → xD, len → xF
open Go.Sx.Gh renaming nilrow → xI
open Nat renaming reduceBEq → D, reduceBNe → E, reduceAdd → H, reduceSub → J, reduceMul → N, reduceLeDiff → O, reduceLT → U, reduceEqDiff → V
open Int renaming reduceToNat → W, reduceLE → Y, reduceLT → Z, reduceEq → zL
set_option linter.unusedVariables false
set_option linter.unusedSimpArgs false
set_option maxRecDepth 20000
set_option maxHeartbeats 16000000
namespace Go.Proofs.YtajfdbdklphonaaGreat
open Go Go.Sx
theorem pick_one : ∀ (l : ME) (n : List UInt8) (w : Val), (l.map (·.1)).Nodup → (n, w) ∈ l → pickV l n = [w]
 | p :: l, n, w, hn, h => by
  simp only [lE, List.nodup_cons] at hn
  rcases List.mem_cons.1 h with rfl | h
  ·have ih := pick_none l n hn.1
   unfold pickV at ih ⊢
   rw [List.flatMap_cons, ih, decide_eq_true rfl]; rfl
  ·have ih := pick_one l n w hn.2 h
   have hne : ¬ p.1 = n := fun e => hn.1 (by rw [e]; exact List.mem_map.2 ⟨_, h, rfl⟩)
   unfold pickV at ih ⊢
   rw [List.flatMap_cons, ih, decide_eq_false hne]; rfl
theorem out_eq (l : ME) (hn : (l.map (·.1)).Nodup) : ∀ L : List (List UInt8), (∀ n ∈ L, n ∈ l.map (·.1)) → L.flatMap (pickV l) = L.map (atM (putAll [] l))
 | [], _ => rfl
 | n :: L, h => by
  obtain ⟨p, hp, hpn⟩ := List.mem_map.1 (h n (by simp))
  have hm : (n, p.2) ∈ l := by rw [← hpn]; exact hp
  rw [List.flatMap_cons, lE, out_eq l hn L (fun n hn => h n (List.mem_cons_of_mem _ hn)), pick_one l n p.2 hn hm, atM, getV_mem l [] n p.2 hn hm]; rfl
theorem coll_nodup {g : Pat} (h : okP g = true) : (collP g).Nodup := by
 have h1 := sorted_nodup (collP g) (okP_dup h)
 have h2 := List.mergeSort_perm (collP g) (fun x y => decide (x ≤ y))
 rw [h1] at h2
 have h3 : (sortedV (collP g)).Nodup := (sortedV_spec _).1.imp fun hab e => by subst e; exact absurd hab (List.lt_irrefl _)
 exact h2.nodup_iff.1 h3
theorem matchV_ref (g : Pat) (v : Val) (hv : treeB v = true) : matchV g v = match refP (soundP g) v with
    | some l => ((namesP g).flatMap (pickV l), true)
    | none => ([], false) := by
  have hok := soundP_ok g
  have h := rel_P (soundP g) v (okP_tree hok) hv
  unfold matchV
  rw [hv, Bool.true_and]
  cases hr : refP (soundP g) v with
  | none =>
    have h' : (matchP (soundP g) v []).1 = false := h.2 hr []
    rw [h']; rfl
  | some l =>
    have h' : matchP (soundP g) v [] = (true, putAll [] l) := h.1 l hr []
    have hn := refP_names (soundP g) v (okP_tree hok) l hr
    rw [h']
    show ((namesP g).map (atM (putAll [] l)), true) = ((namesP g).flatMap (pickV l), true)
    rw [out_eq l (by rw [hn]; exact coll_nodup hok) (namesP g) (fun n h => by rw [hn]; exact ((sortedV_spec _).2 n).1 h)]
theorem pickV_take {l : ME} {n : List UInt8} {j : Nat} {p : List UInt8 × Val} (hp : l[j]? = some p) : pickV (l.take (j + 1)) n = pickV (l.take j) n ++ (bif decide (p.1 = n) then [p.2] else []) := by
 unfold pickV
 rw [lO, hp, List.flatMap_append]; simp
theorem MatchPattern_c (g : Pat) (v : Val) (hg : PSm g) (hv : Sm v) : PC zP 52 [Pt g, Vt v] (.tup [VsP (matchV g v).1, Bo (matchV g v).2]) := by
 have hs := soundP_sm g
 have h1 : PC zP 25 [.st (encP g)] (Pt (soundP g)) := taken_c g hg
 have h2 := valid_c v
 cases hz : treeB v <;> rw [hz] at h2
 case false =>
  rw [show matchV g v = ([], false) from by unfold matchV; rw [hz]; rfl]
  refine PCB.ob Tryz.func52 Tryz.ntmps52 Tryz.results52 ?_
  repeat' (first | (simp only [go_sem, D, E, H, J, N, O, U, reduceCtorEq, V, W, Y, Z, zL] <;> refine nf ?_) | (refine stp ?_; intro K hK) | (apply hK; clear hK K) | refine stn ?_ | (with_reducible first | refine ⟨_, h1, ?_⟩ | refine ⟨_, h2, ?_⟩) | refine stq ?_ | (clear hK K))
  all_goals exact lf
 have hok := soundP_ok g
 have ht := okP_tree hok
 have h3 : PC zP 93 [.st (encP (soundP g)), .st (encVal v)] (refR (refP (soundP g) v)) := refMatch_c (soundP g) v hs ht hz
 have hmv := matchV_ref g v hz
 cases hr : refP (soundP g) v with
 | none =>
  rw [hr] at h3 hmv
  rw [refR_none] at h3
  rw [hmv]
  refine PCB.ob Tryz.func52 Tryz.ntmps52 Tryz.results52 ?_
  repeat' (first | (simp only [go_sem, D, E, H, J, N, O, U, reduceCtorEq, V, W, Y, Z, zL] <;> refine nf ?_) | (refine stp ?_; intro K hK) | (apply hK; clear hK K) | refine stn ?_ | (with_reducible first | refine ⟨_, h1, ?_⟩ | refine ⟨_, h2, ?_⟩ | refine ⟨_, h3, ?_⟩) | refine stq ?_ | (clear hK K))
  all_goals exact lf
 | some l =>
  rw [hr] at h3 hmv
  rw [refR_some] at h3
  have hn := refP_names (soundP g) v ht l hr
  have hl40 : l.length ≤ 40 := by
   have h5 := collP_len (soundP g)
   have h6 := okP_cnt hok
   have h7 := congrArg List.length hn
   rw [lB] at h7
   omega
  have h4 := sorted_c (l.map (·.1)) (by rw [lB]; omega)
  have hnm : sortedV (l.map (·.1)) = namesP g := by rw [hn]; rfl
  rw [hnm, List.map_map] at h4
  have h4' : PC zP 91 [.one (.dat (.sl 1 (l.map fun p => Sx.encStr p.1)))] (.one (.dat (.sl 1 ((namesP g).map Sx.encStr)))) := h4
  have hlL : (namesP g).length ≤ 40 := by
   have h5 := sorted_len (l.map (·.1))
   rw [hnm, lB] at h5; omega
  simp only [encN, encW] at h3
  have hmv' : matchV g v = ((namesP g).flatMap (pickV l), true) := hmv
  rw [hmv']
  clear hmv hmv' h4 hnm hn hr
  generalize namesP g = L at *
  refine PCB.ob Tryz.func52 Tryz.ntmps52 Tryz.results52 ?_
  refine AWP.ghQ ?_
  repeat' (first | (simp only [go_sem, D, E, H, J, N, O, U, reduceCtorEq, V, W, Y, Z, zL] <;> refine nf ?_) | (refine stp ?_; intro K hK) | (apply hK; clear hK K) | refine stn ?_ | (with_reducible first | refine ⟨_, h1, ?_⟩ | refine ⟨_, h2, ?_⟩ | refine ⟨_, h3, ?_⟩ | refine ⟨_, h4', ?_⟩) | refine stq ?_ | fail)
  refine xD (xI 10 900 rfl rfl rfl (by first | rfl | simp [Bx.fresh, freshs_dat])) ?_
  refine xF 9 rfl fun hlen0 => ?_
  (try rw [lB] at hlen0)
  refine xC (S := List Val) (L) Sx.encStr (fun k s => (11, I .i64 (k : Nat)) :: [(10, .one (.own 900 s.length))]) (fun k s => [(900, .row 7 (s.map encVal))]) [6, 7, 9] [] (fun k s => Is s ((L.take k).flatMap (pickV l)) ∧ s.length ≤ k * 40) ([]) (by refine st ?_; exact Gh.ts []) ?_ ?_ ?_
  ·exact ⟨rfl, by simp⟩
  ·rintro k s x hlt hx hx' hb ⟨hok1, hsl⟩
   have hltO := hlt
   refine st ?_
   repeat' (first | (simp only [go_sem, D, E, H, J, N, O, U, reduceCtorEq, V, W, Y, Z, zL, lB, hb] <;> refine nf ?_) | (refine stp ?_; intro K hK) | (apply hK; clear hK K) | refine stn ?_ | fail)
   refine xF 6 rfl fun hlen1 => ?_
   (try rw [lB] at hlen1)
   refine xC (S := List Val) (l) (fun p : List UInt8 × Val => Sx.encStr p.1) (fun j t => (12, I .i64 (j : Nat)) :: [(10, .one (.own 900 t.length))]) (fun j t => [(900, .row 7 (t.map encVal))]) [6, 7, 9, 11] [] (fun j t => Is t (s ++ pickV (l.take j) x) ∧ t.length ≤ k * 40 + j) (s) (by refine st ?_; exact Gh.ts []) ?_ ?_ ?_
   ·exact ⟨by simp [Is, pickV], by omega⟩
   ·rintro j t p hlt hp hp' hb2 ⟨hok2, htl⟩
    refine st ?_
    have hpt := pickV_take (n := x) hp
    have hpw : (l.map fun p => encVal p.2)[j]? = some (encVal p.2) := by rw [List.getElem?_map, hp]; rfl
    have hp3 : (l.map fun p => [C.str p.1])[j]? = some [C.str p.1] := hp'
    cases hd : decide (p.1 = x)
    ·
     repeat' (first | (simp only [go_sem, D, E, H, J, N, O, U, reduceCtorEq, V, W, Y, Z, zL, lB, hb2, hd, Sx.encStr] <;> refine nf ?_) | (refine stp ?_; intro K hK) | (apply hK; clear hK K) | refine stn ?_ | (with_reducible first | refine ⟨by omega, [C.str p.1], hp3, ?_⟩ | refine ⟨by omega, Sx.encStr x, hx', ?_⟩) | (refine stp' ?_; intro K hK) | (clear hK K))
     all_goals (rw [wrap_succ hlt hlen1])
     all_goals (refine ⟨t, ?_, Gh.ts []⟩)
     all_goals (refine ⟨?_, by omega⟩; rw [Is, hpt, hd, cF, List.append_nil]; exact hok2)
    ·
     repeat' (first | (simp only [go_sem, D, E, H, J, N, O, U, reduceCtorEq, V, W, Y, Z, zL, lB, hb2, hd, Sx.encStr, val_snoc1] <;> refine nf ?_) | (refine stp ?_; intro K hK) | (apply hK; clear hK K) | refine stn ?_ | (with_reducible first | refine ⟨by omega, [C.str p.1], hp3, ?_⟩ | refine ⟨by omega, Sx.encStr x, hx', ?_⟩ | refine ⟨by omega, encVal p.2, hpw, ?_⟩ | (refine ⟨(by first | omega | (simp only [lA, lB, lQ, List.length_drop, lC, lD, List.length_replicate]; omega) : _ ≤ _), ?_⟩)) | (refine stp' ?_; intro K hK) | refine stq ?_ | (clear hK K))
     all_goals (rw [wrap_succ hlt hlen1])
     all_goals (refine ⟨t ++ [p.2], ?_, Gh.ts [(900, 56)]⟩)
     all_goals (refine ⟨?_, by simp; omega⟩; rw [Is, hpt, hd, show t = _ from hok2]; simp)
   ·rintro t hb2 ⟨hok2, htl⟩
    refine st ?_
    rw [lK] at hok2
    repeat' (first | (simp only [go_sem, D, E, H, J, N, O, U, reduceCtorEq, V, W, Y, Z, zL, lB, hb2] <;> refine nf ?_) | (refine stp ?_; intro K hK) | (apply hK; clear hK K) | refine stn ?_ | (clear hK K))
    all_goals (rw [wrap_succ hlt hlen0])
    all_goals (refine ⟨t, ?_, Gh.ts []⟩)
    all_goals (refine ⟨?_, by omega⟩; rw [Is, lO, hx, List.flatMap_append, show t = _ from hok2, show s = _ from hok1]; simp)
  ·rintro s hb ⟨hok1, hsl⟩
   refine st ?_
   rw [lK] at hok1
   repeat' (first | (simp only [go_sem, D, E, H, J, N, O, U, reduceCtorEq, V, W, Y, Z, zL, lB, hb] <;> refine nf ?_) | (refine stp ?_; intro K hK) | (apply hK; clear hK K) | refine stn ?_ | (clear hK K))
   refine ⟨_, Gh.fs 900, ?_⟩
   simp only [go_sem, D, E, H, J, N, O, U, reduceCtorEq, V, W, Y, Z, zL, lB]
   all_goals (first | exact nn | refine fin0 ?_)
   all_goals (rw [show s = _ from hok1])
def encBd (p : List UInt8 × Val) : List C := .str p.1 :: encVal p.2
abbrev Bds (l : ME) : T := .one (.dat (.sl 8 (l.map encBd)))
theorem bd_snoc (l : ME) (n : List UInt8) (v : Val) : l.map encBd ++ [[.str n, .int .i64 v.kind, .int .i64 v.num, .str v.text, .sl 7 (v.kids.map encVal), .sl 2 (v.keys.map encKey), .sl 9 (v.ents.map encEnt), .sl 1 (v.labels.map Sx.encStr)]] = (l ++ [(n, v)]).map encBd := by
 rw [List.map_append, lE, List.map_nil, encBd, encVal_eq]
theorem namesP_len (g : Pat) : (namesP g).length ≤ 100000000 := by
 have h5 := collP_len (soundP g)
 have h6 := okP_cnt (soundP_ok g)
 have h7 := sorted_len (collP (soundP g))
 unfold namesP; omega
theorem matchV_len (g : Pat) (v : Val) (h : (matchV g v).2 = true) : (matchV g v).1.length = (namesP g).length := by
 unfold matchV at h ⊢
 cases hz : treeB v && (matchP (soundP g) v []).1 <;> rw [hz] at h
 ·cases h
 ·simp
def bdM (g : Pat) (v : Val) : ME := bif (matchV g v).2 then (namesP g).zip (matchV g v).1 else []
theorem match26_c (g : Pat) (v : Val) (hg : PSm g) (hv : Sm v) : PC zP 26 [Pt g, Vt v] (.tup [Bds (bdM g v), Bo (matchV g v).2]) := by
 have h1 : PC zP 52 [.st (encP g), .st (encVal v)] (.tup [VsP (matchV g v).1, Bo (matchV g v).2]) := MatchPattern_c g v hg hv
 have h2 : PC zP 53 [.st (encP g)] (SsP (namesP g)) := PatternNames_c g hg
 have hl := matchV_len g v
 have hlen := namesP_len g
 unfold bdM
 generalize (matchV g v).1 = ws at *
 generalize namesP g = L at *
 cases hz : (matchV g v).2 <;> rw [hz] at h1
 case false =>
  refine PCB.ob Tryz.func26 Tryz.ntmps26 Tryz.results26 ?_
  repeat' (first | (simp only [go_sem, D, E, H, J, N, O, U, reduceCtorEq, V, W, Y, Z, zL] <;> refine nf ?_) | (refine stp ?_; intro K hK) | (apply hK; clear hK K) | refine stn ?_ | (with_reducible refine ⟨_, h1, ?_⟩) | refine stq ?_ | (clear hK K))
  all_goals exact lf
 have hl := hl hz
 refine PCB.ob Tryz.func26 Tryz.ntmps26 Tryz.results26 ?_
 refine AWP.ghQ ?_
 repeat' (first | (simp only [go_sem, D, E, H, J, N, O, U, reduceCtorEq, V, W, Y, Z, zL] <;> refine nf ?_) | (refine stp ?_; intro K hK) | (apply hK; clear hK K) | refine stn ?_ | (with_reducible first | refine ⟨_, h1, ?_⟩ | refine ⟨_, h2, ?_⟩) | refine stq ?_ | fail)
 refine xD (xI 8 900 rfl rfl rfl (by simp [Bx.fresh, freshs_dat, Cell.freshs, Cell.fresh])) ?_
 refine xF 20 rfl fun hlen0 => ?_
 (try rw [lB] at hlen0)
 refine xC (S := ME) (L) Sx.encStr (fun k s => (22, I .i64 (k : Nat)) :: [(8, .one (.own 900 s.length))]) (fun k s => [(900, .row 8 (s.map encBd))]) [6, 20, 21] [] (fun k s => Is s ((L.zip ws).take k)) ([]) (by refine st ?_; exact Gh.ts []) ?_ ?_ ?_
 ·simp [Is]
 ·intro k s x hlt hx hx' hb hok
  refine st ?_
  obtain ⟨y, hy, hy', hb2, _⟩ := at_lt (enc := encVal) (l := ws) (k := k) (by omega)
  have hsl : s.length ≤ k := by rw [show s = _ from hok, lQ]; omega
  have hzp : (L.zip ws)[k]? = some (x, y) := by rw [List.getElem?_zip_eq_some]; exact ⟨hx, hy⟩
  repeat' (first | (simp only [go_sem, D, E, H, J, N, O, U, reduceCtorEq, V, W, Y, Z, zL, lB, hb, hb2, encVal_eq y, Sx.encStr, bd_snoc] <;> refine nf ?_) | (refine stp ?_; intro K hK) | (apply hK; clear hK K) | refine stn ?_ | (with_reducible first | refine ⟨by omega, Sx.encStr x, hx', ?_⟩ | refine ⟨by omega, encVal y, hy', ?_⟩ | (refine ⟨(by first | omega | (simp only [lA, lB, lQ, List.length_drop, lC, lD, List.length_replicate]; omega) : _ ≤ _), ?_⟩)) | refine stq ?_ | (clear hK K))
  all_goals (rw [wrap_succ hlt hlen0])
  all_goals (refine ⟨s ++ [(x, y)], ?_, Gh.ts [(900, 35)]⟩)
  all_goals (rw [Is, lO, hzp, ← show s = _ from hok]; rfl)
 ·intro s hb hok
  refine st ?_
  have htk : (L.zip ws).take L.length = L.zip ws := List.take_of_length_le (by rw [List.length_zip]; omega)
  rw [Is, htk] at hok
  repeat' (first | (simp only [go_sem, D, E, H, J, N, O, U, reduceCtorEq, V, W, Y, Z, zL, lB, hb] <;> refine nf ?_) | (refine stp ?_; intro K hK) | (apply hK; clear hK K) | refine stn ?_ | (clear hK K))
  refine ⟨_, Gh.fs 900, ?_⟩
  simp only [go_sem, D, E, H, J, N, O, U, reduceCtorEq, V, W, Y, Z, zL, lB]
  all_goals (first | exact nn | refine fin0 ?_)
  all_goals (rw [show s = _ from hok]; try rfl)
theorem val_snoc2 (l : List Val) (v : Val) : l.map encVal ++ [[.int .i64 v.kind, .int .i64 v.num, .str v.text, .sl 7 (v.kids.map encVal), .sl 2 (v.keys.map encKey), .sl 9 (v.ents.map encEnt), .sl 1 (v.labels.map Sx.encStr)]] = (l ++ [v]).map encVal := by
 rw [List.map_append, lE, List.map_nil, encVal_eq]
theorem evaluate26_c (g : Grd) (l : ME) (hg : GSm g) (hl : l.length ≤ 100000000) : PC zP 28 [Gt g, Bds l] (Bo (evW (l.map (·.1)) (l.map (·.2)) g)) := by
 have h1 : PC zP 54 [.st (encG g), SsP (l.map (·.1)), VsP (l.map (·.2))] (Bo (evW (l.map (·.1)) (l.map (·.2)) g)) := EvaluateGuard_c _ _ g hg
 generalize evW (l.map (·.1)) (l.map (·.2)) g = b at *
 refine PCB.ob Tryz.func28 Tryz.ntmps28 Tryz.results28 ?_
 repeat' (first | (simp only [go_sem, D, E, H, J, N, O, U, reduceCtorEq, V, W, Y, Z, zL, lB] <;> refine nf ?_) | (refine stp ?_; intro K hK) | (apply hK; clear hK K) | refine stn ?_ | fail)
 refine xD (xI 5 900 rfl rfl rfl (by simp [Bx.fresh, freshs_dat, Cell.freshs, Cell.fresh])) ?_
 refine xD (xI 6 901 rfl rfl rfl (by simp [Bx.fresh, freshs_dat, Cell.freshs, Cell.fresh])) ?_
 refine xF 9 rfl fun hlen0 => ?_
 (try rw [lB] at hlen0)
 refine xC (S := List (List UInt8) × List Val) (l) encBd (fun k s => (11, I .i64 (k : Nat)) :: [(5, .one (.own 900 s.1.length)), (6, .one (.own 901 s.2.length))]) (fun k s => [(900, .row 1 (s.1.map Sx.encStr)), (901, .row 7 (s.2.map encVal))]) [2, 9, 10] [2] (fun k s => Is s ((l.take k).map (·.1), (l.take k).map (·.2))) (([], [])) (by refine st ?_; exact Gh.ts []) ?_ ?_ ?_
 ·simp [Is]
 ·intro k s x hlt hx hx' hb hok
  refine st ?_
  unfold Is at hok
  have hsl : s.1.length ≤ k ∧ s.2.length ≤ k := by subst hok; simp; omega
  obtain ⟨n, v⟩ := x
  obtain ⟨hs1, hs2⟩ := hsl
  have hx2 : (l.map encBd)[k]? = some (.str n :: encVal v) := hx'
  repeat' (first | (simp only [go_sem, D, E, H, J, N, O, U, reduceCtorEq, V, W, Y, Z, zL, lB, hb, encBd, encVal_eq v, val_snoc2, strN_snoc] <;> refine nf ?_) | (refine stp ?_; intro K hK) | (apply hK; clear hK K) | refine stn ?_ | (with_reducible first | refine ⟨by omega, .str n :: encVal v, hx2, ?_⟩ | (refine ⟨(by first | omega | (simp only [lA, lB, lQ, List.length_drop, lC, lD, List.length_replicate]; omega) : _ ≤ _), ?_⟩)) | refine stq ?_ | (clear hK K))
  all_goals (rw [wrap_succ hlt hlen0])
  all_goals (refine ⟨(s.1 ++ [n], s.2 ++ [v]), ?_, Gh.ts [(900, 19), (901, 24)]⟩)
  all_goals (subst hok; rw [Is, lO, hx]; simp)
 ·intro s hb hok
  refine st ?_
  rw [Is, lK] at hok
  subst hok
  refine xD (Gh.fs 900) ?_
  simp only [go_sem, D, E, H, J, N, O, U, reduceCtorEq, V, W, Y, Z, zL, lB]
  refine xD (Gh.fs 901) ?_
  simp only [go_sem, D, E, H, J, N, O, U, reduceCtorEq, V, W, Y, Z, zL, lB]
  repeat' (first | (simp only [go_sem, D, E, H, J, N, O, U, reduceCtorEq, V, W, Y, Z, zL, lB, hb] <;> refine nf ?_) | (refine stp ?_; intro K hK) | (apply hK; clear hK K) | refine stn ?_ | (with_reducible refine ⟨_, h1, ?_⟩) | refine stq ?_ | (clear hK K))
  all_goals (first | exact nn | refine fin0 ?_)
  all_goals rfl
def eraN (l : NE) : ME := l.map fun p => (p.1, eraseV p.2)
theorem eraN_app (a b : NE) : eraN (a ++ b) = eraN a ++ eraN b := by unfold eraN; rw [List.map_append]
theorem erase_kind (d : Dat) : (eraseV d).kind = d.kind := by
 rw [eraseV_eq]
 cases h : decide (d.kind = 9)
 ·rfl
 ·exact (of_decide_eq_true h).symm
theorem erase_kids (d : Dat) (h : d.kind ≠ 9) : (eraseV d).kids = d.kids.map eraseV := by rw [eraseV_eq, decide_eq_false h]; rfl
theorem erase_keys (d : Dat) (h : d.kind ≠ 9) : (eraseV d).keys = d.keys := by rw [eraseV_eq, decide_eq_false h]; rfl
theorem nam_L : ∀ (l : List Pat) (ds : List Dat) (f : Nat → Dat) (i : Nat) (a : ME), l.length = ds.length → (∀ j, j < l.length → f (i + j) = ds.getD j zeroDat) →
    (∀ g ∈ l, ∀ x ∈ ds, ∀ a, refP g (eraseV x) = some a → a = eraN (namD g x)) → refL l (ds.map eraseV) = some a → a = eraN (namDs l f i)
  | [], ds, f, i, a, _, _, _, h => by
    rw [refL_nil] at h; cases h
    rw [namDs]; rfl
  | g :: l, [], f, i, a, hlen, _, _, _ => by simp at hlen
  | g :: l, x :: ds, f, i, a, hlen, hf, hg, h => by
    rw [lE, refL] at h
    have hf0 : f i = x := by have := hf 0 (by simp); simpa using this
    cases hr : refP g (eraseV x) with
    | none => rw [hr] at h; cases h
    | some b =>
      rw [hr] at h
      simp only [Option.map_eq_some_iff] at h
      obtain ⟨c, hc, rfl⟩ := h
      rw [namDs, eraN_app, hf0, ← hg g (by simp) x (by simp) b hr]
      rw [nam_L l ds f (i + 1) c (by simpa using hlen) (fun j hj => by
        have := hf (j + 1) (by simpa using hj)
        rw [show i + 1 + j = i + (j + 1) by omega, this]; rfl) (fun g hg' x hx => hg g (List.mem_cons_of_mem _ hg') x (List.mem_cons_of_mem _ hx)) hc]
theorem look_D (d : Dat) (hk : d.kind ≠ 9) (hlen : d.keys.length = d.kids.length) : ∀ (ks : List KeyD) (ws : List Val), lookV ks (eraseV d) = some ws → ws = (ks.map (atD d)).map eraseV ∧ ∀ k ∈ ks, atD d k ∈ d.kids
 | [], ws, h => by cases h; exact ⟨rfl, fun k hk => by cases hk⟩
 | k :: ks, ws, h => by
  rw [lookV] at h
  cases hv : valAt (eraseV d) k with
  | none => rw [hv] at h; cases h
  | some w =>
   rw [hv] at h
   simp only [Option.map_eq_some_iff] at h
   obtain ⟨us, hu, rfl⟩ := h
   obtain ⟨h1, h2⟩ := look_D d hk hlen ks us hu
   unfold valAt at hv
   rw [erase_keys d hk, erase_kids d hk] at hv
   cases hz : decide (findI (fun x => sameK k x) 0 d.keys < 0)
   ·rw [hz, cF, List.getElem?_map] at hv
    cases hx : d.kids[(findI (fun x => sameK k x) 0 d.keys).toNat]? with
    | none => rw [hx] at hv; cases hv
    | some x =>
     rw [hx] at hv
     simp only [Option.map_some, Option.some.injEq] at hv
     have ha : atD d k = x := by unfold atD; rw [hz, cF, List.getD_eq_getElem?_getD, hx]; rfl
     refine ⟨by rw [lE, lE, ha, hv, ← h1], fun y hy => ?_⟩
     rcases List.mem_cons.1 hy with rfl | hy
     ·rw [ha]; exact lP hx
     ·exact h2 y hy
   ·rw [hz, cT] at hv; cases hv
theorem treeB_kidE {d k : Dat} (h : treeB (eraseV d) = true) (h9 : d.kind ≠ 9) (hk : k ∈ d.kids) : treeB (eraseV k) = true :=
 treeB_kid h (by rw [erase_kids d h9]; exact List.mem_map_of_mem hk)
theorem nam_P (g : Pat) (d : Dat) (hg : treeP g = true) (hd : treeB (eraseV d) = true) (a : ME) (h : refP g (eraseV d) = some a) : a = eraN (namD g d) := by
 have ih : ∀ k ∈ g.kids, ∀ x : Dat, treeB (eraseV x) = true → ∀ a, refP k (eraseV x) = some a → a = eraN (namD k x) := fun k hk x hx a h => nam_P k x (treeP_kid hg hk) hx a h
 have hvp := vP_of hg
 rw [namD_eq, eraN_app]
 rw [refP_eq, erase_kind] at h
 have leaf : ∀ (b : Bool), g.kids = [] → nameP g.kind = false → (bif b then some ([] : ME) else none) = some a → a = eraN (bif nameP g.kind then [(g.text, d)] else []) ++ eraN (namDs g.kids (partD g.kind g.keys d) 0) := by
  intro b hk0 hn hb
  rw [hn, hk0, namDs]
  cases b
  ·cases hb
  ·cases hb; rfl
 rcases kindsP hvp with hk | hk | hk | hk | hk | hk | hk | hk | ⟨hk, hkk⟩ | ⟨hk, k0, hk0⟩
 ·rw [hk] at h; exact leaf true (vP_kids0 hvp (by rw [hk]; rfl)) (by rw [hk]; rfl) h
 ·rw [hk] at h
  have h' : some [(g.text, eraseV d)] = some a := h
  cases h'
  rw [hk, vP_kids0 hvp (by rw [hk]; rfl), namDs]; rfl
 ·rw [hk] at h; exact leaf _ (vP_kids0 hvp (by rw [hk]; rfl)) (by rw [hk]; rfl) h
 ·rw [hk] at h; exact leaf _ (vP_kids0 hvp (by rw [hk]; rfl)) (by rw [hk]; rfl) h
 ·rw [hk] at h; exact leaf _ (vP_kids0 hvp (by rw [hk]; rfl)) (by rw [hk]; rfl) h
 ·rw [hk] at h; exact leaf _ (vP_kids0 hvp (by rw [hk]; rfl)) (by rw [hk]; rfl) h
 ·rw [hk] at h
  have h' : (bif decide (d.kind = 6) && decide (g.kids.length = (eraseV d).kids.length) then refL g.kids (eraseV d).kids else none) = some a := h
  cases hz : decide (d.kind = 6) && decide (g.kids.length = (eraseV d).kids.length) <;> rw [hz] at h'
  ·cases h'
  ·rw [Bool.and_eq_true, decide_eq_true_eq, decide_eq_true_eq] at hz
   have h9 : d.kind ≠ 9 := by omega
   rw [erase_kids d h9] at hz h'
   have := nam_L g.kids d.kids (partD g.kind g.keys d) 0 a (by simpa using hz.2) (fun j hj => by unfold partD; rw [hk, Nat.zero_add]; rfl) (fun k hk x hx => ih k hk x (treeB_kidE hd h9 hx)) h'
   rw [this, hk]; rfl
 ·rw [hk] at h
  have h' : (bif decide (d.kind = 7) && decide (g.kids.length = (eraseV d).kids.length) then refL g.kids (eraseV d).kids else none) = some a := h
  cases hz : decide (d.kind = 7) && decide (g.kids.length = (eraseV d).kids.length) <;> rw [hz] at h'
  ·cases h'
  ·rw [Bool.and_eq_true, decide_eq_true_eq, decide_eq_true_eq] at hz
   have h9 : d.kind ≠ 9 := by omega
   rw [erase_kids d h9] at hz h'
   have := nam_L g.kids d.kids (partD g.kind g.keys d) 0 a (by simpa using hz.2) (fun j hj => by unfold partD; rw [hk, Nat.zero_add]; rfl) (fun k hk x hx => ih k hk x (treeB_kidE hd h9 hx)) h'
   rw [this, hk]; rfl
 ·rw [hk] at h
  have h' : (bif decide (d.kind = 8) then (match lookV g.keys (eraseV d) with | some ws => refL g.kids ws | none => none) else none) = some a := h
  cases hz : decide (d.kind = 8) <;> rw [hz] at h'
  ·cases h'
  ·have h8 := of_decide_eq_true hz
   have h9 : d.kind ≠ 9 := by omega
   have hlen : d.keys.length = d.kids.length := by
    have := treeB_map hd (by rw [erase_kind]; exact h8)
    rw [erase_keys d h9, erase_kids d h9, lB] at this; exact this
   cases hl : lookV g.keys (eraseV d) with
   | none => rw [hl] at h'; cases h'
   | some ws =>
    rw [hl] at h'
    obtain ⟨hw, hm⟩ := look_D d h9 hlen g.keys ws hl
    have h'' : refL g.kids ((g.keys.map (atD d)).map eraseV) = some a := by rw [← hw]; exact h'
    have := nam_L g.kids (g.keys.map (atD d)) (partD g.kind g.keys d) 0 a (by rw [lB]; omega) (fun j hj => by
     unfold partD
     rw [hk, Nat.zero_add]
     show atD d (g.keys.getD j ⟨0, []⟩) = _
     have hj' : j < g.keys.length := by omega
     rw [List.getD_eq_getElem?_getD, List.getD_eq_getElem?_getD, List.getElem?_map, List.getElem?_eq_getElem hj']; rfl) (fun k hk x hx => by
     obtain ⟨y, hy, rfl⟩ := List.mem_map.1 hx
     exact ih k hk _ (treeB_kidE hd h9 (hm y hy))) h''
    rw [this, hk]; rfl
 ·rw [hk, hk0] at h
  have h' : (refP k0 (eraseV d)).map ((g.text, eraseV d) :: ·) = some a := h
  simp only [Option.map_eq_some_iff] at h'
  obtain ⟨b, hb, rfl⟩ := h'
  have := ih k0 (by rw [hk0]; simp) d hd b hb
  rw [hk, hk0, namDs, namDs, this]
  simp only [List.append_nil]
  rfl
termination_by cntP g
decreasing_by exact cntP_kid hk
def findN (l : NE) (s : List UInt8) : Dat × Bool := match l.find? (fun p => decide (p.1 = s)) with
 | some p => (p.2, true)
 | none => (zeroDat, false)
theorem findN_app (a b : NE) (s : List UInt8) : findN (a ++ b) s = bif (findN a s).2 then findN a s else findN b s := by
 unfold findN
 rw [List.find?_append]
 cases a.find? (fun p => decide (p.1 = s)) <;> rfl
theorem findN_nil (s : List UInt8) : findN [] s = (zeroDat, false) := rfl
theorem namDs_drop (f : Nat → Dat) (l : List Pat) (k : Nat) (x : Pat) (h : l[k]? = some x) : namDs (l.drop k) f k = namD x (f k) ++ namDs (l.drop (k + 1)) f (k + 1) := by
 obtain ⟨hk, rfl⟩ := List.getElem?_eq_some_iff.1 h
 rw [List.drop_eq_getElem_cons hk, namDs]
theorem findI_ltk {α : Type} (p : α → Bool) : ∀ (l : List α) (k : Nat), findI p k l < (k : Int) + (l.length : Int)
 | [], k => by simp only [findI, lD]; omega
 | x :: l, k => by
  have := findI_ltk p l (k + 1)
  simp only [findI, lC]
  cases p x <;> simp only [cT, cF] <;> omega
theorem findI_lt {α : Type} (p : α → Bool) (l : List α) : findI p 0 l < (l.length : Int) := by have := findI_ltk p l 0; simpa using this
theorem find_x (g : Pat) (d : Dat) (s : List UInt8) (ho : OkN g d) : PC zP 23 [Pt g, Dt d, S s] (.tup [Dt (findN (namD g d) s).1, Bo (findN (namD g d) s).2]) := by
 have ih : ∀ k ∈ g.kids, ∀ x : Dat, OkN k x → PC zP 23 [.st (encP k), .st (encDat x), S s] (.tup [.st (encDat (findN (namD k x) s).1), Bo (findN (namD k x) s).2]) := fun k hk x ho => find_x k x s ho
 rw [namD_eq]
 have hF : ∀ b : Bool, findN ((bif b then [(g.text, d)] else []) ++ namDs g.kids (partD g.kind g.keys d) 0) s = bif b && decide (g.text = s) then (d, true) else findN (namDs g.kids (partD g.kind g.keys d) 0) s := by
  intro b
  rw [findN_app]
  cases b
  ·rfl
  ·unfold findN
   cases h : decide (g.text = s) <;> simp [h]
 rw [hF]
 have hn : nameP g.kind = (decide (g.kind = 2) || decide (g.kind = 10)) := rfl
 rw [hn]
 cases h2 : decide (g.kind = 2) <;> cases h10 : decide (g.kind = 10) <;> cases hs : decide (g.text = s) <;> simp only [Bool.true_or, Bool.false_or, Bool.true_and, Bool.false_and, Bool.or_self, cT, cF]
 case false.true.true =>
  refine PCB.ob Tryz.func23 Tryz.ntmps23 Tryz.results23 ?_
  repeat' (first | (simp only [go_sem, D, E, H, J, N, O, U, reduceCtorEq, V, W, Y, Z, zL, encP_eq g, encDat_eq d, lB, h2, h10, hs] <;> refine nf ?_) | (refine stp ?_; intro K hK) | (apply hK; clear hK K) | refine stn ?_ | (clear hK K))
  all_goals (first | exact nn | refine fin0 ?_)
  all_goals (first | rfl | (rw [Dt, encDat_eq d]) | (rw [Dt, encDat_eq d]; rfl))
 case true.false.true =>
  refine PCB.ob Tryz.func23 Tryz.ntmps23 Tryz.results23 ?_
  repeat' (first | (simp only [go_sem, D, E, H, J, N, O, U, reduceCtorEq, V, W, Y, Z, zL, encP_eq g, encDat_eq d, lB, h2, h10, hs] <;> refine nf ?_) | (refine stp ?_; intro K hK) | (apply hK; clear hK K) | refine stn ?_ | (clear hK K))
  all_goals (first | exact nn | refine fin0 ?_)
  all_goals (first | rfl | (rw [Dt, encDat_eq d]) | (rw [Dt, encDat_eq d]; rfl))
 case true.true.false => rw [decide_eq_true_eq] at h2 h10; omega
 case true.true.true => rw [decide_eq_true_eq] at h2 h10; omega
 all_goals
  refine PCB.ob Tryz.func23 Tryz.ntmps23 Tryz.results23 ?_
  repeat' (first | (simp only [go_sem, D, E, H, J, N, O, U, reduceCtorEq, V, W, Y, Z, zL, encP_eq g, encDat_eq d, lB, h2, h10, hs] <;> refine nf ?_) | (refine stp ?_; intro K hK) | (apply hK; clear hK K) | refine stn ?_ | fail)
  refine xF 29 rfl fun hlen0 => ?_
  (try rw [lB] at hlen0)
  refine xC (S := Unit) (g.kids) encP (fun k s => (31, I .i64 (k : Nat)) :: []) (fun k s => []) [2, 3, 4, 6, 29, 30] [3, 4, 6] (fun k u => findN (namDs g.kids (partD g.kind g.keys d) 0) s = findN (namDs (g.kids.drop k) (partD g.kind g.keys d) k) s) (()) (by simp only [go_sem, D, E, H, J, N, O, U, reduceCtorEq, V, W, Y, Z, zL, encP_eq g, encDat_eq d]; exact Gh.ts []) ?_ ?_ ?_
  ·rfl
  ·intro k u x hlt hx hx' hb hok
   refine st ?_
   have hxm := lP hx
   have hokx := ho.kid k x hx
   rw [namDs_drop _ _ _ _ hx, findN_app] at hok
   cases h7 : decide (g.kind = 7)
   ·cases h8 : decide (g.kind = 8)
    ·cases h9 : decide (g.kind = 9)
     ·rw [part0 h7 h8 h9] at hok hokx
      have hix := ih x hxm d hokx
      rw [encDat_eq d] at hix
      cases hq : (findN (namD x d) s).2 <;> rw [hq] at hix hok <;> simp only [cT, cF] at hok
      ·
       repeat' (first | (simp only [go_sem, D, E, H, J, N, O, U, reduceCtorEq, V, W, Y, Z, zL, encP_eq g, encDat_eq d, lB, h2, h10, hs, hb, h7, h8, h9] <;> refine nf ?_) | (refine stp ?_; intro K hK) | (apply hK; clear hK K) | refine stn ?_ | (with_reducible first | refine ⟨_, hix, ?_⟩ | refine ⟨by omega, encP x, hx', ?_⟩) | refine stq ?_ | (clear hK K))
       all_goals (rw [wrap_succ hlt hlen0])
       all_goals (refine ⟨(), ?_, Gh.ts []⟩)
       all_goals exact hok
      ·
       repeat' (first | (simp only [go_sem, D, E, H, J, N, O, U, reduceCtorEq, V, W, Y, Z, zL, encP_eq g, encDat_eq d, lB, h2, h10, hs, hb, h7, h8, h9] <;> refine nf ?_) | (refine stp ?_; intro K hK) | (apply hK; clear hK K) | refine stn ?_ | (with_reducible first | refine ⟨_, hix, ?_⟩ | refine ⟨by omega, encP x, hx', ?_⟩) | refine stq ?_ | (clear hK K))
       all_goals (first | exact nn | refine fin0 ?_)
       all_goals (rw [hok, hq])
     ·have hk9 := of_decide_eq_true h9
      obtain ⟨i1, i2, i3, i4⟩ := ho.i9 hk9
      obtain ⟨y, hy, hy', hb2, hd2⟩ := at_lt (enc := encKey) (show k < g.keys.length by omega)
      rw [part9 hk9 hy] at hok hokx
      have hi0 := i4 y (lP hy)
      have hi1 := findI_lt (fun x => sameK y x) d.keys
      obtain ⟨z, hz, hz', hb3, hd3⟩ := at_lt (enc := encDat) (show (findI (fun x => sameK y x) 0 d.keys).toNat < d.kids.length by omega)
      have hat : atD d y = z := atD_at (j := (findI (fun x => sameK y x) 0 d.keys).toNat) (by omega) hz
      rw [hat] at hok hokx
      have hidx := indexKey_c d.keys y
      generalize findI (fun x => sameK y x) 0 d.keys = q at *
      have hb4 : decide (q < 0) = false := by rw [decide_eq_false_iff_not]; omega
      have hix := ih x hxm z hokx
      cases hq : (findN (namD x z) s).2 <;> rw [hq] at hix hok <;> simp only [cT, cF] at hok
      ·
       repeat' (first | (simp only [go_sem, D, E, H, J, N, O, U, reduceCtorEq, V, W, Y, Z, zL, encP_eq g, encDat_eq d, lB, h2, h10, hs, hb, h7, h8, h9, hb2, hb3] <;> refine nf ?_) | (refine stp ?_; intro K hK) | (apply hK; clear hK K) | refine stn ?_ | (with_reducible first | refine ⟨_, hix, ?_⟩ | refine ⟨by omega, encP x, hx', ?_⟩ | refine ⟨_, hidx, ?_⟩ | refine ⟨by omega, encKey y, hy', ?_⟩ | refine ⟨by omega, encDat z, hz', ?_⟩) | (with_reducible refine AWP.segP (id := 12) 12 mixed (by kernel_rfl) fun K hK => ?_; simp only [List.take_succ_cons, List.take_zero, List.drop_succ_cons, List.drop_zero]) | refine stq ?_ | (clear hK K))
       all_goals (rw [wrap_succ hlt hlen0])
       all_goals (refine ⟨(), ?_, Gh.ts []⟩)
       all_goals exact hok
      ·
       repeat' (first | (simp only [go_sem, D, E, H, J, N, O, U, reduceCtorEq, V, W, Y, Z, zL, encP_eq g, encDat_eq d, lB, h2, h10, hs, hb, h7, h8, h9, hb2, hb3] <;> refine nf ?_) | (refine stp ?_; intro K hK) | (apply hK; clear hK K) | refine stn ?_ | (with_reducible first | refine ⟨_, hix, ?_⟩ | refine ⟨by omega, encP x, hx', ?_⟩ | refine ⟨_, hidx, ?_⟩ | refine ⟨by omega, encKey y, hy', ?_⟩ | refine ⟨by omega, encDat z, hz', ?_⟩) | (with_reducible refine AWP.segP (id := 12) 12 mixed (by kernel_rfl) fun K hK => ?_; simp only [List.take_succ_cons, List.take_zero, List.drop_succ_cons, List.drop_zero]) | refine stq ?_ | (clear hK K))
       all_goals (first | exact nn | refine fin0 ?_)
       all_goals (rw [hok, hq])
    ·have hk8 := of_decide_eq_true h8
     have h9 : decide (g.kind = 9) = false := by rw [hk8]; rfl
     have i7 := ho.i7 (.inr hk8)
     obtain ⟨y, hy, hy', hb2, hd2⟩ := at_lt (enc := encDat) (show k < d.kids.length by omega)
     rw [part7 (.inr hk8) hy] at hok hokx
     have hix := ih x hxm y hokx
     cases hq : (findN (namD x y) s).2 <;> rw [hq] at hix hok <;> simp only [cT, cF] at hok
     ·
      repeat' (first | (simp only [go_sem, D, E, H, J, N, O, U, reduceCtorEq, V, W, Y, Z, zL, encP_eq g, encDat_eq d, lB, h2, h10, hs, hb, h7, h8, h9, hb2] <;> refine nf ?_) | (refine stp ?_; intro K hK) | (apply hK; clear hK K) | refine stn ?_ | (with_reducible first | refine ⟨_, hix, ?_⟩ | refine ⟨by omega, encP x, hx', ?_⟩ | refine ⟨by omega, encDat y, hy', ?_⟩) | refine stq ?_ | (clear hK K))
      all_goals (rw [wrap_succ hlt hlen0])
      all_goals (refine ⟨(), ?_, Gh.ts []⟩)
      all_goals exact hok
     ·
      repeat' (first | (simp only [go_sem, D, E, H, J, N, O, U, reduceCtorEq, V, W, Y, Z, zL, encP_eq g, encDat_eq d, lB, h2, h10, hs, hb, h7, h8, h9, hb2] <;> refine nf ?_) | (refine stp ?_; intro K hK) | (apply hK; clear hK K) | refine stn ?_ | (with_reducible first | refine ⟨_, hix, ?_⟩ | refine ⟨by omega, encP x, hx', ?_⟩ | refine ⟨by omega, encDat y, hy', ?_⟩) | refine stq ?_ | (clear hK K))
      all_goals (first | exact nn | refine fin0 ?_)
      all_goals (rw [hok, hq])
   ·have hk7 := of_decide_eq_true h7
    have h8 : decide (g.kind = 8) = false := by rw [hk7]; rfl
    have h9 : decide (g.kind = 9) = false := by rw [hk7]; rfl
    have i7 := ho.i7 (.inl hk7)
    obtain ⟨y, hy, hy', hb2, hd2⟩ := at_lt (enc := encDat) (show k < d.kids.length by omega)
    rw [part7 (.inl hk7) hy] at hok hokx
    have hix := ih x hxm y hokx
    cases hq : (findN (namD x y) s).2 <;> rw [hq] at hix hok <;> simp only [cT, cF] at hok
    ·
     repeat' (first | (simp only [go_sem, D, E, H, J, N, O, U, reduceCtorEq, V, W, Y, Z, zL, encP_eq g, encDat_eq d, lB, h2, h10, hs, hb, h7, h8, h9, hb2] <;> refine nf ?_) | (refine stp ?_; intro K hK) | (apply hK; clear hK K) | refine stn ?_ | (with_reducible first | refine ⟨_, hix, ?_⟩ | refine ⟨by omega, encP x, hx', ?_⟩ | refine ⟨by omega, encDat y, hy', ?_⟩) | refine stq ?_ | (clear hK K))
     all_goals (rw [wrap_succ hlt hlen0])
     all_goals (refine ⟨(), ?_, Gh.ts []⟩)
     all_goals exact hok
    ·
     repeat' (first | (simp only [go_sem, D, E, H, J, N, O, U, reduceCtorEq, V, W, Y, Z, zL, encP_eq g, encDat_eq d, lB, h2, h10, hs, hb, h7, h8, h9, hb2] <;> refine nf ?_) | (refine stp ?_; intro K hK) | (apply hK; clear hK K) | refine stn ?_ | (with_reducible first | refine ⟨_, hix, ?_⟩ | refine ⟨by omega, encP x, hx', ?_⟩ | refine ⟨by omega, encDat y, hy', ?_⟩) | refine stq ?_ | (clear hK K))
     all_goals (first | exact nn | refine fin0 ?_)
     all_goals (rw [hok, hq])
  ·intro s hb hok
   refine st ?_
   rw [lL, namDs, findN_nil] at hok
   repeat' (first | (simp only [go_sem, D, E, H, J, N, O, U, reduceCtorEq, V, W, Y, Z, zL, encP_eq g, encDat_eq d, lB, h2, h10, hs, hb] <;> refine nf ?_) | (refine stp ?_; intro K hK) | (apply hK; clear hK K) | refine stn ?_ | (clear hK K))
   all_goals (first | exact nn | refine fin0 ?_)
   all_goals (rw [hok]; rfl)
termination_by SizeOf.sizeOf g
decreasing_by
 cases g; simp only at hk; have := List.sizeOf_lt_of_mem hk; simp; omega
end Go.Proofs.YtajfdbdklphonaaGreat