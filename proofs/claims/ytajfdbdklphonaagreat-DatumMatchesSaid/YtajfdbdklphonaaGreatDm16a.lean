/- Lemmas; conditions: as each states. -/
import Derived.Test.YtajfdbdklphonaaGreatDm15
open Go.Proofs.Tryz renaming prog → zP
open List renaming length_map → lB
open Nat renaming reduceBEq → D, reduceBNe → E, reduceAdd → H, reduceSub → J, reduceMul → N, reduceLeDiff → O, reduceLT → U, reduceEqDiff → V
open Int renaming reduceToNat → W, reduceLE → Y, reduceLT → Z, reduceEq → zL
open Bool renaming not_eq_true' → zM, not_eq_false' → zN
set_option linter.unusedVariables false
set_option linter.unusedSimpArgs false
set_option maxRecDepth 20000
set_option maxHeartbeats 16000000
namespace Go.Proofs.YtajfdbdklphonaaGreat
open Go Go.Sx
theorem flat_single {α β : Type} (f : α → List β) (g : α → β) : ∀ L : List α, (∀ n ∈ L, f n = [g n]) → L.flatMap f = L.map g
 | [], _ => rfl
 | n :: L, h => by
  rw [List.flatMap_cons, List.map_cons, h n (by simp), flat_single f g L fun x hx => h x (List.mem_cons_of_mem _ hx)]; rfl
theorem findN_mem {A : NE} {n : List UInt8} (h : n ∈ A.map (·.1)) : (n, (findN A n).1) ∈ A := by
 unfold findN
 cases hf : A.find? (fun p => decide (p.1 = n)) with
 | none =>
  obtain ⟨p, hp, hn⟩ := List.mem_map.1 h
  exact absurd (decide_eq_true hn) (List.find?_eq_none.1 hf p hp)
 | some p =>
  have h1 := List.find?_some hf
  have h2 := List.mem_of_find?_eq_some hf
  have h3 : p.1 = n := of_decide_eq_true h1
  subst h3
  exact h2
theorem ws_eq {g : Pat} {d : Dat} (h : (matchV g (eraseV d)).2 = true) : (matchV g (eraseV d)).1 = (namesP g).map fun n => eraseV (findN (namD g d) n).1 := by
 obtain ⟨hv, hr, _⟩ := match_part h
 rw [matchV_ref g _ hv, hr]
 show (namesP g).flatMap (pickV (eraN (namD (soundP g) d))) = _
 have hnm := refP_names (soundP g) (eraseV d) (okP_tree (soundP_ok g)) _ hr
 refine flat_single _ _ _ fun n hn => ?_
 have e := names_ok hn
 have hmem : n ∈ collP (soundP g) := (sortedV_spec _).2 n |>.1 hn
 refine pick_one _ n _ (by rw [hnm]; exact coll_nodup (soundP_ok g)) ?_
 rw [e] at hmem hnm ⊢
 have hA : (namD g d).map (·.1) = collP g := by rw [← hnm]; unfold eraN; rw [List.map_map]; rfl
 have := findN_mem (A := namD g d) (n := n) (by rw [hA]; exact hmem)
 unfold eraN
 exact List.mem_map.2 ⟨_, this, rfl⟩
theorem findI_get {α : Type} (p : α → Bool) : ∀ (l : List α) (k : Nat), 0 ≤ findI p k l → ∃ (i : Nat) (y : α), findI p k l = ((k + i : Nat) : Int) ∧ l[i]? = some y ∧ p y = true
 | [], k, h => by simp [findI] at h
 | x :: l, k, h => by
  rw [findI] at h ⊢
  cases hp : p x <;> rw [hp] at h <;> simp only [cT, cF] at h ⊢
  ·obtain ⟨i, y, h1, h2, h3⟩ := findI_get p l (k + 1) h
   exact ⟨i + 1, y, by rw [h1]; congr 1; omega, by simpa using h2, h3⟩
  ·exact ⟨0, x, rfl, rfl, hp⟩
theorem zval_snoc (l : List Val) : l.map encVal ++ [[.int .i64 0, .int .i64 0, .str [], .sl 7 [], .sl 2 [], .sl 9 [], .sl 1 []]] = (l ++ [zeroVal]).map encVal := by
 rw [List.map_append, List.map_cons, List.map_nil, encVal_eq]; rfl
theorem vval_snoc (l : List Val) (x : Val) : l.map encVal ++ [encVal x] = (l ++ [x]).map encVal := by simp
theorem erase_zero : eraseV zeroDat = zeroVal := by rw [eraseV_eq]; rfl
theorem bMatch_c (g : Pat) (q : Grd) (ns : List (List UInt8)) (d : Dat) (hg : PSm g) (hq : GSm q) (hd : Gd d) (hns : ns.length ≤ 1000) :
  PC zP 12 [.st (matC g q ns), .st (encVal (eraseV d))] (.tup [VsP (bif okD g q d then ns.map (fun s => eraseV (atN g d s)) else []), Bo (okD g q d)]) := by
 have hcl := hd.cl
 have hsm : Sm (eraseV d) := by have := bulk_erase d; have := hd.2; unfold Sm; omega
 have c2 : PC zP 19 [.st (encP g), .st (encVal (eraseV d))] (.tup [VsP (matchV g (eraseV d)).1, Bo (matchV g (eraseV d)).2]) := Match_c g (eraseV d) hg hsm
 have c3 : PC zP 21 [.st (encP g)] (SsP (namesP g)) := NamesP_c g hg
 have c4 : PC zP 20 [.st (encG q), SsP (namesP g), VsP (matchV g (eraseV d)).1] (Bo (evW (namesP g) (matchV g (eraseV d)).1 q)) := Evaluate_c (namesP g) (matchV g (eraseV d)).1 (matchV_sm g _ hsm) q hq
 have hws := ws_eq (g := g) (d := d)
 have hgd : ∀ s, Gd (findN (namD g d) s).1 := fun s => findN_gd (namD_gd g d hd) s
 rw [encP_eq g] at c2 c3
 rw [encG_eq q] at c4
 unfold okD
 have hat : ∀ s, atN g d s = bif (namesP g).any (fun x => decide (s = x)) then (findN (namD g d) s).1 else zeroDat := fun s => rfl
 generalize atN g d = at0 at hat ⊢
 generalize evW (namesP g) (matchV g (eraseV d)).1 q = ev at *
 generalize (matchV g (eraseV d)).1 = ws at *
 generalize eraseV d = v at *
 cases hok : (matchV g v).2 <;> rw [hok] at c2
 case false =>
  refine PCB.ob Tryz.func12 Tryz.ntmps12 Tryz.results12 ?_
  repeat' (first | (simp only [go_sem, D, E, H, J, N, O, U, reduceCtorEq, V, W, Y, Z, zL, matC] <;> refine nf ?_) | (refine stp ?_; intro K hK) | (apply hK; clear hK K) | refine stn ?_ | (with_reducible first | refine ⟨_, c2, ?_⟩ | refine ⟨_, c3, ?_⟩) | refine stq ?_ | (clear hK K))
  all_goals exact lf
 have hws := hws hok
 cases ev
 case false =>
  refine PCB.ob Tryz.func12 Tryz.ntmps12 Tryz.results12 ?_
  repeat' (first | (simp only [go_sem, D, E, H, J, N, O, U, reduceCtorEq, V, W, Y, Z, zL, matC] <;> refine nf ?_) | (refine stp ?_; intro K hK) | (apply hK; clear hK K) | refine stn ?_ | (with_reducible first | refine ⟨_, c2, ?_⟩ | refine ⟨_, c3, ?_⟩ | refine ⟨_, c4, ?_⟩) | refine stq ?_ | (clear hK K))
  all_goals exact lf
 generalize hL : namesP g = L at *
 refine PCB.ob Tryz.func12 Tryz.ntmps12 Tryz.results12 ?_
 refine AWP.ghQ ?_
 repeat' (first | (simp only [go_sem, D, E, H, J, N, O, U, reduceCtorEq, V, W, Y, Z, zL, matC] <;> refine nf ?_) | (refine stp ?_; intro K hK) | (apply hK; clear hK K) | refine stn ?_ | (with_reducible first | refine ⟨_, c2, ?_⟩ | refine ⟨_, c3, ?_⟩ | refine ⟨_, c4, ?_⟩) | refine stq ?_ | fail)
 refine AWP.gh (Gh.nilrow 9 900 rfl rfl rfl (by simp [Bx.fresh, freshs_dat, Cell.freshs, Cell.fresh])) ?_
 refine AWP.len 35 rfl fun hlen0 => ?_
 (try rw [lB] at hlen0)
 refine AWP.range (S := List Val) (ns) Sx.encStr (fun k s => (37, I .i64 (k : Nat)) :: [(9, .one (.own 900 s.length))]) (fun k s => [(900, .row 7 (s.map encVal))]) [6, 8, 35, 36] [] (fun k s => Is s ((ns.take k).map fun s => eraseV (at0 s))) ([]) (by simp only [go_sem, D, E, H, J, N, O, U, reduceCtorEq, V, W, Y, Z, zL, matC]; exact Gh.ts []) ?_ ?_ ?_
 ·simp [Is]
 ·intro k s x hlt hx hx' hb hok2
  refine st ?_
  have hsl : s.length ≤ k := by rw [show s = _ from hok2, lB, List.length_take]; omega
  have hax := hat x
  have c5 := indexStr_c L x
  rw [← find_any] at hax
  by_cases h0 : 0 ≤ findI (fun y => decide (x = y)) 0 L
  ·obtain ⟨i, y, h1, h2, h3⟩ := findI_get (fun y => decide (x = y)) L 0 h0
   have h3 := of_decide_eq_true h3
   subst h3
   rw [decide_eq_true h0, cT] at hax
   rw [h1] at c5
   rw [Nat.zero_add] at c5
   have hwi : ws[i]? = some (eraseV (findN (namD g d) x).1) := by rw [hws, List.getElem?_map, h2]; rfl
   have c7 := cloneVal_c _ (hgd x).cl.small
   rw [← hax] at hwi c7
   have hwi' : (ws.map encVal)[i]? = some (encVal (eraseV (at0 x))) := by rw [List.getElem?_map, hwi]; rfl
   have hil : i < ws.length := (List.getElem?_eq_some_iff.1 hwi).1
   have hdl : decide ((i : Int) < ((ws.length : Nat) : Int)) = true := by rw [decide_eq_true_eq]; omega
   have hge : decide ((0 : Int) ≤ (i : Int)) = true := by rw [decide_eq_true_eq]; omega
   repeat' (first | (simp only [go_sem, D, E, H, J, N, O, U, reduceCtorEq, V, W, Y, Z, zL, matC, hb, hdl, hge, lB, vval_snoc] <;> refine nf ?_) | (refine stp ?_; intro K hK) | (apply hK; clear hK K) | refine stn ?_ | (with_reducible first | refine ⟨_, c5, ?_⟩ | refine ⟨_, c7, ?_⟩ | refine ⟨by omega, Sx.encStr x, hx', ?_⟩ | refine ⟨by omega, encVal (eraseV (at0 x)), hwi', ?_⟩ | (refine ⟨(by first | omega | (simp only [List.length_append, lB, List.length_cons, List.length_nil]; omega) : _ ≤ _), ?_⟩)) | refine stq ?_ | (clear hK K))
   all_goals (rw [wrap_succ hlt hlen0])
   all_goals (refine ⟨s ++ [eraseV (at0 x)], ?_, Gh.ts [(900, 55)]⟩)
   all_goals (rw [Is, List.take_add_one, hx, List.map_append, ← show s = _ from hok2]; rfl)
  ·have hlt0 : decide ((0 : Int) ≤ findI (fun y => decide (x = y)) 0 L) = false := decide_eq_false h0
   rw [hlt0, cF] at hax
   repeat' (first | (simp only [go_sem, D, E, H, J, N, O, U, reduceCtorEq, V, W, Y, Z, zL, matC, hb, hlt0, lB, zval_snoc] <;> refine nf ?_) | (refine stp ?_; intro K hK) | (apply hK; clear hK K) | refine stn ?_ | (with_reducible first | refine ⟨_, c5, ?_⟩ | refine ⟨by omega, Sx.encStr x, hx', ?_⟩ | (refine ⟨(by first | omega | (simp only [List.length_append, lB, List.length_cons, List.length_nil]; omega) : _ ≤ _), ?_⟩)) | refine stq ?_ | (clear hK K))
   all_goals (rw [wrap_succ hlt hlen0])
   all_goals (refine ⟨s ++ [zeroVal], ?_, Gh.ts [(900, 55)]⟩)
   all_goals (rw [Is, List.take_add_one, hx, List.map_append, ← show s = _ from hok2]; show _ = s ++ [eraseV (at0 x)]; rw [hax, erase_zero])
 ·intro s hb hok2
  refine st ?_
  rw [Is, List.take_length] at hok2
  repeat' (first | (simp only [go_sem, D, E, H, J, N, O, U, reduceCtorEq, V, W, Y, Z, zL, lB, hb] <;> refine nf ?_) | (refine stp ?_; intro K hK) | (apply hK; clear hK K) | refine stn ?_ | (clear hK K))
  refine ⟨_, Gh.fs 900, ?_⟩
  simp only [go_sem, D, E, H, J, N, O, U, reduceCtorEq, V, W, Y, Z, zL, lB]
  all_goals (first | exact nn | refine fin0 ?_)
  all_goals (rw [show s = _ from hok2]; try rfl)
theorem out_same (g : Pat) (q : Grd) (ns : List (List UInt8)) (d : Dat) (h : okD g q d = true) : ns.map (fun s => lastN (namD (soundP g) d) s zeroDat) = ns.map (atN g d) := by
 refine List.map_congr_left fun s _ => ?_
 unfold okD at h
 rw [Bool.and_eq_true] at h
 obtain ⟨hv, hr, _⟩ := match_part h.1
 have hnm := refP_names (soundP g) (eraseV d) (okP_tree (soundP_ok g)) _ hr
 have hA : (namD (soundP g) d).map (·.1) = collP (soundP g) := by rw [← hnm]; unfold eraN; rw [List.map_map]; rfl
 unfold atN
 cases hs : (namesP g).any (fun x => decide (s = x))
 ·refine lastN_no _ _ _ fun hm => ?_
  rw [hA] at hm
  have : s ∈ namesP g := (sortedV_spec _).2 s |>.2 hm
  rw [any_mem.2 this] at hs; cases hs
 ·have e := names_ok (any_mem.1 hs)
  rw [last_first _ _ (by rw [hA]; exact coll_nodup (soundP_ok g)), e]; rfl
def intC (a : Int) : List C := [.int .i64 1, .int .i64 a, .str [], .sl 13 [], .sl 2 [], .str [], .int .i64 0, .int .i64 0, .bool false, .sl 8 [], .int .i64 0, .str [], .str []]
theorem encInt_eq (a : Int) : encDat (intDat a) = intC a := by rw [encDat_eq]; rfl
abbrev ints (a b : Int) : T := .one (.dat (.sl 13 [encDat (intDat a), encDat (intDat b)]))
abbrev IsOp (op : List UInt8) : Prop := op = [43] ∨ op = [45] ∨ op = [100, 105, 118] ∨ op = [114, 101, 109]
theorem operInt_c (op : List UInt8) (hop : IsOp op) (a b : Int) :
  PC zP 31 [S op, ints a b] (.tup [Dt (intRes op a b).1, I .i64 0, S (intRes op a b).2]) := by
 have hk : ∀ a : Int, (intDat a).kind = 1 := fun _ => rfl
 have hn : ∀ a : Int, (intDat a).num = a := fun _ => rfl
 rcases hop with h | h | h | h
 all_goals subst h
 all_goals (refine PCB.of_body Tryz.func31 rfl (by decide) Tryz.ntmps31 Tryz.results31 rfl rfl rfl ?_ rfl rfl)
 repeat' (first | (simp only [go_sem, D, E, H, J, N, O, U, reduceCtorEq, V, W, Y, Z, zL, hk, hn] <;> refine nf ?_) | (refine stp ?_; intro K hK) | (apply hK; clear hK K) | refine stn ?_ | (refine AWP.cnd ?_ ?_ <;> intro h <;> (try simp only [zM, zN] at h)) | (refine ⟨fun h => ?_, fun h => ?_⟩ <;> (try simp only [zM, zN] at h) <;> try simp only [h]) | (with_reducible refine ⟨_, integers_c _ _ _, ?_⟩) | (with_reducible refine AWP.parE1 4 mixed (by kernel_rfl) fun K hK => ?_; simp only [Bx.drop, cT, cF, D]) | (refine stp' ?_; intro K hK) | refine stq ?_ | (clear hK K))
 all_goals exact nn
theorem ints_lit (a b : Int) : (T.one (.dat (.sl 13 [[.int .i64 1, .int .i64 a, .str [], .sl 13 [], .sl 2 [], .str [], .int .i64 0, .int .i64 0, .bool false, .sl 8 [], .int .i64 0, .str [], .str []],
  [.int .i64 1, .int .i64 b, .str [], .sl 13 [], .sl 2 [], .str [], .int .i64 0, .int .i64 0, .bool false, .sl 8 [], .int .i64 0, .str [], .str []]])) : T) = ints a b := by
 show _ = T.one (.dat (.sl 13 [encDat (intDat a), encDat (intDat b)]))
 rw [encInt_eq, encInt_eq]; rfl
theorem r1 : intRes [100, 105, 118] (-7) 2 = (intDat (-3), []) := by rfl
theorem r2 : intRes [114, 101, 109] (-7) 2 = (intDat (-1), []) := by rfl
theorem r3 : (intDat (-3)).num = -3 := rfl
theorem r4 : (intDat (-1)).num = -1 := rfl
theorem awake_c : PC zP 11 [] (Bo true) := by
 refine PCB.of_body Tryz.func11 rfl (by decide) Tryz.ntmps11 Tryz.results11 rfl rfl rfl ?_ rfl rfl
 repeat' (first | (simp only [go_sem, D, E, H, J, N, O, U, reduceCtorEq, V, W, Y, Z, zL, ints_lit, r1, r2, r3, r4] <;> refine nf ?_) | (refine stp ?_; intro K hK) | (apply hK; clear hK K) | refine stn ?_ | (refine AWP.cnd ?_ ?_ <;> intro h <;> (try simp only [zM, zN] at h)) | (refine ⟨fun h => ?_, fun h => ?_⟩ <;> (try simp only [zM, zN] at h) <;> try simp only [h]) | (with_reducible refine ⟨_, operInt_c _ (by decide) _ _, ?_⟩) | (refine ⟨_, hasFunction_c ⟨9, 0, [], [], [], [], 0, 0, false, [], 0, [], []⟩, ?_⟩) | refine stq ?_ | (clear hK K))
 all_goals exact ⟨rfl, fun _ h => by cases h⟩
theorem made_k (k : Nat) (d : Nat) (hd : d ≤ 1000) (s : Src) (hs : s.ok) : PCBk zP 4 [Sp k, I .i64 d] k (srcB s) (Dt (made d s).1) (srcB (made d s).2) := (made_c d hd).k k s hs
theorem cut_eq {α : Type} (f : α → List C) (l : List α) (k : Nat) : (List.take (if ((k : Nat) : Int) < (l.length : Int) then ((k : Nat) : Int) else (l.length : Int)).toNat (List.map f l)) = (l.take k).map f := by
 rw [List.map_take]
 split
 ·rfl
 ·rw [Int.toNat_natCast, List.take_of_length_le (by simp), List.take_of_length_le (by simp; omega)]
end Go.Proofs.YtajfdbdklphonaaGreat
namespace Go.Sx
variable {P : Program} {n : Nat} {σ : AS} {Q : Exit → AS → Prop}
theorem lookup_of_mem : ∀ {B : Bx} {k : Nat} {r : Res}, (B.map (·.1)).Nodup → (k, r) ∈ B → B.lookup k = some r
 | (q, s) :: B, k, r, hn, h => by
  simp only [List.map_cons, List.nodup_cons] at hn
  rcases List.mem_cons.1 h with e | h
  ·cases e; simp
  ·have hne : (k == q) = false := by
    rw [beq_eq_false_iff_ne]
    exact fun e => hn.1 (by rw [← e]; exact List.mem_map.2 ⟨_, h, rfl⟩)
   rw [List.lookup_cons, hne]
   exact lookup_of_mem hn.2 h
theorem Bx.put_mem {k : Nat} {r r2 : Res} : ∀ {B : Bx}, B.lookup k = some r → (k, r2) ∈ Bx.put k r2 B
 | (q, s) :: B, h => by
  rw [List.lookup_cons] at h
  unfold Bx.put
  cases hq : (k == q) with
  | true =>
   have : q = k := (by simpa using hq : k = q).symm
   subst this
   simp
  | false =>
   rw [hq] at h
   have : (q == k) = false := by rw [beq_eq_false_iff_ne] at hq ⊢; exact fun e => hq e.symm
   simp only [this, cF]
   exact List.mem_cons_of_mem _ (Bx.put_mem h)
theorem Bx.put_mem_ne {k : Nat} {r : Res} {x : Nat × Res} (hx : x.1 ≠ k) : ∀ {B : Bx}, x ∈ B → x ∈ Bx.put k r B
 | p :: B, h => by
  unfold Bx.put
  cases hp : (p.1 == k) with
  | true =>
   rcases List.mem_cons.1 h with rfl | h
   ·exact absurd (by simpa using hp) hx
   ·exact List.mem_cons_of_mem _ h
  | false =>
   rcases List.mem_cons.1 h with rfl | h
   ·exact List.mem_cons_self
   ·exact List.mem_cons_of_mem _ (Bx.put_mem_ne hx h)
structure MidC (κ : Kap) (M0 : Mem) (n : Nat) (l : List Oper) (t : Nat → T) (mk : Nat → Option (Nat × Res)) (B0 B1 : Bx) (c : Nat) (env0 : Env) (listed : Array Bool) (a : Act) (w : World) : Prop where
 size : listed.size = l.length
 closed : Closed l listed
 st : ∃ M ν, M0.ext κ M ∧ a.tmps.size = n ∧ a.defers = [] ∧ EnvOk M ν a.tmps (envA l t (xs listed) env0 l.length) ∧ Sat κ M ν (bxX mk (bif xs listed c then B1 else B0) (xs listed) l.length) w ∧ ∀ k, pin ≤ k → ν k = κ.nu k
theorem genCS_sound {κ : Kap} {M0 : Mem} {l : List Oper} {B0 Bf : Bx} {c kb : Nat} {res res2 : Res} {t : Nat → T} {mk : Nat → Option (Nat × Res)} {env0 : Env} {L : Nat} {Q' : Exit → Act → World → Prop}
  (hback : Back l) (hpairs : Pairs l) (hap : Apart mk B0) (hc0 : B0.lookup kb = some res) (hcm : mk c = none) (hcL : c < L) (hB0 : ∀ x ∈ Bf, x ∈ B0) (hB1 : ∀ x ∈ Bf, x ∈ Bx.put kb res2 B0) (hfB0 : ∀ i p, mk i = some p → Bx.fresh p.1 B0 = true ∧ Bx.fresh p.1 (Bx.put kb res2 B0) = true)
  (hturn : ∀ o, l[c]? = some o → dstOk n o = true ∧ o.guard = none ∧ ∀ B2 : Bx, B2.lookup kb = some res → OpE P o (envA l t (fun _ => true) env0 c) B2 (t c) (Bx.put kb res2 B2)) (hro : RowsOnly mk) (hlen : ∀ i p, mk i = some p → i < l.length)
  {oL : Oper} {B' : Bx} (hL : l.length = L + 1) (hoL : l[L]? = some oL) (hdL : dstOk n oL = true) (hgL : oL.guard = none) (hdep : ∀ i, i < L → depB l L i = true) (hopL : OpE P oL (envA l t (fun _ => true) env0 L) (bxX mk (Bx.put kb res2 B0) (fun _ => true) L) (t L) B')
  (hs : ∀ i o, i < L → i ≠ c → l[i]? = some o → OSpecM P n l Bf o (envA l t (fun _ => true) env0 i) (t i) (mk i))
  (hfr : ∀ g k p, mk g = some p → g < k → k < l.length → (t k).fresh p.1 = true ∨ depB l k g = true)
  (hQ : ∀ a w, St κ M0 n ⟨envA l t (fun _ => true) env0 l.length, B'⟩ a w → Q' .normal a w) :
  ∀ (fuel : Nat) (listed : Array Bool) (a : Act) (w : World), cnt l listed = fuel → (MidC κ M0 n l t mk B0 (Bx.put kb res2 B0) c env0 listed a w ∧ listed.getD L false = false) →
   wpAny P .any l.toArray Q' fuel listed a w := by
 have fin : ∀ (fuel : Nat) (listed : Array Bool) (a : Act) (w : World), listed.size = l.length → (∀ i, i < l.length → listed.getD i false = true) → St κ M0 n ⟨envA l t (fun _ => true) env0 l.length, B'⟩ a w → wpAny P .any l.toArray Q' fuel listed a w := by
  intro fuel listed a w hsz hall hst
  cases fuel with
  | zero => exact ⟨ready_none hsz hall, hQ a w hst⟩
  | succ fuel =>
   refine ⟨fun _ => hQ a w hst, fun i hi => ?_⟩
   exfalso
   rw [ready_none hsz hall] at hi
   cases hi
 intro fuel
 induction fuel with
 | zero =>
  intro listed a w hfuel ⟨hm, hxL⟩
  have hall := cnt_zero hfuel L (by omega)
  rw [hxL] at hall; cases hall
 | succ fuel ih =>
  intro listed a w hfuel ⟨hm, hxL⟩
  refine ⟨fun hr => (by have := ready_least hback hm.size hr L (by omega); rw [hxL] at this; cases this), fun i hi => ?_⟩
  obtain ⟨h0, oi, hoi, hall⟩ := mem_ready.1 hi
  have hil : i < l.length := by have := (Array.getElem?_eq_some_iff.1 hoi).1; simpa using this
  have hoi' : l[i]? = some oi := by simpa using hoi
  have hisz : i < listed.size := by rw [hm.size]; exact hil
  have hxi : listed.getD i false = false := by simp [hisz] at h0 ⊢; exact h0
  obtain ⟨M, ν, h1, h2, h3, h4, h7, h8⟩ := hm.st
  have hd : dstOk n oi = true := by
   by_cases hiL : i < L
   ·by_cases hic : i = c
    ·subst hic; exact (hturn oi hoi').1
    ·exact (hs i oi hiL hic hoi').1
   ·have : i = L := by omega
    subst this
    rw [hoL] at hoi'; cases hoi'; exact hdL
  have look : ∀ d, d ∈ oi.looksAt l.toArray → (envA l t (xs listed) env0 l.length).lookup d = (envA l t (fun _ => true) env0 i).lookup d := by
   intro d hdm
   rw [envA_skip l t (xs listed) env0 d i l.length (by omega) ?_, envA_same l t (xs listed) (fun _ => true) env0 d i ?_]
   ·intro j o hj ho hod
    rcases hpairs j i o oi hj ho hoi' with ⟨e', he', hb', hon⟩ | hap
    ·exact hon ▸ hall e' he' hb'
    ·exact absurd hdm ((Oper.apart_spec hap).1 d hod)
   ·intro j o hj hjl ho hod
    by_cases hji : i = j
    ·subst hji; exact hxi
    ·cases hxj : xs listed j with
     | false => rfl
     | true =>
      rcases hpairs i j oi o (by omega) hoi' ho with ⟨e', he', hb', hon⟩ | hap
      ·have := hm.closed j o ho hxj e' he' hb'
       rw [hon, hxi] at this; cases this
      ·exact absurd hdm ((Oper.apart_spec hap).2.2 d hod)
  have hclosed : Closed l (listed.setIfInBounds i true) := by
   intro j oj hj hx e' he' hb'
   by_cases hji : i = j
   ·subst hji
    rw [hoi'] at hj; cases hj
    exact getD_set_true (hall e' he' hb')
   ·rw [getD_set_ne false hji] at hx
    exact getD_set_true (hm.closed j oj hj hx e' he' hb')
  have hcount : cnt l (listed.setIfInBounds i true) = fuel := by
   have := cnt_set hm.size hil hxi; omega
  have after : ∀ (M' : Mem) (ν' : Nu) (v : Value) (w' : World), M.ext κ M' → EnvOk M ν' a.tmps (envA l t (xs listed) env0 l.length) → (t i).rep M' ν' v → Sat κ M' ν' (bxX mk (bif xs (listed.setIfInBounds i true) c then Bx.put kb res2 B0 else B0) (xs (listed.setIfInBounds i true)) l.length) w' → (∀ k, pin ≤ k → ν' k = κ.nu k) →
    MidC κ M0 n l t mk B0 (Bx.put kb res2 B0) c env0 (listed.setIfInBounds i true) (a.put oi.dst v) w' := by
   intro M' ν' v w' hle h4 hr hsat hpin
   refine ⟨by simpa using hm.size, hclosed, M', ν', h1.trans hle, by rw [Act.put_size]; exact h2, by rw [Act.put_defers']; exact h3, ?_, hsat, hpin⟩
   have hput := EnvOk.put (df := a.defers) (h4.mono hle.1) (dst := oi.dst) (v := v) (t := t i) (fun d he => by rw [h2]; exact dstOk_spec hd d he) hr
   intro k u hu
   refine hput k u ?_
   rw [putE_lookup]
   by_cases hk : oi.dst = some k
   ·rw [if_pos hk]
    have e1 := envA_skip l t (xs (listed.setIfInBounds i true)) env0 k (i + 1) l.length (by omega) (fun j o hj hjl ho hod => by
     cases hxj : xs (listed.setIfInBounds i true) j with
     | false => rfl
     | true =>
      have hne : i ≠ j := by omega
      have hxj' : listed.getD j false = true := by rw [← getD_set_ne false hne]; exact hxj
      rcases hpairs i j oi o (by omega) hoi' ho with ⟨e', he', hb', hon⟩ | hap
      ·have := hm.closed j o ho hxj' e' he' hb'
       rw [hon, hxi] at this; cases this
      ·exact absurd hod ((Oper.apart_spec hap).2.1 k hk))
    rw [e1] at hu
    have hself : xs (listed.setIfInBounds i true) i = true := by simp [xs, hisz]
    rw [envA, hself] at hu
    simp only [cT, putE_lookup, hoi', Option.bind_some, hk, if_true] at hu
    exact hu
   ·rw [if_neg hk]
    have e2 := envA_same l t (xs (listed.setIfInBounds i true)) (xs listed) env0 k l.length (fun j o hj ho hod => by
     have hne : i ≠ j := fun h => by subst h; rw [hoi'] at ho; cases ho; exact hk hod
     exact getD_set_ne false hne)
    rw [← e2]; exact hu
  have hon : EnvOn M ν a (envA l t (fun _ => true) env0 i) oi := by
   intro d u hdo hu
   refine h4 d u ?_
   rw [look d (looksAt_op hdo)]; exact hu
  have hgd : ∀ g want d u, oi.guard = some (g, want) → (l[g]?).bind (·.dst) = some d → (envA l t (fun _ => true) env0 i).lookup d = some u → u.rep M ν (a.tmps.getD d undef) := by
   intro g want d u hg hgd hu
   refine h4 d u ?_
   rw [look d (looksAt_guard hg hgd)]; exact hu
  have hap1 : Apart mk (Bx.put kb res2 B0) := ⟨hap.1, fun q p hq x hx => (Bx.fresh_spec (j := x.1) (r := x.2) (hfB0 q p hq).2 hx).1⟩
  by_cases hiL : i = L
  ·subst hiL
   rw [hoL] at hoi'; cases hoi'
   have hlist : ∀ j, j < i → listed.getD j false = true := fun j hj => dep_of (hdep j hj) hoL hm.closed (fun e' he' hb' => hall e' he' hb')
   unfold wpOp
   rw [hoi]
   simp only []
   rw [if_pos (by simp [Region.wanted, hgL])]
   left
   have hxc : xs listed c = true := hlist c hcL
   rw [hxc, cT] at h7
   have hbx : ∀ x ∈ bxX mk (Bx.put kb res2 B0) (fun _ => true) i, x ∈ bxX mk (Bx.put kb res2 B0) (xs listed) l.length := by
    intro x hx
    rcases mem_bxX.1 hx with h | ⟨j, hj, _, hk⟩
    ·exact mem_bxX.2 (.inl h)
    ·exact mem_bxX.2 (.inr ⟨j, by omega, hlist j hj, hk⟩)
   refine Oper.wp_mono_Q (Oper.wp_mono ?_ (hopL κ M ν a w hon (h7.drop hbx (nodup_bxX hap1 (nodup_B0 h7.nodup) _))))
   rintro a' w' ⟨v, M', rfl, hle, hr, hsat⟩
   have hall' : ∀ j, j < l.length → (listed.setIfInBounds i true).getD j false = true := by
    intro j hj
    by_cases hji : j = i
    ·subst hji; simp [hisz]
    ·exact getD_set_true (hlist j (by omega))
   refine fin _ _ _ _ (by simpa using hm.size) hall' ⟨M', ν, h1.trans hle, by rw [Act.put_size]; exact h2, by rw [Act.put_defers']; exact h3, ?_, hsat, h8⟩
   have hput := EnvOk.put (df := a.defers) (h4.mono hle.1) (dst := oL.dst) (v := v) (t := t i) (fun d he => by rw [h2]; exact dstOk_spec hd d he) hr
   intro k u hu
   refine hput k u ?_
   rw [putE_lookup]
   have e0 : envA l t (fun _ => true) env0 l.length = putE (envA l t (fun _ => true) env0 i) oL.dst (t i) := by
    rw [hL, envA]
    simp only [cT, hoL, Option.bind_some]
    try (cases oL.dst <;> rfl)
   have hup : (putE (envA l t (fun _ => true) env0 i) oL.dst (t i)).lookup k = some u := by rw [← e0]; exact hu
   rw [putE_lookup] at hup
   by_cases hk : oL.dst = some k
   ·rw [if_pos hk] at hup ⊢; exact hup
   ·rw [if_neg hk] at hup ⊢
    have e1 : envA l t (xs listed) env0 l.length = envA l t (xs listed) env0 i := by
     rw [hL, envA]
     have : xs listed i = false := hxL
     rw [this]; rfl
    rw [e1, envA_same l t (xs listed) (fun _ => true) env0 k i (fun j o hj _ _ => hlist j hj)]
    exact hup
  have hiL' : i < L := by omega
  have hxL' : (listed.setIfInBounds i true).getD L false = false := by rw [getD_set_ne false (by omega)]; exact hxL
  have hself : xs (listed.setIfInBounds i true) i = true := by simp [xs, hisz]
  have hold : ∀ j, i ≠ j → xs (listed.setIfInBounds i true) j = xs listed j := fun j hj => getD_set_ne false hj
  have h0nd : (B0.map (·.1)).Nodup := by
   have := nodup_B0 h7.nodup
   cases hxc : xs listed c <;> rw [hxc] at this
   ·exact this
   ·rw [cT, Bx.put_keys] at this; exact this
  have hapB : ∀ b : Bool, Apart mk (bif b then Bx.put kb res2 B0 else B0) := fun b => by
   cases b
   ·exact hap
   ·exact hap1
  have hnB : ∀ b : Bool, ((bif b then Bx.put kb res2 B0 else B0).map (·.1)).Nodup := fun b => by
   cases b
   ·exact h0nd
   ·rw [cT, Bx.put_keys]; exact h0nd
  have hfixB : ∀ b : Bool, ∀ x ∈ Bf, x ∈ (bif b then Bx.put kb res2 B0 else B0) := fun b x hx => by
   cases b
   ·exact hB0 x hx
   ·exact hB1 x hx
  by_cases hic : i = c
  ·subst hic
   have hco : xs listed i = false := hxi
   rw [hco, cF] at h7
   obtain ⟨_, hgn, hop⟩ := hturn oi hoi'
   unfold wpOp
   rw [hoi]
   simp only []
   rw [if_pos (by simp [Region.wanted, hgn])]
   left
   have hlk : (bxX mk B0 (xs listed) l.length).lookup kb = some res := lookup_of_mem h7.nodup (mem_bxX.2 (.inl (lookup_box hc0)))
   refine Oper.wp_mono_Q (Oper.wp_mono ?_ (hop _ hlk κ M ν a w hon h7))
   rintro a' w' ⟨v, M', rfl, hle, hr, hsat⟩
   refine ih _ _ _ hcount ⟨after M' ν v w' hle h4 hr ?_ h8, hxL'⟩
   rw [hself, cT]
   refine hsat.drop (fun x hx => ?_) (nodup_bxX hap1 (by rw [Bx.put_keys]; exact h0nd) _)
   rcases mem_bxX.1 hx with h | ⟨j, hj, hX, hkj⟩
   ·rcases Bx.mem_put h0nd h with e | ⟨h1, h2⟩
    ·rw [e]; exact Bx.put_mem hlk
    ·exact Bx.put_mem_ne h2 (mem_bxX.2 (.inl h1))
   ·have hne : i ≠ j := fun e => by subst e; rw [hcm] at hkj; cases hkj
    refine Bx.put_mem_ne ?_ (mem_bxX.2 (.inr ⟨j, hj, by rw [← hold j hne]; exact hX, hkj⟩))
    exact fun e => hap.2 j x hkj (kb, res) (lookup_box hc0) e.symm
  have hspec := (hs i oi hiL' hic hoi').2
  have hcc : xs (listed.setIfInBounds i true) c = xs listed c := hold c hic
  have nod : ((bxX mk (bif xs (listed.setIfInBounds i true) c then Bx.put kb res2 B0 else B0) (xs (listed.setIfInBounds i true)) l.length).map (·.1)).Nodup := nodup_bxX (hapB _) (hnB _) _
  have same : mk i = none → ∀ x ∈ bxX mk (bif xs (listed.setIfInBounds i true) c then Bx.put kb res2 B0 else B0) (xs (listed.setIfInBounds i true)) l.length, x ∈ bxX mk (bif xs listed c then Bx.put kb res2 B0 else B0) (xs listed) l.length := by
   intro hk x hx
   rw [hcc] at hx
   rcases mem_bxX.1 hx with h | ⟨j, hj, hX, hkj⟩
   ·exact mem_bxX.2 (.inl h)
   ·have hne : i ≠ j := fun e => by subst e; rw [hk] at hkj; cases hkj
    exact mem_bxX.2 (.inr ⟨j, hj, by rw [← hold j hne]; exact hX, hkj⟩)
  unfold wpOp
  rw [hoi]
  simp only []
  rcases hspec with ⟨hg, ⟨hjn, hop⟩ | ⟨k, r, hjn, hkp, hfk, _, hop⟩⟩ | ⟨hg, ht, hjn⟩
  ·rw [if_pos (wanted_of hg hgd)]
   left
   refine Oper.wp_mono_Q (Oper.wp_mono ?_ (hop κ M ν a w _ (fun x hx => mem_bxX.2 (.inl (hfixB _ x hx))) hon h7))
   rintro a' w' ⟨v, M', rfl, hle, hr, hsat⟩
   exact ih _ _ _ hcount ⟨after M' ν v w' hle h4 hr (hsat.drop (same hjn) nod) h8, hxL'⟩
  ·rw [if_pos (wanted_of hg hgd)]
   left
   have hfB : Bx.fresh k (bxX mk (bif xs listed c then Bx.put kb res2 B0 else B0) (xs listed) l.length) = true := by
    refine bx_fresh_of fun x hx => ?_
    rcases mem_bxX.1 hx with h | ⟨j, hj, hX, hkj⟩
    ·have hff := hfB0 i (k, r) hjn
     cases hxc : xs listed c <;> rw [hxc] at h
     ·exact Bx.fresh_spec (j := x.1) (r := x.2) hff.1 h
     ·exact Bx.fresh_spec (j := x.1) (r := x.2) hff.2 h
    ·have hne : j ≠ i := fun e => by subst e; unfold xs at hX; rw [hxi] at hX; cases hX
     refine ⟨hap.1 j i x _ hkj hjn hne, fun cs e => ?_⟩
     exact hro j x hkj k cs e
   refine Oper.wp_mono_Q (Oper.wp_mono ?_ (hop _ (fun x hx => mem_bxX.2 (.inl (hfixB _ x hx))) hfB κ M ν a w hon h7))
   rintro a' w' ⟨v, M', ν', rfl, hle, hν, hr, hsat⟩
   obtain ⟨hf0, hft⟩ := fresh_envA i hfk
   have hfresh : Env.fresh k (envA l t (xs listed) env0 l.length) = true := by
    refine envA_fresh' hf0 l.length (fun q hq hx hdq => ?_)
    rcases Nat.lt_trichotomy q i with h | h | h
    ·exact hft q h hdq
    ·subst h; unfold xs at hx; rw [hxi] at hx; cases hx
    ·rcases hfr i q _ hjn h hq with h' | h'
     ·exact h'
     ·exfalso
      have := dep_of h' (List.getElem?_eq_getElem hq) hm.closed (fun e' he' hb' => hm.closed q l[q] (List.getElem?_eq_getElem hq) hx e' he' hb')
      rw [hxi] at this; cases this
   refine ih _ _ _ hcount ⟨after M' ν' v w' hle (h4.fresh hfresh hν) hr (hsat.drop ?_ nod) (fun q hq => by rw [hν q (by omega)]; exact h8 q hq), hxL'⟩
   intro x hx
   rw [hcc] at hx
   rcases mem_bxX.1 hx with h | ⟨j, hj, hX, hkj⟩
   ·exact List.mem_cons_of_mem _ (mem_bxX.2 (.inl h))
   ·by_cases hne : i = j
    ·subst hne; rw [hjn] at hkj; cases hkj; exact List.mem_cons_self
    ·exact List.mem_cons_of_mem _ (mem_bxX.2 (.inr ⟨j, hj, by rw [← hold j hne]; exact hX, hkj⟩))
  ·rw [unwanted_of hg hgd]
   simp only [Bool.false_eq_true, if_false]
   refine ih _ _ _ hcount ⟨after M ν undef w (Mem.ext.refl κ M) h4 (by rw [ht]; simp [undefT, T.rep, Cell.rep, C.rep]) (h7.drop (same hjn) nod) h8, hxL'⟩
end Go.Sx
