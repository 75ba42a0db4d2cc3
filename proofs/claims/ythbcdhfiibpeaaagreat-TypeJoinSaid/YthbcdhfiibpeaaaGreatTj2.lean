/- Lemmas of the proof. -/
import Derived.Test.YthbcdhfiibpeaaaGreatTj1
open List renaming length_map → lB
open Nat renaming reduceBEq → zA, reduceBNe → zB, reduceAdd → zC, reduceSub → zD, reduceMul → zE, reduceLeDiff → zF, reduceLT → zG, reduceEqDiff → zH
open Int renaming reduceToNat → zI, reduceLE → zJ, reduceLT → zK, reduceEq → zL
open Bool renaming not_eq_true' → zM, not_eq_false' → zN
set_option linter.unusedSimpArgs false
set_option linter.unusedVariables false
set_option maxRecDepth 20000
set_option maxHeartbeats 64000000
namespace Go.Proofs.YthbcdhfiibpeaaaGreat
open Go Go.Sx
theorem upI_eq {b : Nat} {k : Int} {n : Nat} (hk : 0 ≤ k ∧ k < (n : Int)) (hb : b + n ≤ 100000000) : upI b k = k + b := by
  unfold upI; rw [w64 (by omega)]
theorem zipAll_map (q : Val → Int → Bool) (f : Int → Int) : ∀ (vs : List Val) (ks : List Int), ((vs.zip (ks.map f)).all fun p => q p.1 p.2) = (vs.zip ks).all fun p => q p.1 (f p.2)
  | [], ks => by simp
  | v :: vs, [] => by simp
  | v :: vs, k :: ks => by simp only [List.map_cons, List.zip_cons_cons, List.all_cons, zipAll_map q f vs ks]
theorem memsB_up {g g' : Val → Int → Bool} {b : Int} {vs : List Val} {ks : List Int} (h : ∀ v, ∀ k ∈ ks, g' v (upI b k) = g v k) : memsB g' vs (ks.map (upI b)) = memsB g vs ks := by
  unfold memsB
  rw [lB, zipAll_map]
  congr 1
  refine all_congr fun p hp => ?_
  obtain ⟨a, c⟩ := p
  exact h a c (List.of_mem_zip hp).2
theorem findI_map {α β : Type} (f : α → β) (p : β → Bool) : ∀ (l : List α) (i : Nat), findI p i (l.map f) = findI (fun x => p (f x)) i l
  | [], i => rfl
  | x :: l, i => by rw [List.map_cons, findI, findI, findI_map f p l (i + 1)]
theorem keyTo_up (x : NodeD) (b : Int) (k : KeyD) (hk : x.kind = 13) : keyTo (upN b x) k = upI b (keyTo x k) := by
 have hf : findI (fun f : FieldD => sameK f.key k) 0 (upN b x).fields = findI (fun f : FieldD => sameK f.key k) 0 x.fields := findI_map (upF b) _ _ _
 cases h : decide (0 ≤ findI (fun f : FieldD => sameK f.key k) 0 x.fields) with
 | true =>
  obtain ⟨i, f, h1, h2, _⟩ := findI_at _ x.fields 0 (of_decide_eq_true h)
  rw [Nat.zero_add] at h1
  rw [keyTo_at h1 h2]
  have h3 : (upN b x).fields[i]? = some (upF b f) := by show (x.fields.map (upF b))[i]? = _; rw [List.getElem?_map, h2]; rfl
  rw [keyTo_at (by rw [hf, h1]) h3]; rfl
 | false =>
  rw [keyTo_no h, keyTo_no (by rw [hf]; exact h)]
  simp only [upN, hk, decide_true, cond_true]
  cases decide (k.kind = 0) <;> rfl
theorem lastI_map (f : Int → Int) {l : List Int} (h : l ≠ []) : lastI (l.map f) = f (lastI l) := by
  unfold lastI
  have h1 : l.length - 1 < l.length := by have := List.length_pos_iff.2 h; omega
  rw [lB, List.getD_eq_getElem?_getD, List.getD_eq_getElem?_getD, List.getElem?_map, List.getElem?_eq_getElem h1]; rfl
theorem edge_up (x : NodeD) (b : Int) : edgeL (upN b x) = (edgeL x).map (upI b) := by
  unfold edgeL upN
  simp only [List.map_append, List.map_map]
  cases decide (x.kind = 13) <;> rfl
theorem memN_up {g g' : Val → Int → Bool} {x : NodeD} {v : Val} {b : Int} (h : ∀ p, ∀ k ∈ edgeL x, g' p (upI b k) = g p k) (hk : boolK x.kind = true ∨ x.kind = 14 → x.kids ≠ []) : memN g' (upN b x) v = memN g x v := by
 have hkid : ∀ p, ∀ k ∈ x.kids, g' p (upI b k) = g p k := fun p k hk => h p k (kid_edge hk)
 have hms : memsB g' v.kids (upN b x).kids = memsB g v.kids x.kids := memsB_up hkid
 have e : (upN b x).kind = x.kind := rfl
 have e1 : (upN b x).lo = x.lo := rfl
 have e2 : (upN b x).hi = x.hi := rfl
 have e3 : (upN b x).text = x.text := rfl
 unfold memN
 rw [e, e1, e2, e3, hms]
 by_cases h13 : x.kind = 13
 ·rw [h13]
  simp only [Int.reduceEq, decide_false, cond_false, decide_true, cond_true]
  congr 1
  unfold mapMB
  congr 1
  ·show ((x.fields.map (upF b)).all _) = _
   rw [List.all_map]; rfl
  ·refine all_congr fun p hp => ?_
   rw [keyTo_up x b p.1 h13]
   exact h p.2 _ (keyTo_edge h13 p.1)
 by_cases h14 : x.kind = 14
 ·have hne := hk (.inr h14)
  rw [h14]
  simp only [Int.reduceEq, decide_false, cond_false, decide_true, cond_true]
  congr 1
  unfold funMB
  have ek : (upN b x).kids = x.kids.map (upI b) := rfl
  rw [ek, lB]
  congr 1
  refine all_congr fun e he => ?_
  unfold entMB
  rw [lB, ← List.map_take, lastI_map _ hne, memsB_up fun p k hk => hkid p k (List.mem_of_mem_take hk), hkid e.2.2 _ (last_mem hne)]
 have ek : (upN b x).kids = x.kids.map (upI b) := rfl
 by_cases h16 : x.kind = 16
 ·rw [h16]
  simp only [Int.reduceEq, decide_false, cond_false, decide_true, cond_true]
  rw [ek, List.any_map]
  exact any_congr fun k hk => hkid v k hk
 by_cases h17 : x.kind = 17
 ·rw [h17]
  simp only [Int.reduceEq, decide_false, cond_false, decide_true, cond_true]
  rw [ek, List.all_map]
  exact all_congr fun k hk => hkid v k hk
 by_cases h18 : x.kind = 18
 ·have hne := hk (.inl (by rw [h18]; rfl))
  rw [h18]
  simp only [Int.reduceEq, decide_false, cond_false, decide_true, cond_true]
  have : (x.kids.map (upI b)).getD 0 0 = upI b (x.kids.getD 0 0) := by
   cases hkk : x.kids with
   | nil => exact absurd hkk hne
   | cons a t => rfl
  rw [ek, this, hkid v _ (getD0_mem hne)]
 simp only [h13, h14, h16, h17, h18, decide_false, cond_false]
structure Emb (L s : List NodeD) (b : Nat) : Prop where
  at_ : ∀ j, j < s.length → L[b + j]? = (s[j]?).map (upN b)
  len : b + s.length ≤ L.length
  big : L.length ≤ 10000000
theorem Emb.mk_ {pre s post : List NodeD} (h : (pre ++ s.map (upN pre.length) ++ post).length ≤ 10000000) : Emb (pre ++ s.map (upN pre.length) ++ post) s pre.length where
 at_ := fun j hj => by
  rw [List.append_assoc, List.getElem?_append_right (by omega), Nat.add_sub_cancel_left, List.getElem?_append_left (by rw [lB]; exact hj), List.getElem?_map]
 len := by simp
 big := h
theorem Emb.up {L s : List NodeD} {b : Nat} (h : Emb L s b) {k : Int} (hk : 0 ≤ k ∧ k < (s.length : Int)) : upI b k = k + b := by
  have := h.len; have := h.big
  exact upI_eq (n := s.length) hk (by omega)
theorem Emb.node {L s : List NodeD} {b : Nat} (h : Emb L s b) {k : Int} (hk : 0 ≤ k ∧ k < (s.length : Int)) : nodeAt L (upI b k) = upN b (nodeAt s k) := by
  rw [h.up hk]
  unfold nodeAt
  have h1 : (k + (b : Int)).toNat = b + k.toNat := by omega
  have h2 := h.at_ k.toNat (by omega)
  rw [h1, List.getD_eq_getElem?_getD, h2, List.getD_eq_getElem?_getD, List.getElem?_eq_getElem (by omega)]; rfl
theorem memF_up {L s : List NodeD} {b R : Nat} (h : Emb L s b) (hs : Wf s R) : ∀ (f : Nat) (v : Val) (k : Int), 0 ≤ k ∧ k < (s.length : Int) → memF L f v (upI b k) = memF s f v k
 | 0, v, k, _ => rfl
 | f + 1, v, k, hk => by
  rw [memF, memF, h.node hk]
  have hm := inN hk
  exact memN_up (fun p k' hk' => memF_up h hs f p k' (hs.edge _ hm k' hk')) (hs.kids _ hm)
theorem memV_up {L s : List NodeD} {b R : Nat} (h : Emb L s b) (hs : Wf s R) (v : Val) (k : Int) (hk : 0 ≤ k ∧ k < (s.length : Int)) : memV L v (upI b k) = memV s v k := by
  have e2 : ∀ f, memF L f v (upI b k) = memF s f v k := fun f => memF_up h hs f v k hk
  have e3 : (∃ F, ∀ f, F ≤ f → memF L f v (upI b k) = true) ↔ (∃ F, ∀ f, F ≤ f → memF s f v k = true) := by simp only [e2]
  unfold memV
  exact decide_eq_decide.2 e3
theorem plain_up (x : NodeD) (b : Int) : plainN (upN b x) = plainN x := by
 unfold plainN plainG plainS
 have e : (upN b x).kind = x.kind := rfl
 rw [e]
 cases h13 : decide (x.kind = 13)
 ·simp only [upN, h13, cond_false, lB]
 ·have : x.kind = 13 := of_decide_eq_true h13
  simp only [upN, this, Int.reduceEq, decide_true, decide_false, Bool.or_false, cond_true, cond_false, lB, Bool.or_true, Bool.true_or]
theorem fldB_up (b : Int) : ∀ (l : List FieldD) (p : Option KeyD), fldB p (l.map (upF b)) = fldB p l
 | [], p => rfl
 | f :: l, p => by
  have ih := fldB_up b l
  cases p <;> simp only [List.map_cons, fldB, ih] <;> rfl
theorem validK_up (x : NodeD) (b : Int) : validK (upN b x) = validK x := by
  unfold validK
  simp only [upN, lB, fldB_up]
  rfl
theorem nodeP_up {L s : List NodeD} {b : Nat} (h : Emb L s b) {x : NodeD} (hx : nodeP s x = true) : nodeP L (upN b x) = true := by
  have := h.len
  simp only [nodeP, Bool.and_eq_true] at hx ⊢
  refine ⟨by rw [plain_up]; exact hx.1, by rw [validK_up]; exact hx.2.1, ?_⟩
  rw [edge_up, List.all_map, List.all_eq_true]
  intro e he
  have h2 := List.all_eq_true.1 hx.2.2 e he
  simp only [outE, Bool.not_eq_true', Bool.or_eq_false_iff, decide_eq_false_iff_not] at h2
  have h3 := h.up (k := e) (by omega)
  simp only [Function.comp_def, outE, Bool.not_eq_true', Bool.or_eq_false_iff, decide_eq_false_iff_not, h3]
  omega
theorem fin_up {L s : List NodeD} {b R : Nat} (h : Emb L s b) (hs : Wf s R) {j : Nat} (hj : j < s.length) (hf : Gr.Fin (bo s) (ks s) j) : Gr.Fin (bo L) (ks L) (b + j) := by
 unfold Gr.Fin at hf
 induction hf with
 | intro j _ ih =>
  have hx : s[j]? = some s[j] := List.getElem?_eq_getElem hj
  have hL : L[b + j]? = some (upN b s[j]) := by rw [h.at_ j hj, hx]; rfl
  refine Gr.fin_of _ _ fun hb k hk => ?_
  have hbs : bo s j = true := by unfold bo at hb ⊢; rw [hL] at hb; rw [hx]; exact hb
  unfold ks at hk
  rw [hL] at hk
  obtain ⟨y, hy, rfl⟩ := List.mem_map.1 hk
  obtain ⟨z, hz, rfl⟩ := List.mem_map.1 (show y ∈ s[j].kids.map (upI b) from hy)
  have hzr := hs.edge _ (List.getElem_mem hj) z (kid_edge hz)
  rw [h.up hzr, show (z + (b : Int)).toNat = b + z.toNat by omega]
  refine ih z.toNat ⟨hbs, ?_⟩ (by omega)
  unfold ks; rw [hx]
  exact List.mem_map_of_mem hz
theorem wf_of {l : List NodeD} {r : Int} (h0 : 0 ≤ r) (hr : r < (l.length : Int)) (hn : ∀ x ∈ l, nodeP l x = true) (hf : ∀ j, j < l.length → Gr.Fin (bo l) (ks l) j) : wfP l r = 0 := by
  have ho : outE l r = false := by simp only [outE, Bool.or_eq_false_iff, decide_eq_false_iff_not]; omega
  have ha : l.all (nodeP l) = true := List.all_eq_true.2 hn
  have hc : contrB l = true := (Gr.all_iff (bo l) (ks l) l.length (ks_in (inR_of ha))).2 hf
  unfold wfP
  rw [ho, ha, hc]; rfl
theorem fin_all {l : List NodeD} {r : Int} (h : wfP l r = 0) : ∀ j, j < l.length → Gr.Fin (bo l) (ks l) j := by
  obtain ⟨_, _, ha, hc⟩ := wf_out h
  exact (Gr.all_iff (bo l) (ks l) l.length (ks_in (inR_of ha))).1 hc
theorem memOf_up {L s : List NodeD} {b : Nat} {r r' : Int} (h : Emb L s b) (hs : wfP s r' = 0) (hL : wfP L r = 0) (v : Val) (k : Int) (hk : 0 ≤ k ∧ k < (s.length : Int)) : memOf v L r (upI b k) = memOf v s r' k := by
  obtain ⟨R, hR⟩ := Wf.of hs
  have := h.len
  unfold memOf
  rw [memV_up h hR v k hk, hs, hL]
  have h1 : inB s k = true := by simp only [inB, Bool.and_eq_true, decide_eq_true_eq]; omega
  have h2 : inB L (upI b k) = true := by rw [h.up hk]; simp only [inB, Bool.and_eq_true, decide_eq_true_eq]; omega
  rw [h1, h2]
theorem emL_wf {s : List NodeD} {r : Int} (h : wfP s r = 0) (b : Nat) : emL b s r = s.map (upN b) := by
  unfold emL soundL; rw [h]; rfl
theorem emR_wf {s : List NodeD} {r : Int} (h : wfP s r = 0) (b : Nat) : emR b s r = upI b r := by
  unfold emR soundR; rw [h]; rfl
theorem join_eq {s t : List NodeD} {r q : Int} (hs : wfP s r = 0) (ht : wfP t q = 0) : joinL (s, r) (t, q) = s.map (upN 0) ++ t.map (upN s.length) := by
  unfold joinL
  simp only
  rw [emL_wf hs, emL_wf ht, lB]; rfl
theorem join_emb0 (s t : List NodeD) (h : s.length + t.length ≤ 10000000) : Emb (s.map (upN 0) ++ t.map (upN s.length)) s 0 :=
  Emb.mk_ (pre := []) (post := t.map (upN s.length)) (by simp; omega)
theorem join_emb1 (s t : List NodeD) (h : s.length + t.length ≤ 10000000) : Emb (s.map (upN 0) ++ t.map (upN s.length)) t s.length := by
  have := Emb.mk_ (pre := s.map (upN 0)) (s := t) (post := []) (by simp; omega)
  rw [lB, List.append_nil] at this
  exact this
theorem join_wf {s t : List NodeD} {r q : Int} (hs : wfP s r = 0) (ht : wfP t q = 0) (h : s.length + t.length ≤ 10000000) : wfP (s.map (upN 0) ++ t.map (upN s.length)) r = 0 := by
 have h0 := join_emb0 s t h
 have h1 := join_emb1 s t h
 obtain ⟨R, hR⟩ := Wf.of hs
 obtain ⟨R2, hR2⟩ := Wf.of ht
 have hr := (wf_out hs)
 refine wf_of hr.1 (by rw [List.length_append, lB]; omega) (fun x hx => ?_) (fun j hj => ?_)
 ·rcases List.mem_append.1 hx with hx | hx
  ·obtain ⟨y, hy, rfl⟩ := List.mem_map.1 hx
   exact nodeP_up h0 (hR.kind y hy)
  ·obtain ⟨y, hy, rfl⟩ := List.mem_map.1 hx
   exact nodeP_up h1 (hR2.kind y hy)
 ·rw [List.length_append, lB, lB] at hj
  rcases Nat.lt_or_ge j s.length with hj' | hj'
  ·have := fin_up h0 hR hj' (fin_all hs j hj')
   rwa [Nat.zero_add] at this
  ·have := fin_up h1 hR2 (j := j - s.length) (by omega) (fin_all ht _ (by omega))
   rwa [show s.length + (j - s.length) = j by omega] at this
theorem sm_up {s : List NodeD} (h : TSm s) (b : Int) : TSm (s.map (upN b)) := by
 refine ⟨by rw [lB]; exact h.len, fun x hx => ?_, fun x hx => ?_⟩
 all_goals
  obtain ⟨y, hy, rfl⟩ := List.mem_map.1 hx
  simp only [upN, lB]
 ·exact h.kids y hy
 ·exact h.fields y hy
theorem sm_append {s t : List NodeD} (hs : TSm s) (ht : TSm t) (h : s.length + t.length ≤ 1000000) : TSm (s ++ t) := by
 refine ⟨by rw [List.length_append]; exact h, fun x hx => ?_, fun x hx => ?_⟩
 ·rcases List.mem_append.1 hx with hx | hx
  ·exact hs.kids x hx
  ·exact ht.kids x hx
 ·rcases List.mem_append.1 hx with hx | hx
  ·exact hs.fields x hx
  ·exact ht.fields x hx
theorem drawn_e (l m : List Int) (hl : (srcL l).ok) (hm : (srcL m).ok) : PC Tryz.prog 10 [.one (.dat (.sl 1 (l.map encInt))), .one (.dat (.sl 1 (m.map encInt)))] (.tup [.st [.sl 8 ((drawnT l).map encNode), .int .i64 0], .st [.int .i64 (drawnV l m).kind, .int .i64 (drawnV l m).num, .str (drawnV l m).text, .sl 7 ((drawnV l m).kids.map encVal), .sl 2 ((drawnV l m).keys.map encKey), .sl 9 ((drawnV l m).ents.map encEnt), .sl 1 ((drawnV l m).labels.map Sx.encStr)]]) := by
  rw [← encVal_eq]; exact drawn_c l m hl hm
theorem memberOf_e (v : Val) (l : List NodeD) (r k : Int) (hsm : TSm l) : PC Tryz.prog 13 [.st [.int .i64 v.kind, .int .i64 v.num, .str v.text, .sl 7 (v.kids.map encVal), .sl 2 (v.keys.map encKey), .sl 9 (v.ents.map encEnt), .sl 1 (v.labels.map Sx.encStr)], .st [.sl 8 (l.map encNode), .int .i64 r], I .i64 k] (Bo (memOf v l r k)) := by
  rw [← encVal_eq]; exact memberOf_c v l r k hsm
theorem src_of {l : List Int} (hl : ∀ x ∈ l, -9223372036854775808 ≤ x ∧ x ≤ 9223372036854775807) (h : ¬ ((80 : Int) < (l.length : Int))) : (srcL l).ok := ⟨hl, by simp only [srcL]; omega⟩
theorem join_law (l m n : List Int) (hl : ∀ x ∈ l, -9223372036854775808 ≤ x ∧ x ≤ 9223372036854775807) (hm : ∀ x ∈ m, -9223372036854775808 ≤ x ∧ x ≤ 9223372036854775807) (hn : ∀ x ∈ n, -9223372036854775808 ≤ x ∧ x ≤ 9223372036854775807) (node : Int) :
  PC Tryz.prog 3 [.one (.dat (.sl 1 (l.map encInt))), .one (.dat (.sl 1 (m.map encInt))), .one (.dat (.sl 1 (n.map encInt))), I .i64 node] (Bo true) := by
 cases g1 : decide ((80 : Int) < (l.length : Int))
 case true =>
  refine PCB.ob Tryz.func3 Tryz.ntmps3 Tryz.results3 ?_
  repeat' (first | (simp only [go_sem, zA, zB, zC, zD, zE, zF, zG, reduceCtorEq, zH, zI, zJ, zK, zL, lB, g1]; all_goals refine nf ?_) | (refine stp ?_; intro K hK) | (apply hK; clear hK K) | refine stn ?_ | (with_reducible refine ⟨_, awake7_c, ?_⟩) | refine stq ?_ | (clear hK K))
  all_goals (first | exact fun _ h => absurd h List.not_mem_nil | (refine fin0 ?_; rfl))
 cases g2 : decide ((80 : Int) < (m.length : Int))
 case true =>
  refine PCB.ob Tryz.func3 Tryz.ntmps3 Tryz.results3 ?_
  repeat' (first | (simp only [go_sem, zA, zB, zC, zD, zE, zF, zG, reduceCtorEq, zH, zI, zJ, zK, zL, lB, g1, g2]; all_goals refine nf ?_) | (refine stp ?_; intro K hK) | (apply hK; clear hK K) | refine stn ?_ | (with_reducible refine ⟨_, awake7_c, ?_⟩) | refine stq ?_ | (clear hK K))
  all_goals (first | exact fun _ h => absurd h List.not_mem_nil | (refine fin0 ?_; rfl))
 cases g3 : decide ((80 : Int) < (n.length : Int))
 case true =>
  refine PCB.ob Tryz.func3 Tryz.ntmps3 Tryz.results3 ?_
  repeat' (first | (simp only [go_sem, zA, zB, zC, zD, zE, zF, zG, reduceCtorEq, zH, zI, zJ, zK, zL, lB, g1, g2, g3]; all_goals refine nf ?_) | (refine stp ?_; intro K hK) | (apply hK; clear hK K) | refine stn ?_ | (with_reducible refine ⟨_, awake7_c, ?_⟩) | refine stq ?_ | (clear hK K))
  all_goals (first | exact fun _ h => absurd h List.not_mem_nil | (refine fin0 ?_; rfl))
 have sl := src_of hl (of_decide_eq_false g1)
 have sm := src_of hm (of_decide_eq_false g2)
 have sn := src_of hn (of_decide_eq_false g3)
 have d1 := drawn_e l m sl sm
 have d2 := drawn_e n m sn sm
 obtain ⟨v, hv⟩ : ∃ v, v = drawnV l m := ⟨_, rfl⟩
 obtain ⟨w, hw⟩ : ∃ w, w = drawnV n m := ⟨_, rfl⟩
 rw [← hv] at d1
 rw [← hw] at d2
 have ws := drawn_wf l
 have wt := drawn_wf n
 have ls := drawn_le l
 have lt := drawn_le n
 have ss := drawn_sm l
 have st := drawn_sm n
 obtain ⟨S, hS⟩ : ∃ S, S = drawnT l := ⟨_, rfl⟩
 obtain ⟨T, hT⟩ : ∃ T, T = drawnT n := ⟨_, rfl⟩
 rw [← hS] at d1 ws ls ss
 rw [← hT] at d2 wt lt st
 have hJ := join_c (S, 0) (T, 0) ss st
 rw [join_eq ws wt, emR_wf ws, emL_wf ws, emR_wf wt] at hJ
 have h0 := join_emb0 S T (by omega)
 have h1 := join_emb1 S T (by omega)
 have wL := join_wf ws wt (by omega)
 have sL : TSm (S.map (upN 0) ++ T.map (upN S.length)) := sm_append (sm_up ss _) (sm_up st _) (by rw [lB, lB]; omega)
 have lL : (S.map (upN 0) ++ T.map (upN S.length)).length = S.length + T.length := by rw [List.length_append, lB, lB]
 obtain ⟨L, hL⟩ : ∃ L, L = S.map (upN 0) ++ T.map (upN S.length) := ⟨_, rfl⟩
 rw [← hL] at hJ h0 h1 wL sL lL
 obtain ⟨k, hk, hkl, hkn⟩ := mod_len node (T.length : Int) (by omega)
 have u0 : upI ((0 : Nat) : Int) 0 = 0 := by rw [h0.up (k := 0) (by omega)]; rfl
 have u1 : upI S.length 0 = (S.length : Int) := by rw [h1.up (k := 0) (by omega)]; omega
 have uk : upI S.length (k : Int) = ((S.length + k : Nat) : Int) := by rw [h1.up (k := k) (by omega)]; omega
 have hwk : IntKind.i64.wrap ((S.length : Int) + (k : Int)) = ((S.length + k : Nat) : Int) := by rw [w64 (by omega)]; omega
 have hwl : IntKind.i64.wrap ((S.length : Int) + (T.length : Int)) = ((S.length + T.length : Nat) : Int) := by rw [w64 (by omega)]; omega
 have hw0 : IntKind.i64.wrap ((S.length : Int) + 0) = (S.length : Int) := by rw [w64 (by omega)]; omega
 have hJ2 : PC Tryz.prog 11 [.st [.sl 8 (S.map encNode), .int .i64 0], .st [.sl 8 (T.map encNode), .int .i64 0]] (.tup [.st [.sl 8 (L.map encNode), .int .i64 0], .one (.dat (.int .i64 (S.length : Int)))]) := by
  have e1 : emR (S.map (upN (0 : Nat))).length T 0 = (S.length : Int) := by rw [emR_wf wt, lB, u1]
  have := join_c (S, 0) (T, 0) ss st
  rw [join_eq ws wt, ← hL] at this
  simp only [emR_wf ws, emL_wf ws] at this
  rw [e1, u0] at this
  exact this
 have c1 := wellFormed7_s L 0 sL
 rw [wL] at c1
 have c2 := memberOf_e v L 0 0 sL
 have c3 := member_e v S 0 ss
 have c4 := memberOf_e w L 0 ((S.length + k : Nat) : Int) sL
 have c5 := memberOf_e w T 0 (k : Int) st
 have m1 := memOf_up h0 ws wL v 0 (by omega)
 rw [u0] at m1
 have m2 := memOf_up h1 wt wL w (k : Int) (by omega)
 rw [uk] at m2
 rw [m1] at c2
 rw [m2] at c4
 generalize memOf v S 0 0 = A at c2 c3
 generalize memOf w T 0 (k : Int) = B at c4 c5
 have e0 : decide (((S.length + T.length : Nat) : Int) = ((S.length + T.length : Nat) : Int)) = true := by simp
 have e1 : decide ((S.length : Int) = (S.length : Int)) = true := by simp
 clear hJ m1 m2 hL hS hT hv hw h0 h1
 refine PCB.ob Tryz.func3 Tryz.ntmps3 Tryz.results3 ?_
 repeat' (first | (simp only [go_sem, zA, zB, zC, zD, zE, zF, zG, reduceCtorEq, zH, zI, zJ, zK, zL, lB, g1, g2, g3, lL, hk, hwk, hwl, hw0, e0, e1, beq_self_eq_true]; all_goals refine nf ?_) | (refine stp ?_; intro K hK) | (apply hK; clear hK K) | refine stn ?_ | (with_reducible first | refine ⟨hkn, ?_⟩ | refine ⟨_, d1, ?_⟩ | refine ⟨_, d2, ?_⟩ | refine ⟨_, hJ2, ?_⟩ | refine ⟨_, c1, ?_⟩ | refine ⟨_, c2, ?_⟩ | refine ⟨_, c3, ?_⟩ | refine ⟨_, c4, ?_⟩ | refine ⟨_, c5, ?_⟩ | refine ⟨_, awake7_c, ?_⟩) | (refine stp' ?_; intro K hK) | refine stq ?_ | fail)
 all_goals (first | exact fun _ h => absurd h List.not_mem_nil | (refine fin0 ?_; rfl))
end Go.Proofs.YthbcdhfiibpeaaaGreat

