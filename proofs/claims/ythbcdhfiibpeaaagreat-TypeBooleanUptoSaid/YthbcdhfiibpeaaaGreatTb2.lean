/- Lemmas of the proof. -/
import Derived.Test.YthbcdhfiibpeaaaGreatTb1
open Go.Proofs.Tryz renaming prog → zP
open List renaming length_map → lB
open Nat renaming reduceBEq → zA, reduceBNe → zB, reduceAdd → zC, reduceSub → zD, reduceMul → zE, reduceLeDiff → zF, reduceLT → zG, reduceEqDiff → zH
open Int renaming reduceToNat → zI, reduceLE → zJ, reduceLT → zK, reduceEq → zL
open Bool renaming not_eq_true' → zM, not_eq_false' → zN
set_option linter.unusedSimpArgs false
set_option linter.unusedVariables false
set_option maxRecDepth 20000
set_option maxHeartbeats 64000000
namespace Go.Proofs.YthbcdhfiibpeaaaGreat
open Go Go.Sx
theorem upI_eq {b : Nat} {k : Int} {n : Nat} (hk : 0 ≤ k ∧ k < (n : Int)) (hb : b + n ≤ 100000000) : upI b k = k + b := by
  unfold upI; rw [w64 (by omega)]
theorem zipAll_map (q : Val → Int → Bool) (f : Int → Int) : ∀ (vs : List Val) (ks : List Int), ((vs.zip (ks.map f)).all fun p => q p.1 p.2) = (vs.zip ks).all fun p => q p.1 (f p.2)
  | [], ks => by simp
  | v :: vs, [] => by simp
  | v :: vs, k :: ks => by simp only [List.map_cons, List.zip_cons_cons, List.all_cons, zipAll_map q f vs ks]
theorem memsB_up {g g' : Val → Int → Bool} {b : Int} {vs : List Val} {ks : List Int} (h : ∀ v, ∀ k ∈ ks, g' v (upI b k) = g v k) : memsB g' vs (ks.map (upI b)) = memsB g vs ks := by
  unfold memsB
  rw [lB, zipAll_map]
  congr 1
  refine all_congr fun p hp => ?_
  obtain ⟨a, c⟩ := p
  exact h a c (List.of_mem_zip hp).2
theorem findI_map {α β : Type} (f : α → β) (p : β → Bool) : ∀ (l : List α) (i : Nat), findI p i (l.map f) = findI (fun x => p (f x)) i l
  | [], i => rfl
  | x :: l, i => by rw [List.map_cons, findI, findI, findI_map f p l (i + 1)]
theorem keyTo_up (x : NodeD) (b : Int) (k : KeyD) (hk : x.kind = 13) : keyTo (upN b x) k = upI b (keyTo x k) := by
 have hf : findI (fun f : FieldD => sameK f.key k) 0 (upN b x).fields = findI (fun f : FieldD => sameK f.key k) 0 x.fields := findI_map (upF b) _ _ _
 cases h : decide (0 ≤ findI (fun f : FieldD => sameK f.key k) 0 x.fields) with
 | true =>
  obtain ⟨i, f, h1, h2, _⟩ := findI_at _ x.fields 0 (of_decide_eq_true h)
  rw [Nat.zero_add] at h1
  rw [keyTo_at h1 h2]
  have h3 : (upN b x).fields[i]? = some (upF b f) := by show (x.fields.map (upF b))[i]? = _; rw [List.getElem?_map, h2]; rfl
  rw [keyTo_at (by rw [hf, h1]) h3]; rfl
 | false =>
  rw [keyTo_no h, keyTo_no (by rw [hf]; exact h)]
  simp only [upN, hk, decide_true, cond_true]
  cases decide (k.kind = 0) <;> rfl
theorem lastI_map (f : Int → Int) {l : List Int} (h : l ≠ []) : lastI (l.map f) = f (lastI l) := by
  unfold lastI
  have h1 : l.length - 1 < l.length := by have := List.length_pos_iff.2 h; omega
  rw [lB, List.getD_eq_getElem?_getD, List.getD_eq_getElem?_getD, List.getElem?_map, List.getElem?_eq_getElem h1]; rfl
theorem edge_up (x : NodeD) (b : Int) : edgeL (upN b x) = (edgeL x).map (upI b) := by
  unfold edgeL upN
  simp only [List.map_append, List.map_map]
  cases decide (x.kind = 13) <;> rfl
theorem memN_up {g g' : Val → Int → Bool} {x : NodeD} {v : Val} {b : Int} (h : ∀ p, ∀ k ∈ edgeL x, g' p (upI b k) = g p k) (hk : boolK x.kind = true ∨ x.kind = 14 → x.kids ≠ []) : memN g' (upN b x) v = memN g x v := by
 have hkid : ∀ p, ∀ k ∈ x.kids, g' p (upI b k) = g p k := fun p k hk => h p k (kid_edge hk)
 have hms : memsB g' v.kids (upN b x).kids = memsB g v.kids x.kids := memsB_up hkid
 have e : (upN b x).kind = x.kind := rfl
 have e1 : (upN b x).lo = x.lo := rfl
 have e2 : (upN b x).hi = x.hi := rfl
 have e3 : (upN b x).text = x.text := rfl
 unfold memN
 rw [e, e1, e2, e3, hms]
 by_cases h13 : x.kind = 13
 ·rw [h13]
  simp only [Int.reduceEq, decide_false, cond_false, decide_true, cond_true]
  congr 1
  unfold mapMB
  congr 1
  ·show ((x.fields.map (upF b)).all _) = _
   rw [List.all_map]; rfl
  ·refine all_congr fun p hp => ?_
   rw [keyTo_up x b p.1 h13]
   exact h p.2 _ (keyTo_edge h13 p.1)
 by_cases h14 : x.kind = 14
 ·have hne := hk (.inr h14)
  rw [h14]
  simp only [Int.reduceEq, decide_false, cond_false, decide_true, cond_true]
  congr 1
  unfold funMB
  have ek : (upN b x).kids = x.kids.map (upI b) := rfl
  rw [ek, lB]
  congr 1
  refine all_congr fun e he => ?_
  unfold entMB
  rw [lB, ← List.map_take, lastI_map _ hne, memsB_up fun p k hk => hkid p k (List.mem_of_mem_take hk), hkid e.2.2 _ (last_mem hne)]
 have ek : (upN b x).kids = x.kids.map (upI b) := rfl
 by_cases h16 : x.kind = 16
 ·rw [h16]
  simp only [Int.reduceEq, decide_false, cond_false, decide_true, cond_true]
  rw [ek, List.any_map]
  exact any_congr fun k hk => hkid v k hk
 by_cases h17 : x.kind = 17
 ·rw [h17]
  simp only [Int.reduceEq, decide_false, cond_false, decide_true, cond_true]
  rw [ek, List.all_map]
  exact all_congr fun k hk => hkid v k hk
 by_cases h18 : x.kind = 18
 ·have hne := hk (.inl (by rw [h18]; rfl))
  rw [h18]
  simp only [Int.reduceEq, decide_false, cond_false, decide_true, cond_true]
  have : (x.kids.map (upI b)).getD 0 0 = upI b (x.kids.getD 0 0) := by
   cases hkk : x.kids with
   | nil => exact absurd hkk hne
   | cons a t => rfl
  rw [ek, this, hkid v _ (getD0_mem hne)]
 simp only [h13, h14, h16, h17, h18, decide_false, cond_false]
structure Emb (L s : List NodeD) (b : Nat) : Prop where
  at_ : ∀ j, j < s.length → L[b + j]? = (s[j]?).map (upN b)
  len : b + s.length ≤ L.length
  big : L.length ≤ 10000000
theorem Emb.mk_ {pre s post : List NodeD} (h : (pre ++ s.map (upN pre.length) ++ post).length ≤ 10000000) : Emb (pre ++ s.map (upN pre.length) ++ post) s pre.length where
 at_ := fun j hj => by
  rw [List.append_assoc, List.getElem?_append_right (by omega), Nat.add_sub_cancel_left, List.getElem?_append_left (by rw [lB]; exact hj), List.getElem?_map]
 len := by simp
 big := h
theorem Emb.up {L s : List NodeD} {b : Nat} (h : Emb L s b) {k : Int} (hk : 0 ≤ k ∧ k < (s.length : Int)) : upI b k = k + b := by
  have := h.len; have := h.big
  exact upI_eq (n := s.length) hk (by omega)
theorem Emb.node {L s : List NodeD} {b : Nat} (h : Emb L s b) {k : Int} (hk : 0 ≤ k ∧ k < (s.length : Int)) : nodeAt L (upI b k) = upN b (nodeAt s k) := by
  rw [h.up hk]
  unfold nodeAt
  have h1 : (k + (b : Int)).toNat = b + k.toNat := by omega
  have h2 := h.at_ k.toNat (by omega)
  rw [h1, List.getD_eq_getElem?_getD, h2, List.getD_eq_getElem?_getD, List.getElem?_eq_getElem (by omega)]; rfl
theorem memF_up {L s : List NodeD} {b R : Nat} (h : Emb L s b) (hs : Wf s R) : ∀ (f : Nat) (v : Val) (k : Int), 0 ≤ k ∧ k < (s.length : Int) → memF L f v (upI b k) = memF s f v k
 | 0, v, k, _ => rfl
 | f + 1, v, k, hk => by
  rw [memF, memF, h.node hk]
  have hm := inN hk
  exact memN_up (fun p k' hk' => memF_up h hs f p k' (hs.edge _ hm k' hk')) (hs.kids _ hm)
theorem memV_up {L s : List NodeD} {b R : Nat} (h : Emb L s b) (hs : Wf s R) (v : Val) (k : Int) (hk : 0 ≤ k ∧ k < (s.length : Int)) : memV L v (upI b k) = memV s v k := by
  have e2 : ∀ f, memF L f v (upI b k) = memF s f v k := fun f => memF_up h hs f v k hk
  have e3 : (∃ F, ∀ f, F ≤ f → memF L f v (upI b k) = true) ↔ (∃ F, ∀ f, F ≤ f → memF s f v k = true) := by simp only [e2]
  unfold memV
  exact decide_eq_decide.2 e3
theorem plain_up (x : NodeD) (b : Int) : plainN (upN b x) = plainN x := by
 unfold plainN plainG plainS
 have e : (upN b x).kind = x.kind := rfl
 rw [e]
 cases h13 : decide (x.kind = 13)
 ·simp only [upN, h13, cond_false, lB]
 ·have : x.kind = 13 := of_decide_eq_true h13
  simp only [upN, this, Int.reduceEq, decide_true, decide_false, Bool.or_false, cond_true, cond_false, lB, Bool.or_true, Bool.true_or]
theorem fldB_up (b : Int) : ∀ (l : List FieldD) (p : Option KeyD), fldB p (l.map (upF b)) = fldB p l
 | [], p => rfl
 | f :: l, p => by
  have ih := fldB_up b l
  cases p <;> simp only [List.map_cons, fldB, ih] <;> rfl
theorem validK_up (x : NodeD) (b : Int) : validK (upN b x) = validK x := by
  unfold validK
  simp only [upN, lB, fldB_up]
  rfl
theorem nodeP_up {L s : List NodeD} {b : Nat} (h : Emb L s b) {x : NodeD} (hx : nodeP s x = true) : nodeP L (upN b x) = true := by
  have := h.len
  simp only [nodeP, Bool.and_eq_true] at hx ⊢
  refine ⟨by rw [plain_up]; exact hx.1, by rw [validK_up]; exact hx.2.1, ?_⟩
  rw [edge_up, List.all_map, List.all_eq_true]
  intro e he
  have h2 := List.all_eq_true.1 hx.2.2 e he
  simp only [outE, Bool.not_eq_true', Bool.or_eq_false_iff, decide_eq_false_iff_not] at h2
  have h3 := h.up (k := e) (by omega)
  simp only [Function.comp_def, outE, Bool.not_eq_true', Bool.or_eq_false_iff, decide_eq_false_iff_not, h3]
  omega
theorem fin_up {L s : List NodeD} {b R : Nat} (h : Emb L s b) (hs : Wf s R) {j : Nat} (hj : j < s.length) (hf : Gr.Fin (bo s) (ks s) j) : Gr.Fin (bo L) (ks L) (b + j) := by
 unfold Gr.Fin at hf
 induction hf with
 | intro j _ ih =>
  have hx : s[j]? = some s[j] := List.getElem?_eq_getElem hj
  have hL : L[b + j]? = some (upN b s[j]) := by rw [h.at_ j hj, hx]; rfl
  refine Gr.fin_of _ _ fun hb k hk => ?_
  have hbs : bo s j = true := by unfold bo at hb ⊢; rw [hL] at hb; rw [hx]; exact hb
  unfold ks at hk
  rw [hL] at hk
  obtain ⟨y, hy, rfl⟩ := List.mem_map.1 hk
  obtain ⟨z, hz, rfl⟩ := List.mem_map.1 (show y ∈ s[j].kids.map (upI b) from hy)
  have hzr := hs.edge _ (List.getElem_mem hj) z (kid_edge hz)
  rw [h.up hzr, show (z + (b : Int)).toNat = b + z.toNat by omega]
  refine ih z.toNat ⟨hbs, ?_⟩ (by omega)
  unfold ks; rw [hx]
  exact List.mem_map_of_mem hz
theorem wf_of {l : List NodeD} {r : Int} (h0 : 0 ≤ r) (hr : r < (l.length : Int)) (hn : ∀ x ∈ l, nodeP l x = true) (hf : ∀ j, j < l.length → Gr.Fin (bo l) (ks l) j) : wfP l r = 0 := by
  have ho : outE l r = false := by simp only [outE, Bool.or_eq_false_iff, decide_eq_false_iff_not]; omega
  have ha : l.all (nodeP l) = true := List.all_eq_true.2 hn
  have hc : contrB l = true := (Gr.all_iff (bo l) (ks l) l.length (ks_in (inR_of ha))).2 hf
  unfold wfP
  rw [ho, ha, hc]; rfl
theorem fin_all {l : List NodeD} {r : Int} (h : wfP l r = 0) : ∀ j, j < l.length → Gr.Fin (bo l) (ks l) j := by
  obtain ⟨_, _, ha, hc⟩ := wf_out h
  exact (Gr.all_iff (bo l) (ks l) l.length (ks_in (inR_of ha))).1 hc
abbrev LV (v : Val) : T := .st [.int .i64 v.kind, .int .i64 v.num, .str v.text, .sl 7 (v.kids.map encVal), .sl 2 (v.keys.map encKey), .sl 9 (v.ents.map encEnt), .sl 1 (v.labels.map Sx.encStr)]
theorem drawn_e (l m : List Int) (hl : (srcL l).ok) (hm : (srcL m).ok) : PC zP 10 [.one (.dat (.sl 1 (l.map encInt))), .one (.dat (.sl 1 (m.map encInt)))] (.tup [.st [.sl 8 ((drawnT l).map encNode), .int .i64 0], .st [.int .i64 (drawnV l m).kind, .int .i64 (drawnV l m).num, .str (drawnV l m).text, .sl 7 ((drawnV l m).kids.map encVal), .sl 2 ((drawnV l m).keys.map encKey), .sl 9 ((drawnV l m).ents.map encEnt), .sl 1 ((drawnV l m).labels.map Sx.encStr)]]) := by
  rw [← encVal_eq]; exact drawn_c l m hl hm
theorem src_of {l : List Int} (hl : ∀ x ∈ l, -9223372036854775808 ≤ x ∧ x ≤ 9223372036854775807) (h : ¬ ((80 : Int) < (l.length : Int))) : (srcL l).ok := ⟨hl, by simp only [srcL]; omega⟩
noncomputable def memT (v : Val) (t : TyD) : Bool := memV (soundL t.1 t.2) v (soundR t.1 t.2)
abbrev ovB (k : Int) (ts : List TyD) (i : Nat) : Nat := (ovS k (ts.take i)).1.length
theorem ov_ext : ∀ (ts : List TyD) (s : List NodeD × List Int), ∃ (p : List NodeD) (q : List Int), ts.foldl ovStep s = (s.1 ++ p, s.2 ++ q)
 | [], s => ⟨[], [], by simp⟩
 | t :: ts, s => by
  obtain ⟨p, q, h⟩ := ov_ext ts (ovStep s t)
  exact ⟨emL s.1.length t.1 t.2 ++ p, emR s.1.length t.1 t.2 :: q, by rw [List.foldl_cons, h]; simp [ovStep]⟩
theorem ov_len2 (k : Int) (ts : List TyD) : (ovS k ts).2.length = ts.length := by
 unfold ovS
 have key : ∀ (ts : List TyD) (s : List NodeD × List Int), (ts.foldl ovStep s).2.length = s.2.length + ts.length := by
  intro ts
  induction ts with
  | nil => intro s; simp
  | cons t ts ih => intro s; rw [List.foldl_cons, ih]; simp [ovStep]; omega
 rw [key]; simp
theorem ov_split {k : Int} {ts : List TyD} {i : Nat} {t : TyD} (h : ts[i]? = some t) : ∃ p, (ovS k ts).1 = (ovS k (ts.take i)).1 ++ emL (ovB k ts i) t.1 t.2 ++ p ∧ (ovS k ts).2[i]? = some (emR (ovB k ts i) t.1 t.2) := by
 have hi : i < ts.length := (List.getElem?_eq_some_iff.1 h).1
 have e : ts = ts.take (i + 1) ++ ts.drop (i + 1) := (List.take_append_drop _ _).symm
 obtain ⟨p, q, hp⟩ := ov_ext (ts.drop (i + 1)) (ovS k (ts.take (i + 1)))
 have e2 : ovS k ts = ((ovS k (ts.take (i + 1))).1 ++ p, (ovS k (ts.take (i + 1))).2 ++ q) := by
  rw [← hp]
  conv => lhs; rw [e]
  unfold ovS
  rw [List.foldl_append]
 rw [ovS_take h] at e2
 refine ⟨p, by rw [e2]; rfl, ?_⟩
 rw [e2]
 have hl : (ovS k (ts.take i)).2.length = i := by rw [ov_len2, List.length_take]; omega
 show ((ovS k (ts.take i)).2 ++ [emR _ t.1 t.2] ++ q)[i]? = _
 rw [List.append_assoc, List.getElem?_append_right (by omega), hl, Nat.sub_self]; rfl
theorem ov_pos (k : Int) (ts : List TyD) : 0 < (ovS k ts).1.length := (List.getElem?_eq_some_iff.1 (ovS_head k ts)).1
theorem overV_len (k : Int) (ts : List TyD) : (overV k ts).length = (ovS k ts).1.length := by unfold overV; rw [List.length_set]
theorem ov_emb {k : Int} {ts : List TyD} {i : Nat} {t : TyD} (h : ts[i]? = some t) (hb : (overV k ts).length ≤ 10000000) : Emb (overV k ts) (soundL t.1 t.2) (ovB k ts i) := by
  obtain ⟨p, h1, _⟩ := ov_split (k := k) h
  rw [overV_len] at hb
  have hE := Emb.mk_ (pre := (ovS k (ts.take i)).1) (s := soundL t.1 t.2) (post := p) (by rw [← emL, ← h1]; exact hb)
  rw [← emL, ← h1] at hE
  have hp : 0 < ovB k ts i := ov_pos k (ts.take i)
  refine ⟨fun j hj => ?_, by rw [overV_len]; exact hE.len, by rw [overV_len]; exact hE.big⟩
  rw [← hE.at_ j hj]
  unfold overV
  rw [List.getElem?_set_ne (by omega)]
theorem ov_cover (k : Int) (ts : List TyD) : ∀ (i : Nat), i ≤ ts.length → ∀ j, j < ovB k ts i → j = 0 ∨ ∃ (a : Nat) (t : TyD) (c : Nat), ts[a]? = some t ∧ j = ovB k ts a + c ∧ c < (soundL t.1 t.2).length := by
 intro i
 induction i with
 | zero =>
  intro _ j hj
  left
  have : ovB k ts 0 = 1 := by simp [ovB, ovS]
  omega
 | succ i ih =>
  intro hi j hj
  have ht : ts[i]? = some ts[i] := List.getElem?_eq_getElem (by omega)
  rcases Nat.lt_or_ge j (ovB k ts i) with h | h
  ·exact ih (by omega) j h
  ·right
   refine ⟨i, ts[i], j - ovB k ts i, ht, by omega, ?_⟩
   unfold ovB at hj
   rw [ovS_take ht] at hj
   have : (ovStep (ovS k (ts.take i)) ts[i]).1.length = ovB k ts i + (soundL ts[i].1 ts[i].2).length := by simp [ovStep, emL]
   omega
theorem sound_wf (t : TyD) : wfP (soundL t.1 t.2) (soundR t.1 t.2) = 0 := soundT_ok _ _
theorem sound_in (t : TyD) : 0 ≤ soundR t.1 t.2 ∧ soundR t.1 t.2 < ((soundL t.1 t.2).length : Int) := by
  have := wf_out (sound_wf t)
  exact ⟨this.1, this.2.1⟩
def ovK (k : Int) (n : Nat) : Bool := validK (headN k (List.replicate n 0)) && (decide (k = 10) || (decide (k = 12) || (decide (k = 14) || (decide (k = 16) || (decide (k = 17) || decide (k = 18))))))
theorem head_valid {k : Int} {ks : List Int} (h : ovK k ks.length = true) : validK (headN k ks) = true ∧ plainN (headN k ks) = true := by
 unfold ovK at h
 rw [Bool.and_eq_true] at h
 have hl : (List.replicate ks.length (0 : Int)).length = ks.length := by simp
 have e : validK (headN k ks) = validK (headN k (List.replicate ks.length 0)) := by
  unfold validK headN
  simp only [hl]
 refine ⟨by rw [e]; exact h.1, ?_⟩
 have hk : k = 10 ∨ k = 12 ∨ k = 14 ∨ k = 16 ∨ k = 17 ∨ k = 18 := by
  have := h.2
  simp only [Bool.or_eq_true, decide_eq_true_eq] at this
  omega
 exact plain_kids k hk ks
theorem overV_nodes (k : Int) (ts : List TyD) (j : Nat) (hj : j < (overV k ts).length) : j = 0 ∨ ∃ (a : Nat) (t : TyD) (c : Nat), ts[a]? = some t ∧ j = ovB k ts a + c ∧ c < (soundL t.1 t.2).length := by
  rw [overV_len] at hj
  refine ov_cover k ts ts.length (Nat.le_refl _) j ?_
  unfold ovB
  rw [List.take_length]; exact hj
theorem overV_zero (k : Int) (ts : List TyD) : (overV k ts)[0]? = some (headN k (ovS k ts).2) := by
  unfold overV
  rw [List.getElem?_set_self (ov_pos k ts)]
theorem overV_wf {k : Int} {ts : List TyD} (hk : ovK k ts.length = true) (hb : (overV k ts).length ≤ 10000000) : wfP (overV k ts) 0 = 0 := by
 have h0 := overV_zero k ts
 have hpos : 0 < (overV k ts).length := (List.getElem?_eq_some_iff.1 h0).1
 have hkid : ∀ e ∈ (ovS k ts).2, ∃ (a : Nat) (t : TyD), ts[a]? = some t ∧ e = upI (ovB k ts a) (soundR t.1 t.2) := by
  intro e he
  obtain ⟨a, ha⟩ := List.getElem?_of_mem he
  have hal : a < ts.length := by rw [← ov_len2 k ts]; exact (List.getElem?_eq_some_iff.1 ha).1
  have ht : ts[a]? = some ts[a] := List.getElem?_eq_getElem hal
  obtain ⟨_, _, h2⟩ := ov_split (k := k) ht
  rw [ha] at h2
  exact ⟨a, ts[a], ht, by have := Option.some.inj h2; rw [this]; rfl⟩
 have hfin : ∀ j, 0 < j → j < (overV k ts).length → Gr.Fin (bo (overV k ts)) (ks (overV k ts)) j := by
  intro j h1 h2
  rcases overV_nodes k ts j h2 with h | ⟨a, t, c, ht, rfl, hc⟩
  ·omega
  ·obtain ⟨R, hR⟩ := Wf.of (sound_wf t)
   exact fin_up (ov_emb ht hb) hR hc (fin_all (sound_wf t) c hc)
 refine wf_of (by omega) (by omega) (fun x hx => ?_) (fun j hj => ?_)
 ·obtain ⟨j, hj⟩ := List.getElem?_of_mem hx
  have hjl := (List.getElem?_eq_some_iff.1 hj).1
  rcases overV_nodes k ts j hjl with rfl | ⟨a, t, c, ht, rfl, hc⟩
  ·rw [h0] at hj
   have e := Option.some.inj hj
   subst e
   have hv := head_valid (k := k) (ks := (ovS k ts).2) (by rw [ov_len2]; exact hk)
   simp only [nodeP, Bool.and_eq_true]
   refine ⟨hv.2, hv.1, ?_⟩
   have hk13 : decide (k = 13) = false := by
    unfold ovK at hk
    simp only [Bool.and_eq_true, Bool.or_eq_true, decide_eq_true_eq] at hk
    rw [decide_eq_false_iff_not]; omega
   have he : edgeL (headN k (ovS k ts).2) = (ovS k ts).2 := by unfold edgeL headN; simp [hk13]
   rw [he, List.all_eq_true]
   intro e he
   obtain ⟨a, t, ht, rfl⟩ := hkid e he
   have hE := ov_emb (k := k) ht hb
   have hs := sound_in t
   rw [hE.up hs]
   have := hE.len
   simp only [outE, Bool.not_eq_true', Bool.or_eq_false_iff, decide_eq_false_iff_not]; omega
  ·have hE := ov_emb (k := k) ht hb
   obtain ⟨R, hR⟩ := Wf.of (sound_wf t)
   rw [hE.at_ c hc, List.getElem?_eq_getElem hc] at hj
   have e := Option.some.inj hj
   rw [← e]
   exact nodeP_up hE (hR.kind _ (List.getElem_mem hc))
 ·rcases Nat.eq_zero_or_pos j with rfl | hj0
  ·refine Gr.fin_of _ _ fun hb' y hy => ?_
   unfold ks at hy
   rw [h0] at hy
   obtain ⟨e, he, rfl⟩ := List.mem_map.1 hy
   obtain ⟨a, t, ht, rfl⟩ := hkid e he
   have hE := ov_emb (k := k) ht hb
   have hs := sound_in t
   have hl := hE.len
   have hp : 0 < ovB k ts a := ov_pos k (ts.take a)
   rw [hE.up hs]
   exact hfin _ (by omega) (by omega)
  ·exact hfin j hj0 hj
theorem overV_kid {k : Int} {ts : List TyD} (hb : (overV k ts).length ≤ 10000000) (v : Val) : (ovS k ts).2.map (memV (overV k ts) v) = ts.map (memT v) := by
 apply List.ext_getElem?
 intro i
 rw [List.getElem?_map, List.getElem?_map]
 cases h : ts[i]? with
 | none =>
  have : ts.length ≤ i := List.getElem?_eq_none_iff.1 h
  rw [List.getElem?_eq_none (by rw [ov_len2]; exact this)]; rfl
 | some t =>
  obtain ⟨_, _, h2⟩ := ov_split (k := k) h
  rw [h2]
  obtain ⟨R, hR⟩ := Wf.of (sound_wf t)
  show some (memV _ v (upI _ (soundR t.1 t.2))) = some (memT v t)
  rw [memV_up (ov_emb (k := k) h hb) hR v _ (sound_in t)]; rfl
theorem overV_head {k : Int} {ts : List TyD} (hk : ovK k ts.length = true) (hb : (overV k ts).length ≤ 10000000) (v : Val) : memV (overV k ts) v 0 = memN (memV (overV k ts)) (headN k (ovS k ts).2) v := by
 obtain ⟨R, hR⟩ := Wf.of (overV_wf hk hb)
 have hpos : 0 < (overV k ts).length := (List.getElem?_eq_some_iff.1 (overV_zero k ts)).1
 rw [memV_eq hR (by omega)]
 have : nodeAt (overV k ts) 0 = headN k (ovS k ts).2 := by
  unfold nodeAt
  rw [Int.toNat_zero, List.getD_eq_getElem?_getD, overV_zero]; rfl
 rw [this]
theorem any_mem {k : Int} {ts : List TyD} (hb : (overV k ts).length ≤ 10000000) (v : Val) : (ovS k ts).2.any (memV (overV k ts) v) = ts.any (memT v) := by
  have := overV_kid (k := k) hb v
  have e : ∀ {α : Type} (f : α → Bool) (l : List α), l.any f = (l.map f).any id := fun f l => by rw [List.any_map]; rfl
  rw [e, this, ← e]
theorem all_mem {k : Int} {ts : List TyD} (hb : (overV k ts).length ≤ 10000000) (v : Val) : (ovS k ts).2.all (memV (overV k ts) v) = ts.all (memT v) := by
  have := overV_kid (k := k) hb v
  have e : ∀ {α : Type} (f : α → Bool) (l : List α), l.all f = (l.map f).all id := fun f l => by rw [List.all_map]; rfl
  rw [e, this, ← e]
theorem memT_wf {l : List NodeD} {r : Int} (h : wfP l r = 0) (v : Val) : memT v (l, r) = memV l v r := by
  unfold memT soundL soundR; simp only [h]; rfl
theorem memT_bad {l : List NodeD} {r : Int} (h : decide (wfP l r = 0) = false) (v : Val) : memT v (l, r) = false := by
  unfold memT soundL soundR
  rw [h, cond_false, cond_false]
  obtain ⟨R, hR⟩ := Wf.of wf_none
  rw [memV_eq hR (by decide)]; rfl
theorem memOf_wf {l : List NodeD} {r : Int} (h : wfP l r = 0) (v : Val) : memOf v l r r = (treeB v && memT v (l, r)) := by
  have hw := wf_out h
  unfold memOf
  rw [memT_wf h, h]
  have : inB l r = true := by simp only [inB, Bool.and_eq_true, decide_eq_true_eq]; omega
  rw [this]; rfl
theorem ov_size {k : Int} {ts : List TyD} {B : Nat} (h : TyS B ts) : (overV k ts).length ≤ 1 + ts.length * B := by rw [overV_len]; exact (ovS_len k ts h.one).1
theorem ov_big {k : Int} {ts : List TyD} {B : Nat} (h : TyS B ts) : (overV k ts).length ≤ 10000000 := by have := ov_size (k := k) h; have := h.all; omega
theorem sound_sm {t : TyD} (h : TSm t.1) : TSm (soundL t.1 t.2) := soundT_sm h _
theorem ov_sm {k : Int} {ts : List TyD} {B : Nat} (h : TyS B ts) : TSm (overV k ts) := by
 have hs := ov_size (k := k) h
 have ha := h.all
 have hb := ov_big (k := k) h
 have hlen : ts.length ≤ 900000 ∨ ts = [] := by
  rcases Nat.eq_zero_or_pos B with hB | hB
  ·right
   cases ts with
   | nil => rfl
   | cons t ts => have := (h.one t List.mem_cons_self).2; omega
  ·left; exact Nat.le_trans (Nat.le_mul_of_pos_right _ hB) ha
 have key : ∀ x ∈ overV k ts, x.kids.length ≤ 1000000 ∧ x.fields.length ≤ 1000000 := by
  intro x hx
  obtain ⟨j, hj⟩ := List.getElem?_of_mem hx
  have hjl := (List.getElem?_eq_some_iff.1 hj).1
  rcases overV_nodes k ts j hjl with rfl | ⟨a, t, c, ht, rfl, hc⟩
  ·rw [overV_zero] at hj
   have e := Option.some.inj hj
   subst e
   refine ⟨?_, Nat.zero_le _⟩
   show (ovS k ts).2.length ≤ _
   rw [ov_len2]
   rcases hlen with h' | h'
   ·omega
   ·rw [h']; simp
  ·have hE := ov_emb (k := k) ht hb
   rw [hE.at_ c hc, List.getElem?_eq_getElem hc] at hj
   have e := Option.some.inj hj
   have hts := sound_sm (h.one t (List.mem_of_getElem? ht)).1
   rw [← e]
   simp only [upN, lB]
   exact ⟨hts.kids _ (List.getElem_mem hc), hts.fields _ (List.getElem_mem hc)⟩
 exact ⟨by omega, fun x hx => (key x hx).1, fun x hx => (key x hx).2⟩
theorem memT_none (v : Val) : memT v noneTy = false := by
  unfold noneTy
  rw [memT_wf (show wfP [kindN 1] 0 = 0 from wf_none)]
  obtain ⟨R, hR⟩ := Wf.of (show wfP [kindN 1] 0 = 0 from wf_none)
  rw [memV_eq hR (by decide)]; rfl
theorem any_wf : wfP anyTy.1 0 = 0 := by decide
theorem memT_any (v : Val) : memT v anyTy = true := by
  unfold anyTy
  rw [memT_wf (show wfP [kindN 2] 0 = 0 from any_wf)]
  obtain ⟨R, hR⟩ := Wf.of (show wfP [kindN 2] 0 = 0 from any_wf)
  rw [memV_eq hR (by decide)]; rfl
theorem ovK_bool {k : Int} {n : Nat} (hk : k = 16 ∨ k = 17) (hn : 1 ≤ n) : ovK k n = true := by
  have hl : (List.replicate n (0 : Int)).length = n := by simp
  have : decide (1 ≤ (n : Int)) = true := by rw [decide_eq_true_eq]; omega
  rcases hk with rfl | rfl <;> simp [ovK, validK, headN, hn]
  all_goals omega
theorem union_wf {ts : List TyD} {B : Nat} (h : TyS B ts) : wfP (unionT ts).1 (unionT ts).2 = 0 := by
  unfold unionT
  cases hc : decide ((ts.length : Int) = 0) with
  | true => exact wf_none
  | false => rw [decide_eq_false_iff_not] at hc; exact overV_wf (ovK_bool (.inl rfl) (by omega)) (ov_big h)
theorem inter_wf {ts : List TyD} {B : Nat} (h : TyS B ts) : wfP (interT ts).1 (interT ts).2 = 0 := by
  unfold interT
  cases hc : decide ((ts.length : Int) = 0) with
  | true => exact any_wf
  | false => rw [decide_eq_false_iff_not] at hc; exact overV_wf (ovK_bool (.inr rfl) (by omega)) (ov_big h)
theorem memT_union {ts : List TyD} {B : Nat} (h : TyS B ts) (v : Val) : memT v (unionT ts) = ts.any (memT v) := by
 unfold unionT
 cases hc : decide ((ts.length : Int) = 0) with
 | true =>
  have : ts = [] := List.length_eq_zero_iff.1 (by have := of_decide_eq_true hc; omega)
  rw [cond_true, memT_none, this]; rfl
 | false =>
  rw [decide_eq_false_iff_not] at hc
  have hk := ovK_bool (k := 16) (n := ts.length) (.inl rfl) (by omega)
  rw [cond_false, overTy, memT_wf (overV_wf hk (ov_big h)), overV_head hk (ov_big h), ← any_mem (k := 16) (ov_big h)]; rfl
theorem memT_inter {ts : List TyD} {B : Nat} (h : TyS B ts) (v : Val) : memT v (interT ts) = ts.all (memT v) := by
 unfold interT
 cases hc : decide ((ts.length : Int) = 0) with
 | true =>
  have : ts = [] := List.length_eq_zero_iff.1 (by have := of_decide_eq_true hc; omega)
  rw [cond_true, memT_any, this]; rfl
 | false =>
  rw [decide_eq_false_iff_not] at hc
  have hk := ovK_bool (k := 17) (n := ts.length) (.inr rfl) (by omega)
  rw [cond_false, overTy, memT_wf (overV_wf hk (ov_big h)), overV_head hk (ov_big h), ← all_mem (k := 17) (ov_big h)]; rfl
theorem not_wf {t : TyD} {B : Nat} (h : TyS B [t]) : wfP (notT t).1 0 = 0 := overV_wf (by show ovK 18 1 = true; decide) (ov_big h)
theorem memT_not {t : TyD} {B : Nat} (h : TyS B [t]) (v : Val) : memT v (notT t) = !memT v t := by
 have hk : ovK 18 [t].length = true := by show ovK 18 1 = true; decide
 unfold notT
 rw [overTy, memT_wf (overV_wf hk (ov_big h)), overV_head hk (ov_big h)]
 have hm := overV_kid (k := 18) (ov_big h) v
 cases hks : (ovS 18 [t]).2 with
 | nil => rw [hks] at hm; cases hm
 | cons e es =>
  rw [hks] at hm
  simp only [List.map_cons, List.map_nil, List.cons.injEq] at hm
  rw [← hm.1]; rfl
theorem tyS_one {t : TyD} {B : Nat} (h : TSm t.1) (hl : t.1.length < B) (hB : B ≤ 900000) : TyS B [t] := ⟨fun u hu => by simp only [List.mem_singleton] at hu; subst hu; exact ⟨h, hl⟩, by simpa using hB⟩
theorem tyS_two {s t : TyD} {B : Nat} (hs : TSm s.1) (ht : TSm t.1) (hls : s.1.length < B) (hlt : t.1.length < B) (hB : B ≤ 450000) : TyS B [s, t] := ⟨fun u hu => by
  simp only [List.mem_cons, List.not_mem_nil, or_false] at hu
  rcases hu with rfl | rfl
  · exact ⟨hs, hls⟩
  · exact ⟨ht, hlt⟩, by simp only [List.length_cons, List.length_nil]; omega⟩
theorem diff_wf {s t : TyD} {B : Nat} (h : TyS B [s, notT t]) : wfP (diffT s t).1 (diffT s t).2 = 0 := inter_wf h
theorem memT_diff {s t : TyD} {B B2 : Nat} (h1 : TyS B [t]) (h : TyS B2 [s, notT t]) (v : Val) : memT v (diffT s t) = (memT v s && !memT v t) := by
  unfold diffT
  rw [memT_inter h, List.all_cons, List.all_cons, List.all_nil, memT_not h1, Bool.and_true]
abbrev LT (t : TyD) : T := .st [.sl 8 (t.1.map encNode), .int .i64 t.2]
theorem mem_c (x : Val) (t : TyD) (hx : treeB x = true) (hs : TSm t.1) (hw : wfP t.1 t.2 = 0) {b : Bool} (hb : memT x t = b) : PC zP 14 [.st [.int .i64 x.kind, .int .i64 x.num, .str x.text, .sl 7 (x.kids.map encVal), .sl 2 (x.keys.map encKey), .sl 9 (x.ents.map encEnt), .sl 1 (x.labels.map Sx.encStr)], .st [.sl 8 (t.1.map encNode), .int .i64 t.2]] (Bo b) := by
  have := member_e x t.1 t.2 hs
  rw [memOf_wf hw, hx, Bool.true_and, hb] at this
  exact this
structure BoolW (l m n : List Int) (raw : List NodeD) (q : Int) (S T : List NodeD) (v w : Val) (X1 X2 X3 X4 X5 X6 X7 X8 : TyD) (wq : Int) (Av Bv Aw Bw : Bool) : Prop where
  g1 : decide ((80 : Int) < (l.length : Int)) = false
  g2 : decide ((80 : Int) < (m.length : Int)) = false
  g3 : decide ((80 : Int) < (n.length : Int)) = false
  hS : PC zP 17 [Tt raw q] (Bo true)
  d1 : PC zP 10 [.one (.dat (.sl 1 (l.map encInt))), .one (.dat (.sl 1 (m.map encInt)))] (.tup [.st [.sl 8 (S.map encNode), .int .i64 0], LV v])
  d2 : PC zP 10 [.one (.dat (.sl 1 (n.map encInt))), .one (.dat (.sl 1 (m.map encInt)))] (.tup [.st [.sl 8 (T.map encNode), .int .i64 0], LV w])
  cw : PC zP 12 [Tt raw q] (I .i64 wq)
  cz : PC zP 12 [Tt X8.1 X8.2] (I .i64 0)
  c1 : PC zP 18 [.one (.dat (.sl 2 [[.sl 8 (S.map encNode), .int .i64 0], [.sl 8 (T.map encNode), .int .i64 0]]))] (LT X1)
  c2 : PC zP 19 [.one (.dat (.sl 2 [[.sl 8 (S.map encNode), .int .i64 0], [.sl 8 (T.map encNode), .int .i64 0]]))] (LT X2)
  c3 : PC zP 20 [.st [.sl 8 (S.map encNode), .int .i64 0]] (LT X3)
  c4 : PC zP 21 [.st [.sl 8 (S.map encNode), .int .i64 0], .st [.sl 8 (T.map encNode), .int .i64 0]] (LT X4)
  c5 : PC zP 18 [.one (.dat (.sl 2 []))] (LT X5)
  c6 : PC zP 19 [.one (.dat (.sl 2 []))] (LT X6)
  c7 : PC zP 18 [.one (.dat (.sl 2 [[.sl 8 (S.map encNode), .int .i64 0], [.sl 8 (raw.map encNode), .int .i64 q]]))] (LT X7)
  c8 : PC zP 18 [.one (.dat (.sl 2 [[.sl 8 (S.map encNode), .int .i64 0], [.sl 8 (T.map encNode), .int .i64 0], [.sl 8 (raw.map encNode), .int .i64 q]]))] (LT X8)
  v1 : PC zP 14 [LV v, LT (S, 0)] (Bo Av)
  v2 : PC zP 14 [LV v, LT (T, 0)] (Bo Bv)
  v3 : PC zP 14 [LV v, LT X1] (Bo (Av || Bv))
  v4 : PC zP 14 [LV v, LT X2] (Bo (Av && Bv))
  v5 : PC zP 14 [LV v, LT X3] (Bo (!Av))
  v6 : PC zP 14 [LV v, LT X4] (Bo (Av && !Bv))
  v7 : PC zP 14 [LV v, LT X5] (Bo false)
  v8 : PC zP 14 [LV v, LT X6] (Bo true)
  v9b : decide (wq = 0) = false → PC zP 14 [LV v, LT X7] (Bo Av)
  w1 : PC zP 14 [LV w, LT (S, 0)] (Bo Aw)
  w2 : PC zP 14 [LV w, LT (T, 0)] (Bo Bw)
  w3 : PC zP 14 [LV w, LT X1] (Bo (Aw || Bw))
  w4 : PC zP 14 [LV w, LT X2] (Bo (Aw && Bw))
  w5 : PC zP 14 [LV w, LT X3] (Bo (!Aw))
  w6 : PC zP 14 [LV w, LT X4] (Bo (Aw && !Bw))
  w7 : PC zP 14 [LV w, LT X5] (Bo false)
  w8 : PC zP 14 [LV w, LT X6] (Bo true)
  w9b : decide (wq = 0) = false → PC zP 14 [LV w, LT X7] (Bo Aw)
end Go.Proofs.YthbcdhfiibpeaaaGreat

