/- Lemmas of the proof. -/
import Derived.Test.YthbcdhfiibpeaaaGreatTy30
import Derived.Test.YthbcdhfiibpeaaaGreatTy37
open List renaming length_map → lB
open Nat renaming reduceBEq → zA, reduceBNe → zB, reduceAdd → zC, reduceSub → zD, reduceMul → zE, reduceLeDiff → zF, reduceLT → zG, reduceEqDiff → zH
open Int renaming reduceToNat → zI, reduceLE → zJ, reduceLT → zK, reduceEq → zL
open Bool renaming not_eq_true' → zM, not_eq_false' → zN
set_option linter.unusedSimpArgs false
set_option linter.unusedVariables false
set_option maxRecDepth 20000
set_option maxHeartbeats 64000000
namespace Go.Proofs.YthbcdhfiibpeaaaGreat
open Go Go.Sx
def memsB (g : Val → Int → Bool) (vs : List Val) (ks : List Int) : Bool := decide ((vs.length : Int) = (ks.length : Int)) && (vs.zip ks).all fun p => g p.1 p.2
def keyTo (x : NodeD) (k : KeyD) : Int :=
  bif decide (0 ≤ findI (fun f : FieldD => sameK f.key k) 0 x.fields) then (x.fields.getD (findI (fun f : FieldD => sameK f.key k) 0 x.fields).toNat ⟨⟨0, []⟩, 0, false⟩).node
  else bif decide (k.kind = 0) then x.r0 else x.r1
def mapMB (g : Val → Int → Bool) (x : NodeD) (v : Val) : Bool :=
  (x.fields.all fun f => f.opt || v.keys.any fun k => sameK k f.key) && (v.keys.zip v.kids).all fun p => g p.2 (keyTo x p.1)
def entMB (g : Val → Int → Bool) (ks : List Int) (e : List Val × Bool × Val) : Bool := !memsB g e.1 (ks.take (ks.length - 1)) || (!e.2.1 && g e.2.2 (lastI ks))
def funMB (g : Val → Int → Bool) (x : NodeD) (v : Val) : Bool := decide (v.num = (x.kids.length : Int) - 1) && v.ents.all (entMB g x.kids)
def memN (g : Val → Int → Bool) (x : NodeD) (v : Val) : Bool :=
  bif decide (x.kind = 2) then true else
  bif decide (x.kind = 3) then decide (v.kind = 1) && (decide (x.lo ≤ v.num) && decide (v.num ≤ x.hi)) else
  bif decide (x.kind = 4) then decide (v.kind = 2) && decide (v.text = x.text) else
  bif decide (x.kind = 5) then decide (v.kind = 2) else
  bif decide (x.kind = 6) then decide (v.kind = 3) && decide (v.text = x.text) else
  bif decide (x.kind = 7) then decide (v.kind = 3) else
  bif decide (x.kind = 8) then decide (v.kind = 4) else
  bif decide (x.kind = 9) then decide (v.kind = 5) else
  bif decide (x.kind = 11) then decide (v.kind = 6) else
  bif decide (x.kind = 15) then decide (v.kind = 9) else
  bif decide (x.kind = 10) then decide (v.kind = 6) && memsB g v.kids x.kids else
  bif decide (x.kind = 12) then decide (v.kind = 7) && memsB g v.kids x.kids else
  bif decide (x.kind = 13) then decide (v.kind = 8) && mapMB g x v else
  bif decide (x.kind = 14) then decide (v.kind = 9) && funMB g x v else
  bif decide (x.kind = 16) then x.kids.any (g v) else
  bif decide (x.kind = 17) then x.kids.all (g v) else
  bif decide (x.kind = 18) then !g v (x.kids.getD 0 0) else
  bif decide (x.kind = 19) then v.labels.any fun s => decide (s = x.text) else false
def nodeAt (l : List NodeD) (k : Int) : NodeD := l.getD k.toNat (nodeK 1)
def memF (l : List NodeD) : Nat → Val → Int → Bool
  | 0, _, _ => false
  | f + 1, v, k => memN (memF l f) (nodeAt l k) v
theorem all_congr {α : Type} {p q : α → Bool} : ∀ {l : List α}, (∀ x ∈ l, p x = q x) → l.all p = l.all q
  | [], _ => rfl
  | a :: l, h => by rw [List.all_cons, List.all_cons, h a (List.mem_cons_self ..), all_congr fun x hx => h x (List.mem_cons_of_mem _ hx)]
theorem any_congr {α : Type} {p q : α → Bool} : ∀ {l : List α}, (∀ x ∈ l, p x = q x) → l.any p = l.any q
  | [], _ => rfl
  | a :: l, h => by rw [List.any_cons, List.any_cons, h a (List.mem_cons_self ..), any_congr fun x hx => h x (List.mem_cons_of_mem _ hx)]
theorem memsB_congr {g g' : Val → Int → Bool} {vs : List Val} {ks : List Int} (h : ∀ v ∈ vs, ∀ k ∈ ks, g v k = g' v k) : memsB g vs ks = memsB g' vs ks := by
  unfold memsB
  congr 1
  refine all_congr fun p hp => ?_
  obtain ⟨a, b⟩ := p
  have := List.of_mem_zip hp
  exact h a this.1 b this.2
theorem findI_at {α : Type} (p : α → Bool) : ∀ (l : List α) (k : Nat), 0 ≤ findI p k l → ∃ (i : Nat) (y : α), findI p k l = ((k + i : Nat) : Int) ∧ l[i]? = some y ∧ p y = true
 | [], k, h => by simp [findI] at h
 | x :: l, k, h => by
  rw [findI] at h ⊢
  cases hp : p x <;> rw [hp] at h <;> simp only [cond_true, cond_false] at h ⊢
  ·obtain ⟨i, y, h1, h2, h3⟩ := findI_at p l (k + 1) h
   exact ⟨i + 1, y, by rw [h1]; congr 1; omega, by simpa using h2, h3⟩
  ·exact ⟨0, x, rfl, rfl, hp⟩
theorem keyTo_at {x : NodeD} {k : KeyD} {i : Nat} {f : FieldD} (h : findI (fun f : FieldD => sameK f.key k) 0 x.fields = (i : Int)) (hf : x.fields[i]? = some f) : keyTo x k = f.node := by
  unfold keyTo
  rw [h, decide_eq_true (by omega : (0 : Int) ≤ (i : Int)), cond_true, Int.toNat_natCast, List.getD_eq_getElem?_getD, hf]; rfl
theorem keyTo_no {x : NodeD} {k : KeyD} (h : decide (0 ≤ findI (fun f : FieldD => sameK f.key k) 0 x.fields) = false) : keyTo x k = bif decide (k.kind = 0) then x.r0 else x.r1 := by
  unfold keyTo; rw [h]; rfl
theorem keyTo_edge {x : NodeD} (hk : x.kind = 13) (k : KeyD) : keyTo x k ∈ edgeL x := by
 cases h : decide (0 ≤ findI (fun f : FieldD => sameK f.key k) 0 x.fields) with
 | true =>
  obtain ⟨i, f, h1, h2, _⟩ := findI_at _ x.fields 0 (of_decide_eq_true h)
  rw [Nat.zero_add] at h1
  rw [keyTo_at h1 h2]
  unfold edgeL
  exact List.mem_append_left _ (List.mem_append_right _ (List.mem_map_of_mem (List.mem_of_getElem? h2)))
 | false =>
  rw [keyTo_no h]
  unfold edgeL
  rw [hk]
  cases decide (k.kind = 0) <;> simp
theorem kid_edge {x : NodeD} {k : Int} (h : k ∈ x.kids) : k ∈ edgeL x := List.mem_append_left _ (List.mem_append_left _ h)
theorem last_mem {l : List Int} (h : l ≠ []) : lastI l ∈ l := by
  unfold lastI
  have h1 : l.length - 1 < l.length := by have := List.length_pos_iff.2 h; omega
  rw [List.getD_eq_getElem?_getD, List.getElem?_eq_getElem h1]
  exact List.getElem_mem h1
theorem getD0_mem {l : List Int} (h : l ≠ []) : l.getD 0 0 ∈ l := by
  cases l with
  | nil => exact absurd rfl h
  | cons a l => simp
theorem memN_congr {g g' : Val → Int → Bool} {x : NodeD} {v : Val} (hk : boolK x.kind = true ∨ x.kind = 14 → x.kids ≠ [])
  (hp : ∀ p k, bulkV p < bulkV v → k ∈ edgeL x → g p k = g' p k) (hb : boolK x.kind = true → ∀ k ∈ x.kids, g v k = g' v k) : memN g x v = memN g' x v := by
 have hm : memsB g v.kids x.kids = memsB g' v.kids x.kids := memsB_congr fun p hp' k hk' => hp p k (bulk_kid hp') (kid_edge hk')
 unfold memN
 by_cases h13 : x.kind = 13
 ·rw [h13]
  simp only [Int.reduceEq, decide_false, cond_false, decide_true, cond_true]
  congr 1
  unfold mapMB
  congr 1
  refine all_congr fun p hp' => ?_
  obtain ⟨a, b⟩ := p
  exact hp b _ (bulk_kid (List.of_mem_zip hp').2) (keyTo_edge h13 a)
 by_cases h14 : x.kind = 14
 ·have hne := hk (.inr h14)
  rw [h14]
  simp only [Int.reduceEq, decide_false, cond_false, decide_true, cond_true]
  congr 1
  unfold funMB
  congr 1
  refine all_congr fun e he => ?_
  unfold entMB
  rw [memsB_congr (g := g) (g' := g') fun p hp' k hk' => hp p k (bulk_arg he hp') (kid_edge (List.mem_of_mem_take hk')), hp e.2.2 _ (bulk_res he) (kid_edge (last_mem hne))]
 by_cases h16 : x.kind = 16
 ·have := hb (by rw [h16]; rfl)
  rw [h16]
  simp only [Int.reduceEq, decide_false, cond_false, decide_true, cond_true]
  exact any_congr this
 by_cases h17 : x.kind = 17
 ·have := hb (by rw [h17]; rfl)
  rw [h17]
  simp only [Int.reduceEq, decide_false, cond_false, decide_true, cond_true]
  exact all_congr this
 by_cases h18 : x.kind = 18
 ·have h1 := hb (by rw [h18]; rfl)
  have h2 := hk (.inl (by rw [h18]; rfl))
  rw [h18]
  simp only [Int.reduceEq, decide_false, cond_false, decide_true, cond_true]
  rw [h1 _ (getD0_mem h2)]
 simp only [h13, h14, h16, h17, h18, decide_false, cond_false, hm]
def Hb (l : List NodeD) : Nat → Nat → Prop
  | 0, j => bo l j = true → ks l j = []
  | m + 1, j => bo l j = true → ∀ k ∈ ks l j, Hb l m k
theorem Hb.up {l : List NodeD} : ∀ {m j : Nat}, Hb l m j → Hb l (m + 1) j
  | 0, j, h => fun hb k hk => by rw [h hb] at hk; cases hk
  | m + 1, j, h => fun hb k hk => Hb.up (h hb k hk)
theorem Hb.le {l : List NodeD} {m j : Nat} (h : Hb l m j) : ∀ d, Hb l (m + d) j
  | 0 => h
  | d + 1 => (Hb.le h d).up
theorem hb_list {l : List NodeD} : ∀ L : List Nat, (∀ k ∈ L, ∃ m, Hb l m k) → ∃ M, ∀ k ∈ L, Hb l M k
 | [], _ => ⟨0, fun k hk => by cases hk⟩
 | a :: L, h => by
  obtain ⟨M, hM⟩ := hb_list L fun k hk => h k (List.mem_cons_of_mem _ hk)
  obtain ⟨m, hm⟩ := h a (List.mem_cons_self ..)
  refine ⟨M + m, fun k hk => ?_⟩
  rcases List.mem_cons.1 hk with rfl | hk
  ·rw [Nat.add_comm]; exact hm.le M
  ·exact (hM k hk).le m
theorem hb_fin {l : List NodeD} {j : Nat} (h : Gr.Fin (bo l) (ks l) j) : ∃ m, Hb l m j := by
 unfold Gr.Fin at h
 induction h with
 | intro j _ ih =>
  cases hb : bo l j with
  | false => exact ⟨0, fun h' => by rw [hb] at h'; cases h'⟩
  | true =>
   obtain ⟨M, hM⟩ := hb_list (l := l) (ks l j) fun k hk => ih k ⟨hb, hk⟩
   exact ⟨M + 1, fun _ => hM⟩
structure Wf (l : List NodeD) (R : Nat) : Prop where
  edge : ∀ x ∈ l, ∀ e ∈ edgeL x, 0 ≤ e ∧ e < (l.length : Int)
  kids : ∀ x ∈ l, boolK x.kind = true ∨ x.kind = 14 → x.kids ≠ []
  hb : ∀ j, j < l.length → Hb l R j
  kind : ∀ x ∈ l, nodeP l x = true
theorem inN {l : List NodeD} {k : Int} (h : 0 ≤ k ∧ k < (l.length : Int)) : nodeAt l k ∈ l := by
  have h1 : k.toNat < l.length := by omega
  unfold nodeAt
  rw [List.getD_eq_getElem?_getD, List.getElem?_eq_getElem h1]
  exact List.getElem_mem h1
theorem getN {l : List NodeD} {k : Int} (h : 0 ≤ k ∧ k < (l.length : Int)) : l[k.toNat]? = some (nodeAt l k) := by
  have h1 : k.toNat < l.length := by omega
  unfold nodeAt
  rw [List.getD_eq_getElem?_getD, List.getElem?_eq_getElem h1]; rfl
theorem ks_at {l : List NodeD} {k : Int} (h : 0 ≤ k ∧ k < (l.length : Int)) : ks l k.toNat = (nodeAt l k).kids.map Int.toNat := by
  unfold ks; rw [getN h]
theorem bo_at {l : List NodeD} {k : Int} (h : 0 ≤ k ∧ k < (l.length : Int)) : bo l k.toNat = boolK (nodeAt l k).kind := by
  unfold bo; rw [getN h]
theorem Wf.of {l : List NodeD} {r : Int} (h : wfP l r = 0) : ∃ R, Wf l R := by
 obtain ⟨_, _, ha, hc⟩ := wf_out h
 have hin := inR_of ha
 have hkk : ∀ i, i < l.length → ∀ k ∈ ks l i, k < l.length := by
  intro i hi k hk
  unfold ks at hk
  rw [List.getElem?_eq_getElem hi] at hk
  simp only [List.mem_map] at hk
  obtain ⟨a, ha', rfl⟩ := hk
  have := hin _ (List.getElem_mem hi) a ha'
  omega
 have hf := (Gr.all_iff (bo := bo l) (ks := ks l) l.length hkk).1 hc
 obtain ⟨R, hR⟩ := hb_list (l := l) (List.range l.length) fun k hk => hb_fin (hf k (List.mem_range.1 hk))
 refine ⟨R, fun x hx e he => ?_, fun x hx hk => ?_, fun j hj => hR j (List.mem_range.2 hj), fun x hx => List.all_eq_true.1 ha x hx⟩
 ·have := List.all_eq_true.1 ha x hx
  simp only [nodeP, Bool.and_eq_true] at this
  have := List.all_eq_true.1 this.2.2 e he
  simp only [outE, Bool.not_eq_true', Bool.or_eq_false_iff, decide_eq_false_iff_not] at this
  omega
 ·have := List.all_eq_true.1 ha x hx
  simp only [nodeP, Bool.and_eq_true] at this
  have hv := this.2.1
  intro h0
  have : x.kind = 16 ∨ x.kind = 17 ∨ x.kind = 18 ∨ x.kind = 14 := by
   rcases hk with hk | hk
   ·simp only [boolK, Bool.or_eq_true, decide_eq_true_eq] at hk; omega
   ·omega
  rcases this with e | e | e | e <;> simp [validK, e, h0] at hv
theorem memF_stable {l : List NodeD} {R : Nat} (hl : Wf l R) : ∀ (f f' b m : Nat) (v : Val) (k : Int), bulkV v ≤ b → 0 ≤ k ∧ k < (l.length : Int) → Hb l m k.toNat → m ≤ R →
  b * (R + 1) + m < f → b * (R + 1) + m < f' → memF l f v k = memF l f' v k := by
 intro f
 induction f with
 | zero => intro f' b m v k _ _ _ _ h; omega
 | succ f ih =>
  intro f' b m v k hb hk hh hm h1 h2
  cases f' with
  | zero => omega
  | succ f' =>
   rw [memF, memF]
   have hmem := inN hk
   have hb1 := bulkV_pos v
   obtain ⟨b', rfl⟩ : ∃ b', b = b' + 1 := ⟨b - 1, by omega⟩
   have hmul : (b' + 1) * (R + 1) = b' * (R + 1) + (R + 1) := Nat.succ_mul _ _
   refine memN_congr (hl.kids _ hmem) (fun p k' hp hk' => ?_) (fun hbo k' hk' => ?_)
   ·have he := hl.edge _ hmem k' hk'
    exact ih f' b' R p k' (by omega) he (hl.hb _ (by omega)) (Nat.le_refl _) (by omega) (by omega)
   ·have he := hl.edge _ hmem k' (kid_edge hk')
    cases m with
    | zero =>
     have := hh (by rw [bo_at hk]; exact hbo)
     rw [ks_at hk] at this
     rw [List.map_eq_nil_iff] at this
     rw [this] at hk'; cases hk'
    | succ m =>
     have := hh (by rw [bo_at hk]; exact hbo) k'.toNat (by rw [ks_at hk]; exact List.mem_map_of_mem hk')
     exact ih f' (b' + 1) m v k' hb he this (by omega) (by omega) (by omega)
noncomputable def memV (l : List NodeD) (v : Val) (k : Int) : Bool := by
  classical exact decide (∃ F, ∀ f, F ≤ f → memF l f v k = true)
theorem memV_of {l : List NodeD} {R : Nat} (hl : Wf l R) {v : Val} {k : Int} (hk : 0 ≤ k ∧ k < (l.length : Int)) {f : Nat} (hf : bulkV v * (R + 1) + R < f) : memF l f v k = memV l v k := by
 have hs : ∀ f', bulkV v * (R + 1) + R < f' → memF l f v k = memF l f' v k := fun f' h' => memF_stable hl f f' (bulkV v) R v k (Nat.le_refl _) hk (hl.hb _ (by omega)) (Nat.le_refl _) hf h'
 classical
 unfold memV
 cases h : memF l f v k with
 | true => exact (decide_eq_true ⟨f, fun f' h' => by rw [← hs f' (by omega)]; exact h⟩).symm
 | false =>
  refine (decide_eq_false ?_).symm
  rintro ⟨F, hF⟩
  have := hF (F + f) (by omega)
  rw [← hs (F + f) (by omega), h] at this
  cases this
theorem memV_eq {l : List NodeD} {R : Nat} (hl : Wf l R) {v : Val} {k : Int} (hk : 0 ≤ k ∧ k < (l.length : Int)) : memV l v k = memN (memV l) (nodeAt l k) v := by
 obtain ⟨f, hf⟩ : ∃ f, f = bulkV v * (R + 1) + R + 1 := ⟨_, rfl⟩
 have hmem := inN hk
 rw [← memV_of hl hk (f := f + 1) (by omega), memF]
 refine memN_congr (hl.kids _ hmem) (fun p k' hp hk' => ?_) (fun hbo k' hk' => ?_)
 ·have : bulkV p * (R + 1) ≤ bulkV v * (R + 1) := Nat.mul_le_mul_right _ (by omega)
  exact memV_of hl (hl.edge _ hmem k' hk') (by omega)
 ·exact memV_of hl (hl.edge _ hmem k' (kid_edge hk')) (by omega)
def MemC (l : List NodeD) (r : Int) (g : Val → Int → Bool) (v : Val) (k : Int) : Prop := PC Tryz.prog 52 [Vt v, Tt l r, I .i64 k] (Bo (g v k))
theorem MemC.f {l : List NodeD} {r : Int} {g : Val → Int → Bool} {v : Val} {k : Int} (h : MemC l r g v k) : PC Tryz.prog 52 [.st (encVal v), .st [.sl 8 (l.map encNode), .int .i64 r], I .i64 k] (Bo (g v k)) := h
theorem MemC.e {l : List NodeD} {r : Int} {g : Val → Int → Bool} {v : Val} {k : Int} (h : MemC l r g v k) : PC Tryz.prog 52 [.st [.int .i64 v.kind, .int .i64 v.num, .str v.text, .sl 7 (v.kids.map encVal), .sl 2 (v.keys.map encKey), .sl 9 (v.ents.map encEnt), .sl 1 (v.labels.map Sx.encStr)], .st [.sl 8 (l.map encNode), .int .i64 r], I .i64 k] (Bo (g v k)) := by
  rw [← encVal_eq]; exact h
theorem members_c (l : List NodeD) (r : Int) (g : Val → Int → Bool) (vs : List Val) (ks : List Int) (H : ∀ v ∈ vs, ∀ k ∈ ks, MemC l r g v k) :
  PC Tryz.prog 89 [.one (.dat (.sl 7 (vs.map encVal))), Tt l r, .one (.dat (.sl 1 (ks.map encInt)))] (Bo (memsB g vs ks)) := by
 refine PCB.ob Tryz.func89 Tryz.ntmps89 Tryz.results89 ?_
 unfold memsB
 cases hl : decide ((vs.length : Int) = (ks.length : Int))
 ·
  repeat' (first | (simp only [go_sem, zA, zB, zC, zD, zE, zF, zG, reduceCtorEq, zH, zI, zJ, zK, zL, hl, lB]; all_goals refine nf ?_) | (refine stp ?_; intro K hK) | (apply hK; clear hK K) | refine stn ?_ | (clear hK K))
  all_goals exact lf
 have hle : vs.length = ks.length := by have := of_decide_eq_true hl; omega
 repeat' (first | (simp only [go_sem, zA, zB, zC, zD, zE, zF, zG, reduceCtorEq, zH, zI, zJ, zK, zL, hl, lB]; all_goals refine nf ?_) | (refine stp ?_; intro K hK) | (apply hK; clear hK K) | refine stn ?_ | fail)
 refine AWP.len 0 rfl fun hlen0 => ?_
 (try rw [lB] at hlen0)
 refine AWP.range (S := Unit) (vs) encVal (fun k s => (7, I .i64 (k : Nat)) :: []) (fun k s => []) [0, 2, 4] [4] (fun k s => ((vs.zip ks).all fun p => g p.1 p.2) = (((vs.zip ks).drop k).all fun p => g p.1 p.2)) (()) (by refine sts ?_; exact Gh.tt []) ?_ ?_ ?_
 ·rfl
 ·intro k s x hlt hx hx' hb hok
  refine sts ?_
  have hkv : k < vs.length := (List.getElem?_eq_some_iff.1 hx).1
  have hkk : k < ks.length := by omega
  obtain ⟨y, hy⟩ : ∃ y, ks[k]? = some y := ⟨ks[k], List.getElem?_eq_getElem hkk⟩
  have hy' := get_map encInt hy
  rw [zip_step hx hy, List.all_cons] at hok
  have hM := (H x (List.mem_of_getElem? hx) y (List.mem_of_getElem? hy)).f
  cases hz : g x y <;> simp only [hz, Bool.true_and, Bool.false_and] at hok
  ·
   repeat' (first | (simp only [go_sem, zA, zB, zC, zD, zE, zF, zG, reduceCtorEq, zH, zI, zJ, zK, zL, lB, hb, hz]; all_goals refine nf ?_) | (refine stp ?_; intro K hK) | (apply hK; clear hK K) | refine stn ?_ | (with_reducible first | refine ⟨by omega, encVal x, hx', ?_⟩ | refine ⟨by omega, encInt y, hy', ?_⟩ | refine ⟨_, hM, ?_⟩) | (refine stp' ?_; intro K hK) | (clear hK K))
   all_goals (first | exact lf | (refine fin0 ?_; simp only [hok, zb, cond_true, cond_false, decide_true, decide_false] <;> rfl))
  ·
   repeat' (first | (simp only [go_sem, zA, zB, zC, zD, zE, zF, zG, reduceCtorEq, zH, zI, zJ, zK, zL, lB, hb, hz]; all_goals refine nf ?_) | (refine stp ?_; intro K hK) | (apply hK; clear hK K) | refine stn ?_ | (with_reducible first | refine ⟨by omega, encVal x, hx', ?_⟩ | refine ⟨by omega, encInt y, hy', ?_⟩ | refine ⟨_, hM, ?_⟩) | (refine stp' ?_; intro K hK) | (clear hK K))
   all_goals (rw [wrap_succ hlt hlen0])
   all_goals (refine ⟨(), ?_, Gh.tt []⟩)
   all_goals exact hok
 ·intro s hb hok
  refine sts ?_
  rw [zip_end] at hok
  repeat' (first | (simp only [go_sem, zA, zB, zC, zD, zE, zF, zG, reduceCtorEq, zH, zI, zJ, zK, zL, lB, hb]; all_goals refine nf ?_) | (refine stp ?_; intro K hK) | (apply hK; clear hK K) | refine stn ?_ | (clear hK K))
  all_goals (first | exact lf | (refine fin0 ?_; simp only [hok, zb, cond_true, cond_false, decide_true, decide_false] <;> rfl))
theorem refKey_c (v : Val) (k : KeyD) : PC Tryz.prog 134 [Vt v, .st (encKey k)] (I .i64 (findI (fun y : KeyD => sameK y k) 0 v.keys)) := by
 refine PCB.ob Tryz.func134 Tryz.ntmps134 Tryz.results134 ?_
 repeat' (first | (simp only [go_sem, zA, zB, zC, zD, zE, zF, zG, reduceCtorEq, zH, zI, zJ, zK, zL, encVal_eq v, lB]; all_goals refine nf ?_) | (refine stp ?_; intro K hK) | (apply hK; clear hK K) | refine stn ?_ | fail)
 refine AWP.lenB 2 4 rfl rfl fun hlen0 => ?_
 (try rw [lB] at hlen0)
 refine AWP.range (S := Unit) (v.keys) encKey (fun k s => (5, I .i64 (k : Nat)) :: []) (fun k s => []) [2, 3] [2, 3] (fun i s => findI (fun y : KeyD => sameK y k) 0 v.keys = findI (fun y : KeyD => sameK y k) i (v.keys.drop i)) (()) (by simp only [go_sem, zA, zB, zC, zD, zE, zF, zG, reduceCtorEq, zH, zI, zJ, zK, zL, encVal_eq v]; exact Gh.tt []) ?_ ?_ ?_
 ·rfl
 ·intro i s x hlt hx hx' hb hok
  refine sts ?_
  rw [findI_drop _ _ _ _ hx] at hok
  cases hz : sameK x k <;> simp only [hz, cond_true, cond_false] at hok
  ·
   repeat' (first | (simp only [go_sem, zA, zB, zC, zD, zE, zF, zG, reduceCtorEq, zH, zI, zJ, zK, zL, encVal_eq v, lB, hb, hz]; all_goals refine nf ?_) | (refine stp ?_; intro K hK) | (apply hK; clear hK K) | refine stn ?_ | (with_reducible refine ⟨by omega, encKey x, hx', ?_⟩) | (refine stp' ?_; intro K hK) | (clear hK K))
   all_goals (rw [wrap_succ hlt hlen0])
   all_goals (refine ⟨(), ?_, Gh.tt []⟩)
   all_goals exact hok
  ·
   repeat' (first | (simp only [go_sem, zA, zB, zC, zD, zE, zF, zG, reduceCtorEq, zH, zI, zJ, zK, zL, encVal_eq v, lB, hb, hz]; all_goals refine nf ?_) | (refine stp ?_; intro K hK) | (apply hK; clear hK K) | refine stn ?_ | (with_reducible refine ⟨by omega, encKey x, hx', ?_⟩) | (refine stp' ?_; intro K hK) | (clear hK K))
   all_goals (first | exact lf | (refine fin0 ?_; simp only [hok, zb, cond_true, cond_false, decide_true, decide_false] <;> rfl))
 ·intro s hb hok
  refine sts ?_
  rw [List.drop_length] at hok
  repeat' (first | (simp only [go_sem, zA, zB, zC, zD, zE, zF, zG, reduceCtorEq, zH, zI, zJ, zK, zL, encVal_eq v, lB, hb]; all_goals refine nf ?_) | (refine stp ?_; intro K hK) | (apply hK; clear hK K) | refine stn ?_ | (clear hK K))
  all_goals (refine fin0 ?_; rw [hok]; rfl)
theorem refKey_e (v : Val) (k : KeyD) : PC Tryz.prog 134 [.st [.int .i64 v.kind, .int .i64 v.num, .str v.text, .sl 7 (v.kids.map encVal), .sl 2 (v.keys.map encKey), .sl 9 (v.ents.map encEnt), .sl 1 (v.labels.map Sx.encStr)], .st [.int .i64 k.kind, .str k.text]] (I .i64 (findI (fun y : KeyD => sameK y k) 0 v.keys)) := by
  rw [← encVal_eq]; exact refKey_c v k
theorem refField_c (x : NodeD) (k : KeyD) : PC Tryz.prog 135 [.st [.int .i64 x.kind, .int .i64 x.lo, .int .i64 x.hi, .str x.text, .sl 1 (x.kids.map encInt), .sl 4 (x.fields.map encField), .int .i64 x.r0, .int .i64 x.r1], .st (encKey k)] (I .i64 (findI (fun f : FieldD => sameK f.key k) 0 x.fields)) := by
 refine PCB.ob Tryz.func135 Tryz.ntmps135 Tryz.results135 ?_
 repeat' (first | (simp only [go_sem, zA, zB, zC, zD, zE, zF, zG, reduceCtorEq, zH, zI, zJ, zK, zL, lB]; all_goals refine nf ?_) | (refine stp ?_; intro K hK) | (apply hK; clear hK K) | refine stn ?_ | fail)
 refine AWP.lenB 2 5 rfl rfl fun hlen0 => ?_
 (try rw [lB] at hlen0)
 refine AWP.range (S := Unit) (x.fields) encField (fun k s => (5, I .i64 (k : Nat)) :: []) (fun k s => []) [2, 3] [2, 3] (fun i s => findI (fun f : FieldD => sameK f.key k) 0 x.fields = findI (fun f : FieldD => sameK f.key k) i (x.fields.drop i)) (()) (by refine sts ?_; exact Gh.tt []) ?_ ?_ ?_
 ·rfl
 ·intro i s f hlt hx hx' hb hok
  refine sts ?_
  rw [findI_drop _ _ _ _ hx] at hok
  have hz2 : (decide (f.key.kind = k.kind) && decide (f.key.text = k.text)) = sameK f.key k := by rw [sameK, Bool.and_true]
  cases hz : sameK f.key k <;> simp only [hz, cond_true, cond_false] at hok <;> rw [hz] at hz2
  ·
   repeat' (first | (simp only [go_sem, zA, zB, zC, zD, zE, zF, zG, reduceCtorEq, zH, zI, zJ, zK, zL, lB, hb, hz2, encField_lit, encKey]; all_goals refine nf ?_) | (refine stp ?_; intro K hK) | (apply hK; clear hK K) | refine stn ?_ | (with_reducible refine ⟨by omega, encField f, hx', ?_⟩) | (refine stp' ?_; intro K hK) | (clear hK K))
   all_goals (rw [wrap_succ hlt hlen0])
   all_goals (refine ⟨(), ?_, Gh.tt []⟩)
   all_goals exact hok
  ·
   repeat' (first | (simp only [go_sem, zA, zB, zC, zD, zE, zF, zG, reduceCtorEq, zH, zI, zJ, zK, zL, lB, hb, hz2, encField_lit, encKey]; all_goals refine nf ?_) | (refine stp ?_; intro K hK) | (apply hK; clear hK K) | refine stn ?_ | (with_reducible refine ⟨by omega, encField f, hx', ?_⟩) | (refine stp' ?_; intro K hK) | (clear hK K))
   all_goals (first | exact lf | (refine fin0 ?_; simp only [hok, zb, cond_true, cond_false, decide_true, decide_false] <;> rfl))
 ·intro s hb hok
  refine sts ?_
  rw [List.drop_length] at hok
  repeat' (first | (simp only [go_sem, zA, zB, zC, zD, zE, zF, zG, reduceCtorEq, zH, zI, zJ, zK, zL, lB, hb]; all_goals refine nf ?_) | (refine stp ?_; intro K hK) | (apply hK; clear hK K) | refine stn ?_ | (clear hK K))
  all_goals (refine fin0 ?_; rw [hok]; rfl)
end Go.Proofs.YthbcdhfiibpeaaaGreat

