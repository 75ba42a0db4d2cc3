/- A part of the proof: lemmas about the walk of the program and about plain integers and lists. No conditions beyond those that each lemma states. -/
import Derived.Test.YtogponhonjiidaaDoorTx14
import Derived.Test.YtogponhonjiidaaDoorTx12
import Derived.Test.YtogponhonjiidaaDoorTx13
set_option linter.unusedSimpArgs false
set_option linter.unusedVariables false
set_option maxRecDepth 20000
namespace Go.Proofs.YtogponhonjiidaaDoor
open Go Go.Sx
open Nat renaming reduceBEq → zA, reduceBNe → zB, reduceAdd → zC, reduceSub → zD, reduceMul → zE, reduceLeDiff → zF, reduceLT → zG, reduceEqDiff → zH
open Int renaming reduceToNat → zI, reduceLE → zJ, reduceLT → zK, reduceEq → zL
open Bool renaming not_eq_true' → zM, not_eq_false' → zN
theorem lit3 (x : List UInt8) (hx : Lx x) (a b : List UInt8) (ha : clB 80 a = true) (hb : So b) (hb2 : eatB 80 b = true) : Lx (a ++ x ++ b) := by
 rw [List.append_assoc]; exact Lx.c (clB_lc 80 _ ha) (Lx.x hx hb (eatB_lx 80 _ hb2))
theorem lit5 (x : List UInt8) (hx : Lx x) (a b c : List UInt8) (ha : clB 80 a = true) (hb : So b) (hb2 : clB 80 b = true) (hc : So c) (hc2 : eatB 80 c = true) : Lx (a ++ x ++ b ++ x ++ c) := by
 simp only [List.append_assoc]
 exact Lx.c (clB_lc 80 _ ha) (Lx.x hx (hb.app _) (Lx.c (clB_lc 80 _ hb2) (Lx.x hx hc (eatB_lx 80 _ hc2))))
theorem testV_nice (x : List UInt8) (hx : Lx x) (hl : x.length ≤ 4) (sort : Int) (g : Gn) : Nice 0 35 g (testV x sort g) ∧ ((testV x sort g).1 ≠ [] ∧ (testV x sort g).1.length ≤ 35) := by
 have hv := drawV_in g.s (n := 2) (by omega)
 obtain ⟨n1, n2, n3, n4, n5⟩ := nxt_f g 2
 have stay : ∀ t : List UInt8, Lx t → t.length ≤ 35 → t ≠ [] → Nice 0 35 g (t, g) ∧ ((t, g).1 ≠ [] ∧ (t, g).1.length ≤ 35) := fun t h1 h2 h3 => ⟨⟨h1, by simp only; omega, Int.le_refl _, by show g.k ≤ _; omega, rfl, Nat.le_refl _, fun h => h⟩, h3, h2⟩
 have bif2 : ∀ (b : Bool) (u v : List UInt8 × Gn), (Nice 0 35 g u ∧ (u.1 ≠ [] ∧ u.1.length ≤ 35)) → (Nice 0 35 g v ∧ (v.1 ≠ [] ∧ v.1.length ≤ 35)) → Nice 0 35 g (bif b then u else v) ∧ ((bif b then u else v).1 ≠ [] ∧ (bif b then u else v).1.length ≤ 35) := fun b u v h1 h2 => by cases b <;> assumption
 have hd : ∀ a : List UInt8, ∀ u : List UInt8, 0 < a.length → a ++ u ≠ [] := fun a u h e => by
  have := congrArg List.length e
  rw [List.length_append, List.length_nil] at this; omega
 unfold testV
 refine bif2 _ _ _ ?_ (bif2 _ _ _ (stay _ (lit5 x hx _ _ _ (by decide +kernel) ⟨_, _, rfl, by decide⟩ (by decide +kernel) ⟨_, _, rfl, by decide⟩ (by decide +kernel)) (by simp only [List.length_append, List.length_cons, List.length_nil]; omega) (by simp)) (bif2 _ _ _ (stay _ (lit3 x hx _ _ (by decide +kernel) ⟨_, _, rfl, by decide⟩ (by decide +kernel)) (by simp only [List.length_append, List.length_cons, List.length_nil]; omega) (by simp)) (bif2 _ _ _ (stay _ (lit3 x hx _ _ (by decide +kernel) ⟨_, _, rfl, by decide⟩ (by decide +kernel)) (by simp only [List.length_append, List.length_cons, List.length_nil]; omega) (by simp)) (bif2 _ _ _ (stay _ (lit3 x hx _ _ (by decide +kernel) ⟨_, _, rfl, by decide⟩ (by decide +kernel)) (by simp only [List.length_append, List.length_cons, List.length_nil]; omega) (by simp)) (bif2 _ _ _ (stay _ (lit3 x hx _ _ (by decide +kernel) ⟨_, _, rfl, by decide⟩ (by decide +kernel)) (by simp only [List.length_append, List.length_cons, List.length_nil]; omega) (by simp)) (bif2 _ _ _ (stay _ (lit5 x hx _ _ _ (by decide +kernel) ⟨_, _, rfl, by decide⟩ (by decide +kernel) ⟨_, _, rfl, by decide⟩ (by decide +kernel)) (by simp only [List.length_append, List.length_cons, List.length_nil]; omega) (by simp)) (stay _ (lit3 x hx _ _ (by decide +kernel) ⟨_, _, rfl, by decide⟩ (by decide +kernel)) (by simp only [List.length_append, List.length_cons, List.length_nil]; omega) (by simp))))))))
 have key : ∀ t, t ∈ testL x → Lx t ∧ t.length ≤ 35 ∧ t ≠ [] := by
  intro t ht
  simp only [testL, List.mem_cons, List.not_mem_nil, or_false] at ht
  rcases ht with rfl | rfl | rfl
  ·exact ⟨lit3 x hx _ _ (by decide +kernel) ⟨_, _, rfl, by decide⟩ (by decide +kernel), by simp only [List.length_append, List.length_cons, List.length_nil]; omega, by simp⟩
  ·exact ⟨lit5 x hx _ _ _ (by decide +kernel) ⟨_, _, rfl, by decide⟩ (by decide +kernel) ⟨_, _, rfl, by decide⟩ (by decide +kernel), by simp only [List.length_append, List.length_cons, List.length_nil]; omega, by simp⟩
  ·exact ⟨lit3 x hx _ _ (by decide +kernel) ⟨_, _, rfl, by decide⟩ (by decide +kernel), by simp only [List.length_append, List.length_cons, List.length_nil]; omega, by simp⟩
 have hm : (testL x).getD (drawV g.s 2).toNat [] ∈ testL x := by
  rw [List.getD_eq_getElem?_getD, List.getElem?_eq_getElem (show (drawV g.s 2).toNat < (testL x).length by show _ < 3; omega)]
  exact List.getElem_mem _
 obtain ⟨k1, k2, k3⟩ := key _ hm
 exact ⟨⟨k1, by simp only; omega, by show g.k ≤ (nxt g 2).k; omega, by show (nxt g 2).k ≤ _; omega, n4, n2, n5⟩, k3, k2⟩
theorem patternV_len9 (sort : Int) (g : Gn) : (patternV sort g).1.length ≤ 9 := by
 have h1 := (small_facts g).2
 have h2 := (atom_facts g.s).2
 have b2 : ∀ (b : Bool) (u v : List UInt8 × Gn), u.1.length ≤ 9 → v.1.length ≤ 9 → (bif b then u else v).1.length ≤ 9 := fun b u v h1 h2 => by cases b <;> assumption
 unfold patternV
 exact b2 _ _ _ (by simp only; omega) (b2 _ _ _ (by simp) (b2 _ _ _ (by simp only; omega) (b2 _ _ _ (by simp) (b2 _ _ _ (by simp) (b2 _ _ _ (by simp) (by simp))))))
theorem patternV_nice (sort : Int) (g : Gn) : Nice 0 9 g (patternV sort g) := by
 obtain ⟨s1, s2⟩ := small_facts g
 obtain ⟨a1, a2⟩ := atom_facts g.s
 have draw : ∀ (n : Int) (t : List UInt8), Lx t → t.length ≤ 9 → Nice 0 9 g (t, nxt g n) := fun n t h1 h2 => by
  obtain ⟨n1, n2, n3, n4, n5⟩ := nxt_f g n
  exact ⟨h1, by simp only; omega, by show g.k ≤ (nxt g n).k; omega, by show (nxt g n).k ≤ _; omega, n4, n2, n5⟩
 have stay : ∀ t : List UInt8, eatB 80 t = true → t.length ≤ 9 → Nice 0 9 g (t, g) := fun t h1 h2 => ⟨eatB_lx 80 _ h1, by simp only; omega, Int.le_refl _, by show g.k ≤ _; omega, rfl, Nat.le_refl _, fun h => h⟩
 unfold patternV
 exact bif_nice _ (fun _ => draw 7 _ s1 (by omega)) fun _ => bif_nice _ (fun _ => stay _ (by decide +kernel) (by decide)) fun _ => bif_nice _ (fun _ => draw 4 _ a1 (by omega)) fun _ => bif_nice _ (fun _ => stay _ (by decide +kernel) (by decide)) fun _ => bif_nice _ (fun _ => stay _ (by decide +kernel) (by decide)) fun _ => bif_nice _ (fun _ => stay _ (by decide +kernel) (by decide)) fun _ => stay _ (by decide +kernel) (by decide)
structure ClN (k : Nat) (g : Gn) (t : Cl) : Prop where
 lc : k = 0 → Lc t.s ∧ t.s.length = 2
 lx : Lx t.s
 sl : t.s.length ≤ 7 + 6 * k
 env : EnvN t.env
 gd : t.guard = [] ∨ (Lx t.guard ∧ t.guard.length + 7 ≤ 42 * k)
 k0 : g.k ≤ t.g.k
 k1 : t.g.k ≤ g.k + k
 n : t.g.s.l.length = g.s.l.length
 p : g.s.pos ≤ t.g.s.pos
 q : g.s.pos ≤ g.s.l.length → t.g.s.pos ≤ g.s.l.length
theorem clPar_n (sp : Bool) (k : Nat) (p : Int) (g : Gn) (t : Cl) (h0 : 0 ≤ g.k) (h1 : g.k + k ≤ 800) (h : ClN k g t) : ClN (k + 1) g (clPar sp k p t) := by
 obtain ⟨c1, c2, c3, c4, c5, c6, c7, c8, c9, c10⟩ := h
 unfold clPar
 cases hsp : sp && decide (k = 0) with
 | true =>
  have hk : k = 0 := by simp only [Bool.and_eq_true, decide_eq_true_eq] at hsp; exact hsp.2
  obtain ⟨d1, d2⟩ := c1 hk
  obtain ⟨x1, x2, x3, x4, x5, x6, x7⟩ := patternV_nice p t.g
  have xl := patternV_len9 p t.g
  simp only [cond_true]
  refine ⟨fun h => by omega, Lx.c d1 x1, by simp only [List.length_append]; omega, c4, ?_, by simp only; omega, by simp only; omega, by simp only; omega, by simp only; omega, by simp only; omega⟩
  rcases c5 with c5 | c5
  ·exact .inl c5
  ·exact .inr ⟨c5.1, by simp only; omega⟩
 | false =>
  obtain ⟨f1, f2, f3⟩ := fresh_facts t.g (by omega) (by omega)
  obtain ⟨⟨x1, x2, x3, x4, x5, x6, x7⟩, xne, xl⟩ := testV_nice (freshV t.g) f1 f2 p (incK t.g)
  have i1 : (incK t.g).s.pos = t.g.s.pos := rfl
  have i2 : (incK t.g).s.l.length = t.g.s.l.length := rfl
  simp only [cond_false]
  refine ⟨fun h => by omega, ?_, ?_, c4.snoc _ f1 f2, ?_, by simp only; omega, by simp only; omega, by simp only; omega, by simp only; omega, by simp only; omega⟩
  ·by_cases hk : k = 0
   ·rw [show decide (k = 0) = true by simp [hk], cond_true]; exact Lx.c (c1 hk).1 f1
   ·rw [show decide (k = 0) = false by simp [hk], cond_false]; exact Lx.c (Lc.x c2 ⟨_, _, rfl, by decide⟩ (clB_lc 10 _ (by decide +kernel))) f1
  ·by_cases hk : k = 0
   ·rw [show decide (k = 0) = true by simp [hk], cond_true]
    have := (c1 hk).2
    simp only [List.length_append]; omega
   ·rw [show decide (k = 0) = false by simp [hk], cond_false]
    simp only [List.length_append, List.length_cons, List.length_nil]; omega
  ·by_cases hg : t.guard = []
   ·rw [show decide (t.guard = []) = true by simp [hg], cond_true]; exact .inr ⟨x1, by simp only; omega⟩
   ·obtain ⟨g1, g2⟩ := c5.resolve_left hg
    rw [show decide (t.guard = []) = false by simp [hg], cond_false]
    refine .inr ⟨?_, by simp only [List.length_append, List.length_cons, List.length_nil]; omega⟩
    simp only [List.append_assoc]
    exact Lx.c (open_lc 40 (.inl rfl)) (Lx.x g1 (So.app ⟨_, _, rfl, by decide⟩ _) (Lx.c (clB_lc 80 _ (by decide +kernel)) (Lx.x x1 ⟨_, _, rfl, by decide⟩ (eatB_lx 80 _ (by decide +kernel)))))
theorem clAt_n (sp : Bool) (d : CalD) (hd : CalN d) (g : Gn) (h0 : 0 ≤ g.k) : ∀ k : Nat, g.k + k ≤ 800 → ClN k g (clAt sp d g k)
 | 0, _ => ⟨fun _ => ⟨head_lc hd, by show (d.name ++ [40]).length = 2; rw [List.length_append, (name_facts hd).2]; rfl⟩, (head_lc hd).lx, by show (d.name ++ [40]).length ≤ _; rw [List.length_append, (name_facts hd).2]; decide, fun x hx => (by cases hx), .inl rfl, Int.le_refl _, by show g.k ≤ _; omega, rfl, Nat.le_refl _, fun h => h⟩
 | k + 1, h => clPar_n sp k _ g _ h0 (by omega) (clAt_n sp d hd g h0 k (by omega))
theorem clauseV_nice {c : Cst} (hc : CstN c) (sp : Bool) (d : CalD) (hd : CalN d) (n : Nat) (hn : n ≤ 3) (g : Gn) (h0 : 0 ≤ g.k) (h1 : g.k ≤ 700) : Nice 42 76 g (clauseV c sp d n g) := by
 have hp := hd.2.2
 have hF : FN n ≤ 40 := by
  have : ∀ n, n ≤ 3 → FN n ≤ 40 := by decide
  exact this n hn
 obtain ⟨c1, c2, c3, c4, c5, c6, c7, c8, c9, c10⟩ := clAt_n sp d hd g h0 d.params.length (by omega)
 unfold clauseV
 generalize clAt sp d g d.params.length = t at *
 unfold clBody
 have hE := exprV_nice hc n
 cases hg : decide (t.guard = []) with
 | true =>
  obtain ⟨x1, x2, x3, x4, x5, x6, x7⟩ := hE d.res t.env t.g (by omega) (by omega) c4
  simp only [cond_true]
  refine ⟨?_, by simp only [List.length_append, List.length_cons, List.length_nil]; omega, by simp only; omega, by simp only; omega, by simp only; omega, by simp only; omega, by simp only; omega⟩
  have h2 : Lx (t.s ++ (([41] ++ [32, 45, 62, 32]) ++ (exprV c n d.res t.env t.g).1)) :=
   Lx.x c2 (So.app ⟨_, _, rfl, by decide⟩ _) (Lx.c (clB_lc 80 _ (by decide +kernel)) x1)
  simp only [List.append_assoc] at h2 ⊢
  exact h2
 | false =>
  rw [decide_eq_false_iff_not] at hg
  obtain ⟨g1, g2⟩ := c5.resolve_left hg
  obtain ⟨n1, n2, n3, n4, n5⟩ := nxt_f t.g 5
  obtain ⟨x1, x2, x3, x4, x5, x6, x7⟩ := hE d.res t.env (nxt t.g 5) (by omega) (by omega) c4
  simp only [cond_false]
  cases hw : decide (0 < drawV t.g.s 5) with
  | true =>
   have ho := nxt_one (g := t.g) (n := 5) (by rw [decide_eq_true_eq] at hw; omega)
   simp only [cond_true]
   refine ⟨?_, by simp only [List.length_append, List.length_cons, List.length_nil]; omega, by simp only; omega, by simp only; omega, by simp only; omega, by simp only; omega, by simp only; omega⟩
   have h2 : Lx (t.s ++ (([41] ++ [32, 119, 104, 101, 110, 32]) ++ (t.guard ++ ([32, 45, 62, 32] ++ (exprV c n d.res t.env (nxt t.g 5)).1)))) :=
    Lx.x c2 (So.app ⟨_, _, rfl, by decide⟩ _) (Lx.c (clB_lc 80 _ (by decide +kernel)) (Lx.x g1 (So.app ⟨_, _, rfl, by decide⟩ _) (Lx.c (clB_lc 80 _ (by decide +kernel)) x1)))
   simp only [List.append_assoc] at h2 ⊢
   exact h2
  | false =>
   simp only [cond_false]
   refine ⟨?_, by simp only [List.length_append, List.length_cons, List.length_nil]; omega, by simp only; omega, by simp only; omega, by simp only; omega, by simp only; omega, by simp only; omega⟩
   have h2 : Lx (t.s ++ (([41] ++ [32, 45, 62, 32]) ++ (exprV c n d.res t.env (nxt t.g 5)).1)) :=
    Lx.x c2 (So.app ⟨_, _, rfl, by decide⟩ _) (Lx.c (clB_lc 80 _ (by decide +kernel)) x1)
   simp only [List.append_assoc] at h2 ⊢
   exact h2
/-- a text between backquotes -/
theorem bq_lc (u : List UInt8) (hu : ∀ x ∈ u, x ≠ 96) : Lc (96 :: (u ++ [96])) := fun z m he => by
 have hc := cntW_app (p := noBq) (u := u) (z := 96 :: z) (fun x hx => by rw [noBq_eq]; simpa using hu x hx) (fun c z' e => by cases e; decide)
 have hx : lexL 96 (u ++ 96 :: z) = ((⟨5, u, 0, 0⟩, 0), u.length + 2) := by
  unfold lexL
  rw [show lowI ((96 : UInt8).toNat : Int) = false by decide, show uppI ((96 : UInt8).toNat : Int) = false by decide, show decide (((96 : UInt8).toNat : Int) = 95) = false by decide, show digI ((96 : UInt8).toNat : Int) = false by decide,
   show decide (((96 : UInt8).toNat : Int) = 45) = false by decide, show decide (((96 : UInt8).toNat : Int) = 34) = false by decide, show decide (((96 : UInt8).toNat : Int) = 96) = true by decide]
  simp only [cond_false, cond_true, Bool.false_and, hc, take_app, decide_eq_true (show u.length < (u ++ 96 :: z).length by rw [List.length_append, List.length_cons]; omega)]
 have e : 96 :: (u ++ [96]) ++ z = 96 :: (u ++ 96 :: z) := by simp
 rw [e, List.length_cons, List.length_append, List.length_cons, List.length_nil, show u.length + (0 + 1) + 1 + m = u.length + 2 + m by omega]
 refine .tok hx ?_
 rw [show u.length + 2 = (u.length + 1) + 1 by omega, List.drop_succ_cons]
 have : (u ++ 96 :: z).drop (u.length + 1) = z := by
  rw [show u ++ 96 :: z = (u ++ [96]) ++ z by simp, show u.length + 1 = (u ++ [96]).length by simp, List.drop_left]
 rw [this]; exact he
theorem sepAt_pre (a s : List UInt8) (l : List (List UInt8)) : ∀ k, k ≤ l.length → (sepAt (a ++ s) l k).2 = a ++ (sepAt s l k).2
 | 0, _ => rfl
 | k + 1, hk => by
  have ih := sepAt_pre a s l k (by omega)
  have f1 := sepAt_fst (a ++ s) l k (by omega)
  have f2 := sepAt_fst s l k (by omega)
  rw [sepAt_succ _ l k l[k] (List.getElem?_eq_getElem (by omega)), sepAt_succ _ l k l[k] (List.getElem?_eq_getElem (by omega))]
  simp only [sepStep, f1, f2, ih]
  cases decide (k = 0) <;> simp
theorem sepAt_no (s : List UInt8) (hs : ∀ x ∈ s, x ≠ 96) (l : List (List UInt8)) (hl : ∀ u ∈ l, ∀ x ∈ u, x ≠ 96) : ∀ k, k ≤ l.length → ∀ x ∈ (sepAt s l k).2, x ≠ 96
 | 0, _ => hs
 | k + 1, hk => by
  have ih := sepAt_no s hs l hl k (by omega)
  rw [sepAt_succ _ l k l[k] (List.getElem?_eq_getElem (by omega))]
  intro x hx
  simp only [sepStep] at hx
  rcases List.mem_append.1 hx with hx | hx
  ·revert hx
   cases (sepAt s l k).1 with
   | true => exact ih x
   | false =>
    intro hx
    rcases List.mem_append.1 hx with hx | hx
    ·exact ih x hx
    ·simp only [List.mem_cons, List.not_mem_nil, or_false] at hx
     rcases hx with rfl | rfl <;> decide
  ·exact hl _ (List.getElem_mem _) x hx
theorem decl_no (sort : Int) (h : 0 ≤ sort ∧ sort < 8) : (∀ x ∈ declV sort, x ≠ 96) ∧ (declV sort).length ≤ 37 := by
 have : ∀ y ∈ declL, (∀ x ∈ y, x ≠ 96) ∧ y.length ≤ 37 := by decide +kernel
 unfold declV
 rw [List.getD_eq_getElem?_getD, List.getElem?_eq_getElem (show sort.toNat < declL.length by show _ < 8; omega)]
 exact this _ (List.getElem_mem _)
theorem num_txt (n : Nat) (h : n ≤ 2) : Lib.itoa (n : Int) = [UInt8.ofNat (48 + n)] := by
 rw [itoa_pos (by omega), Int.toNat_natCast, Lib.decDigits, dif_pos (by omega)]
theorem three (n : Nat) (h : n ≤ 2) : n = 0 ∨ n = 1 ∨ n = 2 := by omega
theorem head_txt {d : CalD} (h : CalN d) : clB 80 ([115, 105, 103, 32] ++ d.name ++ [47] ++ Lib.itoa (d.params.length : Int) ++ [32, 58, 32]) = true ∧ ([115, 105, 103, 32] ++ d.name ++ [47] ++ Lib.itoa (d.params.length : Int) ++ [32, 58, 32]).length = 10 ∧ Lx (expV d) ∧ (expV d).length = 3 := by
 have hp := h.2.2
 have key : ∀ x ∈ fghL, ∀ n : Nat, n < 3 → clB 80 ([115, 105, 103, 32] ++ x ++ [47] ++ [UInt8.ofNat (48 + n)] ++ [32, 58, 32]) = true ∧ ([115, 105, 103, 32] ++ x ++ [47] ++ [UInt8.ofNat (48 + n)] ++ [32, 58, 32]).length = 10 ∧ eatB 10 (x ++ [47] ++ [UInt8.ofNat (48 + n)]) = true ∧ (x ++ [47] ++ [UInt8.ofNat (48 + n)]).length = 3 := by decide +kernel
 obtain ⟨k1, k2, k3, k4⟩ := key _ h.2.1 d.params.length (by omega)
 unfold expV
 rw [num_txt _ hp]
 exact ⟨k1, k2, eatB_lx 10 _ k3, k4⟩
theorem headerV_lc {d : CalD} (h : CalN d) (hh : HdOk d) : Lc (headerV d) ∧ (headerV d).length ≤ 135 := by
 obtain ⟨t1, t2, _, _⟩ := head_txt h
 obtain ⟨r1, r2⟩ := decl_no d.res hh.1
 have hp := h.2.2
 have hk : d.params.length ≤ (d.params.map declV).length := by rw [List.length_map]; exact Nat.le_refl _
 have hno := sepAt_no [40] (by decide) (d.params.map declV) (fun u hu => by obtain ⟨p, hp, rfl⟩ := List.mem_map.1 hu; exact (decl_no p (hh.2 p hp)).1) d.params.length hk
 have hlen := sepAt_len [40] (d.params.map declV) 37 (fun u hu => by obtain ⟨p, hp, rfl⟩ := List.mem_map.1 hu; exact (decl_no p (hh.2 p hp)).2) d.params.length hk
 have e : headerV d = ([115, 105, 103, 32] ++ d.name ++ [47] ++ Lib.itoa (d.params.length : Int) ++ [32, 58, 32]) ++ ((96 :: (((sepAt [40] (d.params.map declV) d.params.length).2 ++ [41, 32, 45, 62, 32] ++ declV d.res) ++ [96])) ++ [46, 10]) := by
  unfold headerV
  rw [show [115, 105, 103, 32] ++ d.name ++ [47] ++ Lib.itoa (d.params.length : Int) ++ [32, 58, 32, 96, 40] = (([115, 105, 103, 32] ++ d.name ++ [47] ++ Lib.itoa (d.params.length : Int) ++ [32, 58, 32]) ++ [96]) ++ [40] by simp, sepAt_pre _ [40] _ _ hk]
  simp
 have h2 : d.params.length * (37 + 2) ≤ 2 * (37 + 2) := Nat.mul_le_mul_right _ hp
 rw [e]
 refine ⟨Lc.c (clB_lc 80 _ t1) (Lc.c (bq_lc _ fun x hx => ?_) (clB_lc 10 _ (by decide +kernel))), ?_⟩
 ·rcases List.mem_append.1 hx with hx | hx
  ·rcases List.mem_append.1 hx with hx | hx
   ·exact hno x hx
   ·simp only [List.mem_cons, List.not_mem_nil, or_false] at hx
    rcases hx with rfl | rfl | rfl | rfl | rfl <;> decide
  ·exact r1 x hx
 ·generalize ([115, 105, 103, 32] ++ d.name ++ [47] ++ Lib.itoa (d.params.length : Int) ++ [32, 58, 32]) = a at t2
  simp only [List.length_append, List.length_cons, List.length_nil] at hlen ⊢
  omega
theorem sepAt_lx (s : List UInt8) (hs : Lc s) (l : List (List UInt8)) (hl : ∀ u ∈ l, Lx u) : ∀ k, k ≤ l.length → Lx (sepAt s l k).2 ∧ (k = 0 → Lc (sepAt s l k).2)
 | 0, _ => ⟨hs.lx, fun _ => hs⟩
 | k + 1, hk => by
  obtain ⟨i1, i2⟩ := sepAt_lx s hs l hl k (by omega)
  have f1 := sepAt_fst s l k (by omega)
  rw [sepAt_succ _ l k l[k] (List.getElem?_eq_getElem (by omega))]
  refine ⟨?_, fun h => by omega⟩
  simp only [sepStep, f1]
  by_cases hk0 : k = 0
  ·rw [show decide (k = 0) = true by simp [hk0], cond_true]; exact Lx.c (i2 hk0) (hl _ (List.getElem_mem _))
  ·rw [show decide (k = 0) = false by simp [hk0], cond_false]; exact Lx.c (Lc.x i1 ⟨_, _, rfl, by decide⟩ (clB_lc 10 _ (by decide +kernel))) (hl _ (List.getElem_mem _))
/-- the texts of a module, line by line: read whatever stands behind -/
structure NiceC (F c0 : Nat) (g : Gn) (r : List UInt8 × Gn) : Prop where
 lc : Lc r.1
 len : r.1.length + 60 * g.s.pos ≤ c0 + 60 * r.2.s.pos
 k0 : g.k ≤ r.2.k
 k1 : r.2.k ≤ g.k + F
 n : r.2.s.l.length = g.s.l.length
 p : g.s.pos ≤ r.2.s.pos
 q : g.s.pos ≤ g.s.l.length → r.2.s.pos ≤ g.s.l.length
theorem fnV_nice {c : Cst} (hc : CstN c) (d : CalD) (hd : CalN d) (g : Gn) (h0 : 0 ≤ g.k) (h1 : g.k ≤ 600) : NiceC 84 156 g (fnV c d g) := by
 have hv := drawV_in g.s (n := 3) (by omega)
 obtain ⟨a1, a2, a3, a4, a5⟩ := nxt_f g 3
 obtain ⟨b1, b2, b3, b4, b5⟩ := nxt_f (nxt g 3) 2
 have so : ∀ u : List UInt8, So u → clB 10 u = true → So u ∧ Lc u := fun u h1 h2 => ⟨h1, clB_lc 10 _ h2⟩
 obtain ⟨s1, s2⟩ := so [59, 10] ⟨_, _, rfl, by decide⟩ (by decide +kernel)
 obtain ⟨s3, s4⟩ := so [46, 10] ⟨_, _, rfl, by decide⟩ (by decide +kernel)
 unfold fnV
 simp only []
 cases decide (0 < (d.params.length : Int)) with
 | true =>
  cases decide (drawV (nxt g 3).s 2 = 0) with
  | true =>
   obtain ⟨x1, x2, x3, x4, x5, x6, x7⟩ := clauseV_nice hc true d hd (drawV g.s 3).toNat (by omega) (nxt (nxt g 3) 2) (by omega) (by omega)
   obtain ⟨y1, y2, y3, y4, y5, y6, y7⟩ := clauseV_nice hc false d hd ((drawV g.s 3).toNat + 1) (by omega) (clauseV c true d (drawV g.s 3).toNat (nxt (nxt g 3) 2)).2 (by omega) (by omega)
   simp only [cond_true]
   exact ⟨Lc.c (Lc.x x1 s1 s2) (Lc.x y1 s3 s4), by simp only [List.length_append, List.length_cons, List.length_nil]; omega, by simp only; omega, by simp only; omega, by simp only; omega, by simp only; omega, by simp only; omega⟩
  | false =>
   obtain ⟨y1, y2, y3, y4, y5, y6, y7⟩ := clauseV_nice hc false d hd ((drawV g.s 3).toNat + 1) (by omega) (nxt (nxt g 3) 2) (by omega) (by omega)
   simp only [cond_true, cond_false]
   exact ⟨Lc.x y1 s3 s4, by simp only [List.length_append, List.length_cons, List.length_nil]; omega, by simp only; omega, by simp only; omega, by simp only; omega, by simp only; omega, by simp only; omega⟩
 | false =>
  obtain ⟨y1, y2, y3, y4, y5, y6, y7⟩ := clauseV_nice hc false d hd ((drawV g.s 3).toNat + 1) (by omega) (nxt g 3) (by omega) (by omega)
  simp only [cond_false]
  exact ⟨Lc.x y1 s3 s4, by simp only [List.length_append, List.length_cons, List.length_nil]; omega, by simp only; omega, by simp only; omega, by simp only; omega, by simp only; omega, by simp only; omega⟩
theorem hdAt_nice (l : List CalD) (hl : ∀ d ∈ l, CalN d ∧ HdOk d) (s : List UInt8) (hs : Lc s) (g : Gn) : ∀ k, k ≤ l.length → NiceC 0 (s.length + 135 * k) g (hdAt l s g k)
 | 0, _ => ⟨hs, by simp only [hdAt]; omega, Int.le_refl _, by show g.k ≤ _; omega, rfl, Nat.le_refl _, fun h => h⟩
 | k + 1, hk => by
  obtain ⟨x1, x2, x3, x4, x5, x6, x7⟩ := hdAt_nice l hl s hs g k (by omega)
  have hd := hl _ (getD_mem (show k < l.length by omega))
  obtain ⟨e1, e2⟩ := headerV_lc hd.1 hd.2
  obtain ⟨a1, a2, a3, a4, a5⟩ := nxt_f (hdAt l s g k).2 3
  simp only [hdAt]
  cases decide (drawV (hdAt l s g k).2.s 3 = 0) with
  | true =>
   simp only [cond_true]
   exact ⟨Lc.c x1 e1, by simp only [List.length_append]; omega, by simp only; omega, by simp only; omega, by simp only; omega, by simp only; omega, by simp only; omega⟩
  | false =>
   simp only [cond_false]
   exact ⟨x1, by simp only; omega, by simp only; omega, by simp only; omega, by simp only; omega, by simp only; omega, by simp only; omega⟩
theorem fnAt_nice {c : Cst} (hc : CstN c) (l : List CalD) (hl : ∀ d ∈ l, CalN d ∧ HdOk d) (s : List UInt8) (hs : Lc s) (g : Gn) (h0 : 0 ≤ g.k) : ∀ k, k ≤ l.length → g.k + 84 * k ≤ 600 → NiceC (84 * k) (s.length + 156 * k) g (fnAt c l s g k)
 | 0, _, _ => ⟨hs, by simp only [fnAt]; omega, Int.le_refl _, by show g.k ≤ _; omega, rfl, Nat.le_refl _, fun h => h⟩
 | k + 1, hk, hb => by
  obtain ⟨x1, x2, x3, x4, x5, x6, x7⟩ := fnAt_nice hc l hl s hs g h0 k (by omega) (by omega)
  have hd := hl _ (getD_mem (show k < l.length by omega))
  obtain ⟨y1, y2, y3, y4, y5, y6, y7⟩ := fnV_nice hc _ hd.1 (fnAt c l s g k).2 (by omega) (by omega)
  simp only [fnAt]
  exact ⟨Lc.c x1 y1, by simp only [List.length_append]; omega, by simp only; omega, by simp only; omega, by simp only; omega, by simp only; omega, by simp only; omega⟩
theorem parN_pos : ∀ (k : Nat) (r : List Int × Gn), (parN k r).2.k = r.2.k ∧ (parN k r).2.s.l.length = r.2.s.l.length ∧ r.2.s.pos ≤ (parN k r).2.s.pos ∧ (r.2.s.pos ≤ r.2.s.l.length → (parN k r).2.s.pos ≤ r.2.s.l.length)
 | 0, r => ⟨rfl, rfl, Nat.le_refl _, fun h => h⟩
 | k + 1, r => by
  obtain ⟨i1, i2, i3, i4⟩ := parN_pos k (r.1 ++ [drawV r.2.s 8], nxt r.2 8)
  obtain ⟨a1, a2, a3, a4, a5⟩ := nxt_f r.2 8
  simp only [parN] at *
  exact ⟨by omega, by omega, by omega, by omega⟩
theorem calsAt_pos (g : Gn) : ∀ i, i ≤ 3 → ((calsAt [] g i).2.k = g.k ∧ (calsAt [] g i).2.s.l.length = g.s.l.length ∧ g.s.pos ≤ (calsAt [] g i).2.s.pos ∧ (g.s.pos ≤ g.s.l.length → (calsAt [] g i).2.s.pos ≤ g.s.l.length)) ∧ ∀ d ∈ (calsAt [] g i).1, CalN d
 | 0, _ => ⟨⟨rfl, rfl, Nat.le_refl _, fun h => h⟩, fun d hd => by cases hd⟩
 | i + 1, hi => by
  obtain ⟨⟨i1, i2, i3, i4⟩, i5⟩ := calsAt_pos g i (by omega)
  generalize hr : calsAt [] g i = r at *
  obtain ⟨a1, a2, a3, a4, a5⟩ := nxt_f r.2 8
  obtain ⟨b1, b2, b3, b4, b5⟩ := nxt_f (nxt r.2 8) 3
  obtain ⟨c1, c2, c3, c4⟩ := parN_pos (drawV (nxt r.2 8).s 3).toNat ([], nxt (nxt r.2 8) 3)
  have hv := drawV_in (nxt r.2 8).s (n := 3) (by omega)
  have hpl : (parN (drawV (nxt r.2 8).s 3).toNat ([], nxt (nxt r.2 8) 3)).1.length ≤ 2 := by
   have len : ∀ (k : Nat) (q : List Int × Gn), (parN k q).1.length = q.1.length + k := by
    intro k
    induction k with
    | zero => intro q; rfl
    | succ k ih => intro q; rw [parN, ih]; simp only [List.length_append, List.length_cons, List.length_nil]; omega
   rw [len]; simp only [List.length_nil]; omega
  simp only [calsAt, hr, calN] at *
  refine ⟨⟨by omega, by omega, by omega, by omega⟩, fun d hd => ?_⟩
  rcases List.mem_append.1 hd with hd | hd
  ·exact i5 d hd
  ·rw [List.mem_singleton.1 hd]
   refine ⟨rfl, ?_, hpl⟩
   have : ∀ i, i < 3 → fghL.getD i [] ∈ fghL := by decide
   exact this i (by omega)
theorem text_nice (l : List Int) (h : InI l) : Lc (textV l) ∧ (textV l).length ≤ 4000 := by
 have hv := drawV_in (gen0 l).s (n := 3) (by omega)
 obtain ⟨a1, a2, a3, a4, a5⟩ := nxt_f (gen0 l) 3
 have hf := modL_fine (gen0 l) (gen0_ok l h)
 obtain ⟨⟨b1, b2, b3, b4⟩, b5⟩ := calsAt_pos (nxt (gen0 l) 3) (drawV (gen0 l).s 3 + 1).toNat (by omega)
 have hm : calsAt [] (nxt (gen0 l) 3) (drawV (gen0 l).s 3 + 1).toNat = modL (gen0 l) := rfl
 rw [hm] at b1 b2 b3 b4 b5
 have hl : ∀ d ∈ (modL (gen0 l)).1, CalN d ∧ HdOk d := fun d hd => ⟨b5 d hd, (hf.2.2 d hd).2⟩
 have hlen : (modL (gen0 l)).1.length ≤ 3 := by omega
 have hj : Lx (commaV ((modL (gen0 l)).1.map expV)) := (sepAt_lx [] Lc.nil _ (fun u hu => by obtain ⟨d, hd, rfl⟩ := List.mem_map.1 hu; exact (head_txt (b5 d hd)).2.2.1) _ (Nat.le_refl _)).1
 have hjl : (commaV ((modL (gen0 l)).1.map expV)).length ≤ 15 := by
  have h1 := sepAt_len [] ((modL (gen0 l)).1.map expV) 3 (fun u hu => by obtain ⟨d, hd, rfl⟩ := List.mem_map.1 hu; rw [(head_txt (b5 d hd)).2.2.2]; exact Nat.le_refl _) _ (Nat.le_refl _)
  rw [List.length_map, List.length_nil] at h1
  have h2 : (modL (gen0 l)).1.length * (3 + 2) ≤ 3 * (3 + 2) := Nat.mul_le_mul_right _ hlen
  unfold commaV
  rw [List.length_map]; omega
 have hs : Lc (modS [109] (gen0 l)) := by
  unfold modS
  have e : [109, 111, 100, 117, 108, 101, 32] ++ [109] ++ [46, 10] ++ ([101, 120, 112, 111, 114, 116, 32] ++ commaV ((modL (gen0 l)).1.map expV) ++ [46, 10]) = ([109, 111, 100, 117, 108, 101, 32] ++ [109] ++ [46, 10] ++ [101, 120, 112, 111, 114, 116, 32]) ++ (commaV ((modL (gen0 l)).1.map expV) ++ [46, 10]) := by simp
  rw [e]
  exact Lc.c (clB_lc 80 _ (by decide +kernel)) (Lc.x hj ⟨_, _, rfl, by decide⟩ (clB_lc 10 _ (by decide +kernel)))
 have hsl : (modS [109] (gen0 l)).length ≤ 34 := by
  unfold modS
  simp only [List.length_append, List.length_cons, List.length_nil]; omega
 have g0k : (gen0 l).k = 0 := rfl
 have g0p : (gen0 l).s.pos = 0 := rfl
 have g0n : (gen0 l).s.l.length ≤ 50 := by show (l.take 50).length ≤ 50; rw [List.length_take]; omega
 obtain ⟨x1, x2, x3, x4, x5, x6, x7⟩ := hdAt_nice (modL (gen0 l)).1 hl (modS [109] (gen0 l)) hs (modL (gen0 l)).2 (modL (gen0 l)).1.length (Nat.le_refl _)
 have hc : CstN (modC (Cst0 0 true) (gen0 l)) := b5
 obtain ⟨y1, y2, y3, y4, y5, y6, y7⟩ := fnAt_nice hc (modL (gen0 l)).1 hl (hdAt (modL (gen0 l)).1 (modS [109] (gen0 l)) (modL (gen0 l)).2 (modL (gen0 l)).1.length).1 x1 (hdAt (modL (gen0 l)).1 (modS [109] (gen0 l)) (modL (gen0 l)).2 (modL (gen0 l)).1.length).2 (by omega) (modL (gen0 l)).1.length (Nat.le_refl _) (by omega)
 exact ⟨y1, by unfold textV moduleV; simp only []; omega⟩
/-- the text of a module that is made from numbers has no fault -/
theorem text_scan (l : List Int) (h : InI l) : (scanR (textV l)).2.2 = 0 := by
 obtain ⟨h1, h2⟩ := text_nice l h
 have := h1 [] 0 (.nil _)
 rw [List.append_nil, Nat.add_zero] at this
 exact eat_scan h2 this
def sepL : List (List UInt8) := [[32], [10, 9, 32], [37, 110, 111, 116, 101, 32, 45, 62, 10], [32, 37, 32, 34, 13, 10], [13]]
/-- a text that is skipped before a token -/
structure Skp (u : List UInt8) : Prop where
 calm : ∀ z, Calm (u ++ z)
 skip : ∀ b w, sepI (b : UInt8).toNat = false → decide ((b.toNat : Int) = 37) = false → skipL (u ++ b :: w) = u.length
theorem skipL_sep {b : UInt8} {l : List UInt8} (h : sepI b.toNat = true) : skipL (b :: l) = 1 + skipL l := by rw [skipL, h, cond_true]
theorem skipL_com (l : List UInt8) : skipL (37 :: l) = 1 + cntW noLf l + skipL (l.drop (cntW noLf l)) := by
 rw [skipL, show sepI ((37 : UInt8).toNat : Int) = false by decide, show decide (((37 : UInt8).toNat : Int) = 37) = true by decide, cond_false, cond_true]
theorem skp_all : ∀ u ∈ sepL, Skp u := by
 intro u hu
 have c1 : ∀ (c : UInt8) (r : List UInt8), (sepI c.toNat = true ∨ c = 37) → ∀ z, Calm (c :: r ++ z) := fun c r h z d z' e => by cases e; exact h
 simp only [sepL, List.mem_cons, List.not_mem_nil, or_false] at hu
 rcases hu with rfl | rfl | rfl | rfl | rfl
 ·refine ⟨c1 _ _ (by decide), fun b w h1 h2 => ?_⟩
  rw [List.cons_append, skipL_sep (by decide), List.nil_append, skipL_non h1 h2]; rfl
 ·refine ⟨c1 _ _ (by decide), fun b w h1 h2 => ?_⟩
  simp only [List.cons_append, List.nil_append]
  rw [skipL_sep (by decide), skipL_sep (by decide), skipL_sep (by decide), skipL_non h1 h2]; rfl
 ·refine ⟨c1 _ _ (by decide), fun b w h1 h2 => ?_⟩
  simp only [List.cons_append, List.nil_append]
  have hc : cntW noLf (110 :: 111 :: 116 :: 101 :: 32 :: 45 :: 62 :: 10 :: b :: w) = 7 := rfl
  rw [skipL_com, hc]
  simp only [List.drop_succ_cons, List.drop_zero]
  rw [skipL_sep (by decide), skipL_non h1 h2]; rfl
 ·refine ⟨c1 _ _ (by decide), fun b w h1 h2 => ?_⟩
  simp only [List.cons_append, List.nil_append]
  have hc : cntW noLf (32 :: 34 :: 13 :: 10 :: b :: w) = 3 := rfl
  rw [skipL_sep (by decide), skipL_com, hc]
  simp only [List.drop_succ_cons, List.drop_zero]
  rw [skipL_sep (by decide), skipL_non h1 h2]; rfl
 ·refine ⟨c1 _ _ (by decide), fun b w h1 h2 => ?_⟩
  rw [List.cons_append, skipL_sep (by decide), List.nil_append, skipL_non h1 h2]; rfl
def tlT (f : Nat → List UInt8) : Nat → List Tok → List UInt8
 | _, [] => []
 | i, t :: l => f i ++ (txtV t ++ tlT f (i + 1) l)
theorem tlT_snoc (f : Nat → List UInt8) (u : Tok) : ∀ (l : List Tok) (i : Nat), tlT f i (l ++ [u]) = tlT f i l ++ (f (i + l.length) ++ txtV u)
 | [], i => by simp [tlT]
 | t :: l, i => by
  rw [List.cons_append, tlT, tlT, tlT_snoc f u l (i + 1), List.length_cons, show i + 1 + l.length = i + (l.length + 1) by omega]
  simp
def sjT (f : Nat → List UInt8) (l : List Tok) : Nat → List UInt8
 | 0 => []
 | k + 1 => (bif decide (k = 0) then sjT f l k else sjT f l k ++ f k) ++ txtV (l.getD k zeroTok)
theorem sjT_cons (f : Nat → List UInt8) (t : Tok) (l : List Tok) : ∀ k, k ≤ l.length → sjT f (t :: l) (k + 1) = txtV t ++ tlT f 1 (l.take k)
 | 0, _ => by simp [sjT, tlT]
 | k + 1, hk => by
  have ih := sjT_cons f t l k (by omega)
  have hkl : (l.take k).length = k := by rw [List.length_take]; omega
  have hg : (t :: l).getD (k + 1) zeroTok = l[k] := by
   rw [List.getD_eq_getElem?_getD, List.getElem?_cons_succ, List.getElem?_eq_getElem (show k < l.length by omega)]; rfl
  have ht : l.take (k + 1) = l.take k ++ [l[k]] := by rw [List.take_add_one, List.getElem?_eq_getElem (show k < l.length by omega)]; rfl
  have hs : sjT f (t :: l) (k + 1 + 1) = (sjT f (t :: l) (k + 1) ++ f (k + 1)) ++ txtV ((t :: l).getD (k + 1) zeroTok) := rfl
  rw [hs, ih, ht, tlT_snoc, hkl, hg, Nat.add_comm 1 k]; simp
theorem back_chain2 (f : Nat → List UInt8) (hf : ∀ i, Skp (f i)) : ∀ (l : List Tok) (t : Tok) (pre : List UInt8) (i : Nat), IsT t → (∀ u ∈ l, IsT u) → ∃ l', Chain (pre ++ (txtV t ++ tlT f i l)) pre.length l' ∧ l'.map (er true) = (t :: l).map (er true)
 | l, t, pre, i, ht, hl => by
  obtain ⟨b, r, n, hr, e1, e2, hb, hz⟩ := isT_ok ht
  have hcalm : Calm (tlT f i l) := by
   cases l with
   | nil => exact calm_nil
   | cons u l => exact (hf i).calm _
  have hd : (pre ++ (txtV t ++ tlT f i l)).drop pre.length = b :: (r.take (n - 1) ++ tlT f i l) := by
   rw [List.drop_left, e1]; rfl
  have hlex := hz (tlT f i l) hcalm
  have hd2 : (pre ++ (txtV t ++ tlT f i l)).drop (pre.length + n) = tlT f i l := by
   rw [← List.drop_drop, List.drop_left, e2, List.drop_left]
  have hsk : skipTo (pre ++ (txtV t ++ tlT f i l)) (pre.length + n) = pre.length + n + skipL (tlT f i l) := by unfold skipTo; rw [hd2]
  cases l with
  | nil =>
   refine ⟨[{ t with at_ := (pre.length : Int) }], ⟨b, _, n, hd, by exact hlex, rfl, ?_⟩, rfl⟩
   show (pre ++ (txtV t ++ tlT f i [])).length ≤ _
   rw [hsk]
   simp only [List.length_append, show tlT f i [] = [] from rfl, List.length_nil]; omega
  | cons u l =>
   obtain ⟨b', r', n', hr', e1', e2', hb', hz'⟩ := isT_ok (hl u List.mem_cons_self)
   have h1 : skipL (tlT f i (u :: l)) = (f i).length := by
    rw [tlT, e1', List.cons_append, (hf i).skip _ _ hb'.1 hb'.2]
   rw [h1] at hsk
   obtain ⟨l', c1, c2⟩ := back_chain2 f hf l u (pre ++ (txtV t ++ f i)) (i + 1) (hl u List.mem_cons_self) (fun v hv => hl v (List.mem_cons_of_mem _ hv))
   have e : pre ++ (txtV t ++ f i) ++ (txtV u ++ tlT f (i + 1) l) = pre ++ (txtV t ++ tlT f i (u :: l)) := by rw [tlT]; simp
   have ek : (pre ++ (txtV t ++ f i)).length = pre.length + n + (f i).length := by simp only [List.length_append]; omega
   rw [e, ek] at c1
   refine ⟨{ t with at_ := (pre.length : Int) } :: l', ⟨b, _, n, hd, by exact hlex, rfl, by rw [hsk]; exact c1⟩, ?_⟩
   rw [List.map_cons, c2]; rfl
theorem sep_scan (f : Nat → List UInt8) (hf : ∀ i, Skp (f i)) (s : List UInt8) (h : (scanR s).2.2 = 0) (hl : (sjT f (scanR s).1 (scanR s).1.length).length ≤ 4000) :
  (scanR (sjT f (scanR s).1 (scanR s).1.length)).2.2 = 0 ∧ (scanR (sjT f (scanR s).1 (scanR s).1.length)).1.map (er true) = (scanR s).1.map (er true) := by
 obtain ⟨_, hc⟩ := scanR_ok h
 have hi := chain_isT s _ _ hc
 generalize (scanR s).1 = x at hl hi
 cases x with
 | nil =>
  have : scanR (sjT f [] ([] : List Tok).length) = ([], 0, 0) := scanR_of (by exact hl) (by show ([] : List UInt8).length ≤ _; exact Nat.zero_le _)
  rw [this]; exact ⟨rfl, rfl⟩
 | cons t l =>
  rw [List.length_cons, sjT_cons f t l l.length (Nat.le_refl _), List.take_length] at hl ⊢
  obtain ⟨l', c1, c2⟩ := back_chain2 f hf l t [] 1 (hi t List.mem_cons_self) (fun u hu => hi u (List.mem_cons_of_mem _ hu))
  rw [List.nil_append] at c1
  obtain ⟨b, r, n, hr, e1, e2, hb, hz⟩ := isT_ok (hi t List.mem_cons_self)
  have h0 : skipTo (txtV t ++ tlT f 1 l) 0 = 0 := by
   unfold skipTo
   rw [List.drop_zero, e1, List.cons_append, skipL_non hb.1 hb.2]
  have := scanR_of (l := l') hl (by rw [h0]; exact c1)
  rw [this]; exact ⟨rfl, c2⟩
theorem sjT_len (f : Nat → List UInt8) (hf : ∀ i, (f i).length ≤ 9) (l : List Tok) : ∀ k, k ≤ l.length → (sjT f l k).length ≤ 9 * k + (spT (l.take k)).length
 | 0, _ => by simp [sjT]
 | k + 1, hk => by
  have ih := sjT_len f hf l k (by omega)
  have hg : l.getD k zeroTok = l[k] := by rw [List.getD_eq_getElem?_getD, List.getElem?_eq_getElem (show k < l.length by omega)]; rfl
  have ht : l.take (k + 1) = l.take k ++ [l[k]] := by rw [List.take_add_one, List.getElem?_eq_getElem (show k < l.length by omega)]; rfl
  have hb : (bif decide (k = 0) then sjT f l k else sjT f l k ++ f k).length ≤ (sjT f l k).length + 9 := by
   have := hf k
   cases decide (k = 0)
   ·rw [cond_false, List.length_append]; omega
   ·rw [cond_true]; omega
  have hsp : (spT (l.take k ++ [l[k]])).length = (spT (l.take k)).length + (1 + (txtV l[k]).length) := by
   unfold spT
   rw [List.flatMap_append, List.length_append]; simp; omega
  rw [ht, hsp, sjT, List.length_append, hg]; omega
/-- which separator stands ahead of token i -/
def sepF (seps : List Int) (i : Nat) : List UInt8 := match seps[i]? with
 | some n => sepL.getD ((IntKind.u64.wrap n).tmod 5).toNat []
 | none => [32]
theorem sepF_mem (seps : List Int) (i : Nat) : sepF seps i ∈ sepL := by
 unfold sepF
 cases seps[i]? with
 | none => exact List.mem_cons_self
 | some n =>
  have hb := mod_bd n 5 (by decide)
  simp only []
  rw [List.getD_eq_getElem?_getD, List.getElem?_eq_getElem (show ((IntKind.u64.wrap n).tmod 5).toNat < sepL.length by show _ < 5; omega)]
  exact List.getElem_mem _
theorem sepF_len (seps : List Int) (i : Nat) : (sepF seps i).length ≤ 9 := by
 have : ∀ u ∈ sepL, u.length ≤ 9 := by decide
 exact this _ (sepF_mem seps i)
theorem sep_bd (s : List UInt8) (h : (scanR s).2.2 = 0) (seps : List Int) (k : Nat) (hk : k ≤ (scanR s).1.length) : (sjT (sepF seps) (scanR s).1 k).length ≤ 50000 := by
 obtain ⟨h1, h2⟩ := scanR_ok h
 obtain ⟨i1, i2, i3⟩ := chain_bd s h1 _ _ (skipTo_le (Nat.zero_le _)) h2
 have hb := sjT_len (sepF seps) (sepF_len seps) (scanR s).1 k hk
 have ht : (spT ((scanR s).1.take k)).length ≤ (spT (scanR s).1).length := by
  conv => rhs; rw [← List.take_append_drop k (scanR s).1]
  unfold spT
  rw [List.flatMap_append, List.length_append]; omega
 omega
end Go.Proofs.YtogponhonjiidaaDoor
set_option linter.unusedSimpArgs false
set_option linter.unusedVariables false
set_option maxRecDepth 20000
set_option maxHeartbeats 16000000
namespace Go.Proofs.YtogponhonjiidaaDoor
open Go Go.Sx
open Nat renaming reduceBEq → zA, reduceBNe → zB, reduceAdd → zC, reduceSub → zD, reduceMul → zE, reduceLeDiff → zF, reduceLT → zG, reduceEqDiff → zH
open Int renaming reduceToNat → zI, reduceLE → zJ, reduceLT → zK, reduceEq → zL
open Bool renaming not_eq_true' → zM, not_eq_false' → zN
theorem spoil_same (s : List UInt8) : spoilV s 0 5 0 = s := by
 unfold spoilV
 have h : (IntKind.u64.wrap 5).tmod 6 = 5 := by decide
 rw [h]
 cases decide ((s.length : Int) = 0) <;> rfl
theorem tokenSeparators_c (l : List Int) (hl : l.length ≤ 9223372036854775807) (h : InI l) (seps : List Int) (hsl : seps.length ≤ 9223372036854775807) : PC Tryd.prog 5 [.one (.dat (.sl 1 (l.map encZ))), .one (.dat (.sl 1 (seps.map encI)))] (Bo true) := by
 have htl := textV_len l h
 have hm := made_c l hl h 0 5 0
 rw [spoil_same] at hm
 have hc0 := text_scan l h
 have h1 := pscan_c (textV l) (by omega)
 have haw := awake_c
 obtain ⟨f1, f2, f3⟩ := tok_facts (textV l) hc0
 have hbd := sep_bd (textV l) hc0 seps
 have hss := sep_scan (sepF seps) (fun i => skp_all _ (sepF_mem seps i)) (textV l) hc0
 have hc : decide ((scanR (textV l)).2.2 = 0) = true := by rw [hc0]; rfl
 have hz : ((0 : UInt8).toNat : Int) = 0 := rfl
 rw [hz] at hm
 generalize scanR (textV l) = R at *
 obtain ⟨L, at0, e0⟩ := R
 simp only at hc0 f1 f2 f3 hbd hss hc
 have h36 : IntKind.u64.wrap 5 = 5 := by decide
 refine PCB.of_body Tryd.func5 rfl (by decide) Tryd.ntmps5 Tryd.results5 rfl rfl rfl ?_ rfl rfl
 repeat' (first | (simp only [go_sem, zA, zB, zC, zD, zE, zF, zG, reduceCtorEq, zH, zI, zJ, zK, zL, List.length_map, hc]; all_goals fail_if_success guard_target =ₛ False) | (with_reducible first | ((first | refine seqVC_stepN rfl ?_ | refine seqVC_stepG rfl (by with_unfolding_all rfl) ?_ | refine AWP.seq ?_ | refine AWP.seqR (by kernel_rfl) ?_); intro K hK) | ((first | refine hK _ _ _ ?_ | refine hK _ _ ?_ | refine hK _ ?_); clear hK K) | refine seqVC_nil ?_ | refine AWP.block ?_ | (refine AWP.cond (by with_unfolding_all rfl) ?_ ?_ <;> intro h <;> (try simp only [zM, zN] at h) <;> try exact absurd h (by decide)) | refine AWP.skip ?_ | refine AWP.ret ?_ | refine AWP.exit ?_ | (refine ⟨fun h => ?_, fun h => ?_⟩ <;> (try simp only [zM, zN] at h) <;> try simp only [h]) | refine ⟨_, hm, ?_⟩ | refine ⟨_, h1, ?_⟩ | refine Or.inl ?_) | (clear hK K))
 refine AWP.len 24 rfl fun hlen0 => ?_
 (try rw [List.length_map] at hlen0)
 refine AWP.range (S := List UInt8) (L) encTok (fun k s => (26, I .i64 (k : Nat)) :: [(8, S s)]) (fun k s => []) [1, 5, 24, 25] [] (fun k s => s = sjT (sepF seps) L k) ([]) (by simp only [go_sem, zA, zB, zC, zD, zE, zF, zG, reduceCtorEq, zH, zI, zJ, zK, zL]; exact Gh.to [] (by repeat (first | exact trivial | refine ⟨rfl, ?_⟩ | refine ⟨by (simp only [go_sem, zA, zB, zC, zD, zE, zF, zG, reduceCtorEq, zH, zI, zJ, zK, zL, List.length_append, List.length_map, List.length_cons, List.length_nil, Nat.zero_add]) <;> rfl, ?_⟩)) (by repeat (first | exact trivial | refine ⟨rfl, ?_⟩ | refine ⟨by (simp only [go_sem, zA, zB, zC, zD, zE, zF, zG, reduceCtorEq, zH, zI, zJ, zK, zL, List.length_append, List.length_map, List.length_cons, List.length_nil, Nat.zero_add]) <;> rfl, ?_⟩)) rfl rfl rfl) ?_ ?_ ?_
 ·rfl
 ·intro k s t hlt hx hx' hbb hok
  simp only [go_sem, zA, zB, zC, zD, zE, zF, zG, reduceCtorEq, zH, zI, zJ, zK, zL]
  have ht := f1 t (List.mem_of_getElem? hx)
  have htl := txt_len ht
  have hto := textOf_c t ht
  unfold encTok at hto
  have hsb := hbd k (by omega)
  rw [← hok] at hsb
  have hmax : 1000000000 ≤ maxLen := by unfold maxLen; omega
  have hsl9 := sepF_len seps k
  have hg : L.getD k zeroTok = t := by rw [List.getD_eq_getElem?_getD, hx]; rfl
  have hsuc : sjT (sepF seps) L (k + 1) = (bif decide (k = 0) then s else s ++ sepF seps k) ++ txtV t := by rw [sjT, ← hok, hg]
  by_cases hk0 : k = 0
  ·have hd0 : decide (0 < (k : Int)) = false := by rw [decide_eq_false_iff_not]; omega
   rw [show decide (k = 0) = true from by simp [hk0], cond_true] at hsuc
   repeat' (first | (simp only [go_sem, zA, zB, zC, zD, zE, zF, zG, reduceCtorEq, zH, zI, zJ, zK, zL, List.length_map, hbb, encTok, hd0]; all_goals fail_if_success guard_target =ₛ False) | (with_reducible first | ((first | refine seqVC_stepN rfl ?_ | refine seqVC_stepG rfl (by with_unfolding_all rfl) ?_ | refine AWP.seq ?_ | refine AWP.seqR (by kernel_rfl) ?_); intro K hK) | ((first | refine hK _ _ _ ?_ | refine hK _ _ ?_ | refine hK _ ?_); clear hK K) | refine seqVC_nil ?_ | refine AWP.block ?_ | (refine AWP.cond (by with_unfolding_all rfl) ?_ ?_ <;> intro h <;> (try simp only [zM, zN] at h) <;> try exact absurd h (by decide)) | refine AWP.skip ?_ | refine AWP.ret ?_ | refine AWP.exit ?_ | (refine ⟨fun h => ?_, fun h => ?_⟩ <;> (try simp only [zM, zN] at h) <;> try simp only [h]) | refine ⟨_, hto, ?_⟩ | refine ⟨by omega, encTok t, hx', ?_⟩ | refine ⟨encTok t, hx', ?_⟩ | (refine ⟨(by first | omega | (simp only [List.length_append, List.length_map, List.length_take, List.length_drop, List.length_cons, List.length_nil, List.length_replicate]; omega) : _ ≤ _), ?_⟩) | refine ⟨by omega, by omega, ?_⟩ | refine Or.inl ?_) | (clear hK K))
   all_goals (rw [wrap_succ hlt hlen0, hsuc])
   all_goals exact Gh.to [] (by repeat (first | exact trivial | refine ⟨rfl, ?_⟩ | refine ⟨by (simp only [go_sem, zA, zB, zC, zD, zE, zF, zG, reduceCtorEq, zH, zI, zJ, zK, zL, List.length_append, List.length_map, List.length_cons, List.length_nil, Nat.zero_add]) <;> rfl, ?_⟩)) (by repeat (first | exact trivial | refine ⟨rfl, ?_⟩ | refine ⟨by (simp only [go_sem, zA, zB, zC, zD, zE, zF, zG, reduceCtorEq, zH, zI, zJ, zK, zL, List.length_append, List.length_map, List.length_cons, List.length_nil, Nat.zero_add]) <;> rfl, ?_⟩)) rfl rfl rfl
  ·have hd0 : decide (0 < (k : Int)) = true := by rw [decide_eq_true_eq]; omega
   rw [show decide (k = 0) = false from by simp [hk0], cond_false] at hsuc
   by_cases hks : k < seps.length
   ·have hdk : decide ((k : Int) < (seps.length : Int)) = true := by rw [decide_eq_true_eq]; omega
    obtain ⟨n, hn⟩ : ∃ n, seps[k]? = some n := ⟨seps[k], List.getElem?_eq_getElem hks⟩
    have hn' : (seps.map encI)[k]? = some (encI n) := by rw [List.getElem?_map, hn]; rfl
    have hb := mod_bd n 5 (by decide)
    have hF : sepF seps k = sepL.getD ((IntKind.u64.wrap n).tmod 5).toNat [] := by unfold sepF; rw [hn]
    have hsep : (sepL.map encStr)[((IntKind.u64.wrap n).tmod 5).toNat]? = some (encStr (sepF seps k)) := by
     rw [hF]
     rw [List.getElem?_map, List.getElem?_eq_getElem (show ((IntKind.u64.wrap n).tmod 5).toNat < sepL.length by show _ < 5; omega), List.getD_eq_getElem?_getD, List.getElem?_eq_getElem (show ((IntKind.u64.wrap n).tmod 5).toNat < sepL.length by show _ < 5; omega)]; rfl
    simp only [sepL, List.map_cons, List.map_nil, encStr] at hsep
    repeat' (first | (simp only [go_sem, zA, zB, zC, zD, zE, zF, zG, reduceCtorEq, zH, zI, zJ, zK, zL, List.length_map, List.length_cons, List.length_nil, hbb, encTok, encI, hd0, hdk, h36]; all_goals fail_if_success guard_target =ₛ False) | (with_reducible first | ((first | refine seqVC_stepN rfl ?_ | refine seqVC_stepG rfl (by with_unfolding_all rfl) ?_ | refine AWP.seq ?_ | refine AWP.seqR (by kernel_rfl) ?_); intro K hK) | ((first | refine hK _ _ _ ?_ | refine hK _ _ ?_ | refine hK _ ?_); clear hK K) | refine seqVC_nil ?_ | refine AWP.block ?_ | (refine AWP.cond (by with_unfolding_all rfl) ?_ ?_ <;> intro h <;> (try simp only [zM, zN] at h) <;> try exact absurd h (by decide)) | refine AWP.skip ?_ | refine AWP.ret ?_ | refine AWP.exit ?_ | (refine ⟨fun h => ?_, fun h => ?_⟩ <;> (try simp only [zM, zN] at h) <;> try simp only [h]) | refine ⟨_, hto, ?_⟩ | refine ⟨by omega, encTok t, hx', ?_⟩ | refine ⟨encTok t, hx', ?_⟩ | refine ⟨by omega, encI n, hn', ?_⟩ | refine ⟨encI n, hn', ?_⟩ | refine ⟨by decide, ?_⟩ | (refine ⟨(by first | omega | (simp only [List.length_append, List.length_map, List.length_take, List.length_drop, List.length_cons, List.length_nil, List.length_replicate]; omega) : _ ≤ _), ?_⟩) | refine ⟨by omega, by omega, ?_⟩) | ( refine ⟨hb.1, _, hsep, ?_⟩) | ( refine ⟨_, hsep, ?_⟩) | (with_reducible first | refine Or.inl ?_) | (clear hK K))
    all_goals (rw [wrap_succ hlt hlen0, hsuc])
    all_goals exact Gh.to [] (by repeat (first | exact trivial | refine ⟨rfl, ?_⟩ | refine ⟨by (simp only [go_sem, zA, zB, zC, zD, zE, zF, zG, reduceCtorEq, zH, zI, zJ, zK, zL, List.length_append, List.length_map, List.length_cons, List.length_nil, Nat.zero_add]) <;> rfl, ?_⟩)) (by repeat (first | exact trivial | refine ⟨rfl, ?_⟩ | refine ⟨by (simp only [go_sem, zA, zB, zC, zD, zE, zF, zG, reduceCtorEq, zH, zI, zJ, zK, zL, List.length_append, List.length_map, List.length_cons, List.length_nil, Nat.zero_add]) <;> rfl, ?_⟩)) rfl rfl rfl
   ·have hdk : decide ((k : Int) < (seps.length : Int)) = false := by rw [decide_eq_false_iff_not]; omega
    have hF : sepF seps k = [32] := by unfold sepF; rw [List.getElem?_eq_none (by omega)]
    rw [hF] at hsuc
    repeat' (first | (simp only [go_sem, zA, zB, zC, zD, zE, zF, zG, reduceCtorEq, zH, zI, zJ, zK, zL, List.length_map, List.length_cons, List.length_nil, hbb, encTok, encI, hd0, hdk, h36]; all_goals fail_if_success guard_target =ₛ False) | (with_reducible first | ((first | refine seqVC_stepN rfl ?_ | refine seqVC_stepG rfl (by with_unfolding_all rfl) ?_ | refine AWP.seq ?_ | refine AWP.seqR (by kernel_rfl) ?_); intro K hK) | ((first | refine hK _ _ _ ?_ | refine hK _ _ ?_ | refine hK _ ?_); clear hK K) | refine seqVC_nil ?_ | refine AWP.block ?_ | (refine AWP.cond (by with_unfolding_all rfl) ?_ ?_ <;> intro h <;> (try simp only [zM, zN] at h) <;> try exact absurd h (by decide)) | refine AWP.skip ?_ | refine AWP.ret ?_ | refine AWP.exit ?_ | (refine ⟨fun h => ?_, fun h => ?_⟩ <;> (try simp only [zM, zN] at h) <;> try simp only [h]) | refine ⟨_, hto, ?_⟩ | refine ⟨by omega, encTok t, hx', ?_⟩ | refine ⟨encTok t, hx', ?_⟩ | refine ⟨by decide, _, rfl, ?_⟩ | refine ⟨_, rfl, ?_⟩ | (refine ⟨(by first | omega | (simp only [List.length_append, List.length_map, List.length_take, List.length_drop, List.length_cons, List.length_nil, List.length_replicate]; omega) : _ ≤ _), ?_⟩) | refine ⟨by omega, by omega, ?_⟩ | refine Or.inl ?_) | (clear hK K))
    all_goals (rw [wrap_succ hlt hlen0, hsuc])
    all_goals exact Gh.to [] (by repeat (first | exact trivial | refine ⟨rfl, ?_⟩ | refine ⟨by (simp only [go_sem, zA, zB, zC, zD, zE, zF, zG, reduceCtorEq, zH, zI, zJ, zK, zL, List.length_append, List.length_map, List.length_cons, List.length_nil, Nat.zero_add]) <;> rfl, ?_⟩)) (by repeat (first | exact trivial | refine ⟨rfl, ?_⟩ | refine ⟨by (simp only [go_sem, zA, zB, zC, zD, zE, zF, zG, reduceCtorEq, zH, zI, zJ, zK, zL, List.length_append, List.length_map, List.length_cons, List.length_nil, Nat.zero_add]) <;> rfl, ?_⟩)) rfl rfl rfl
 ·intro s hbb hok
  simp only [go_sem, zA, zB, zC, zD, zE, zF, zG, reduceCtorEq, zH, zI, zJ, zK, zL]
  have hsb := hbd L.length (Nat.le_refl _)
  rw [← hok] at hsb hss
  have h3 := pscan_c s (by omega)
  cases hle : decide (4000 < (s.length : Int)) with
  | true =>
   repeat' (first | (simp only [go_sem, zA, zB, zC, zD, zE, zF, zG, reduceCtorEq, zH, zI, zJ, zK, zL, List.length_map, hbb, hle]; all_goals fail_if_success guard_target =ₛ False) | (with_reducible first | ((first | refine seqVC_stepN rfl ?_ | refine seqVC_stepG rfl (by with_unfolding_all rfl) ?_ | refine AWP.seq ?_ | refine AWP.seqR (by kernel_rfl) ?_); intro K hK) | ((first | refine hK _ _ _ ?_ | refine hK _ _ ?_ | refine hK _ ?_); clear hK K) | refine seqVC_nil ?_ | refine AWP.block ?_ | (refine AWP.cond (by with_unfolding_all rfl) ?_ ?_ <;> intro h <;> (try simp only [zM, zN] at h) <;> try exact absurd h (by decide)) | refine AWP.skip ?_ | refine AWP.ret ?_ | refine AWP.exit ?_ | (refine ⟨fun h => ?_, fun h => ?_⟩ <;> (try simp only [zM, zN] at h) <;> try simp only [h]) | refine ⟨_, h3, ?_⟩ | refine Or.inl ?_) | (clear hK K))
   all_goals exact fun x hx => hx
  | false =>
   obtain ⟨b1, b2⟩ := hss (by rw [decide_eq_false_iff_not] at hle; omega)
   have hb1 : decide ((scanR s).2.2 = 0) = true := by rw [b1]; rfl
   have h4 := same_c L (scanR s).1 true (by omega) b2.symm
   repeat' (first | (simp only [go_sem, zA, zB, zC, zD, zE, zF, zG, reduceCtorEq, zH, zI, zJ, zK, zL, List.length_map, hbb, hle, hb1]; all_goals fail_if_success guard_target =ₛ False) | (with_reducible first | ((first | refine seqVC_stepN rfl ?_ | refine seqVC_stepG rfl (by with_unfolding_all rfl) ?_ | refine AWP.seq ?_ | refine AWP.seqR (by kernel_rfl) ?_); intro K hK) | ((first | refine hK _ _ _ ?_ | refine hK _ _ ?_ | refine hK _ ?_); clear hK K) | refine seqVC_nil ?_ | refine AWP.block ?_ | (refine AWP.cond (by with_unfolding_all rfl) ?_ ?_ <;> intro h <;> (try simp only [zM, zN] at h) <;> try exact absurd h (by decide)) | refine AWP.skip ?_ | refine AWP.ret ?_ | refine AWP.exit ?_ | (refine ⟨fun h => ?_, fun h => ?_⟩ <;> (try simp only [zM, zN] at h) <;> try simp only [h]) | refine ⟨_, h3, ?_⟩ | refine ⟨_, h4, ?_⟩ | refine ⟨_, haw, ?_⟩ | refine Or.inl ?_) | (clear hK K))
   all_goals exact fun x hx => hx
end Go.Proofs.YtogponhonjiidaaDoor

