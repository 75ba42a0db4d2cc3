/- Lemmas; conditions: as each states. -/
import Derived.Test.YtajfdbdklphonaaGreatDm12a
open Go.Proofs.Tryz renaming prog → zP
open List renaming length_append → lA, length_map → lB, length_cons → lC, length_nil → lD, map_nil → lF, take_succ_cons → lG, take_length → lK, mem_of_getElem? → lP
open Go.Sx.AWP renaming range → xC, len → xF
open Nat renaming reduceBEq → D, reduceBNe → E, reduceAdd → H, reduceSub → J, reduceMul → N, reduceLeDiff → O, reduceLT → U, reduceEqDiff → V
open Int renaming reduceToNat → W, reduceLE → Y, reduceLT → Z, reduceEq → zL
set_option linter.unusedVariables false
set_option linter.unusedSimpArgs false
set_option maxRecDepth 20000
set_option maxHeartbeats 16000000
namespace Go.Proofs.YtajfdbdklphonaaGreat
open Go Go.Sx
inductive OkN : Pat → Dat → Prop
  | mk {g : Pat} {d : Dat} (h7 : g.kind = 7 ∨ g.kind = 8 → g.kids.length ≤ d.kids.length)
      (h9 : g.kind = 9 → g.kids.length ≤ g.keys.length ∧ d.kind = 8 ∧ d.keys.length = d.kids.length ∧ ∀ k ∈ g.keys, 0 ≤ findI (fun x => sameK k x) 0 d.keys)
      (hk : ∀ i k, g.kids[i]? = some k → OkN k (partD g.kind g.keys d i)) : OkN g d
theorem OkN.i7 {g : Pat} {d : Dat} (h : OkN g d) (hk : g.kind = 7 ∨ g.kind = 8) : g.kids.length ≤ d.kids.length := by cases h with | mk h7 h9 hk' => exact h7 hk
theorem OkN.i9 {g : Pat} {d : Dat} (h : OkN g d) (hk : g.kind = 9) : g.kids.length ≤ g.keys.length ∧ d.kind = 8 ∧ d.keys.length = d.kids.length ∧ ∀ k ∈ g.keys, 0 ≤ findI (fun x => sameK k x) 0 d.keys := by cases h with | mk h7 h9 hk' => exact h9 hk
theorem OkN.kid {g : Pat} {d : Dat} (h : OkN g d) : ∀ i k, g.kids[i]? = some k → OkN k (partD g.kind g.keys d i) := by cases h with | mk h7 h9 hk => exact hk
theorem namDs_take (f : Nat → Dat) : ∀ (l : List Pat) (i k : Nat) (x : Pat), l[k]? = some x → namDs (l.take (k + 1)) f i = namDs (l.take k) f i ++ namD x (f (i + k))
 | [], i, k, x, h => by simp at h
 | g :: l, i, 0, x, h => by
  simp only [List.getElem?_cons_zero, Option.some.injEq] at h; subst h
  simp only [lG, List.take_zero, namDs, List.append_nil, List.nil_append, Nat.add_zero]
 | g :: l, i, k + 1, x, h => by
  simp only [List.getElem?_cons_succ] at h
  rw [lG, lG, namDs, namDs, namDs_take f l (i + 1) k x h, List.append_assoc, show i + 1 + k = i + (k + 1) by omega]
mutual
theorem namD_len : ∀ (g : Pat) (d : Dat), (namD g d).length ≤ cntP g
 | ⟨kind, num, text, kids, keys⟩, d => by
  have := namDs_len kids (partD kind keys d) 0
  rw [namD, cntP]
  cases nameP kind <;> simp <;> omega
theorem namDs_len : ∀ (l : List Pat) (f : Nat → Dat) (i : Nat), (namDs l f i).length ≤ cntPs l
 | [], f, i => by simp [namDs]
 | g :: l, f, i => by
  have h1 := namD_len g (f i)
  have h2 := namDs_len l f (i + 1)
  rw [namDs, cntPs, lA]; omega
end
theorem part7 {g : Pat} {d : Dat} {k : Nat} {y : Dat} (hk : g.kind = 7 ∨ g.kind = 8) (hy : d.kids[k]? = some y) : partD g.kind g.keys d k = y := by
 unfold partD
 have : (decide (g.kind = 7) || decide (g.kind = 8)) = true := by rcases hk with h | h <;> simp [h]
 rw [this, cT, List.getD_eq_getElem?_getD, hy]; rfl
theorem part9 {g : Pat} {d : Dat} {k : Nat} {y : KeyD} (hk : g.kind = 9) (hy : g.keys[k]? = some y) : partD g.kind g.keys d k = atD d y := by
 unfold partD
 rw [hk]
 show atD d (g.keys.getD k ⟨0, []⟩) = _
 rw [List.getD_eq_getElem?_getD, hy]; rfl
theorem part0 {g : Pat} {d : Dat} {k : Nat} (h7 : decide (g.kind = 7) = false) (h8 : decide (g.kind = 8) = false) (h9 : decide (g.kind = 9) = false) : partD g.kind g.keys d k = d := by
 unfold partD; rw [h7, h8, h9]; rfl
abbrev NN (l : NE) : List (List UInt8) := l.map (·.1)
abbrev ND (l : NE) : List Dat := l.map (·.2)
def nmS (ns : List (List UInt8)) (l : List Dat) (m : NE) : List (List UInt8) × List Dat := (ns ++ NN m, l ++ ND m)
theorem strN_snoc (l : List (List UInt8)) (x : List UInt8) : l.map Sx.encStr ++ [[C.str x]] = (l ++ [x]).map Sx.encStr := by simp [Sx.encStr]
theorem datN_snoc (l : List Dat) (x : Dat) : l.map encDat ++ [encDat x] = (l ++ [x]).map encDat := by simp
theorem datL_snoc (l : List Dat) (d : Dat) : l.map encDat ++ [[.int .i64 d.kind, .int .i64 d.num, .str d.text, .sl 13 (d.kids.map encDat), .sl 2 (d.keys.map encKey), .str d.mod, .int .i64 d.version, .int .i64 d.routine, .bool d.wrapped, .sl 8 (d.nodes.map encNode), .int .i64 d.root, .str d.inner, .str d.outer]] = (l ++ [d]).map encDat := by rw [← encDat_eq d]; simp
theorem named_x (g : Pat) (d : Dat) (ho : OkN g d) (ns : List (List UInt8)) (l : List Dat) (hs : ns.length + cntP g ≤ 100000000) (hsl : l.length = ns.length) : PCX zP 29 [Pt g, Dt d, .one (.own 900 ns.length), .one (.own 901 l.length)] [(900, .row 1 (ns.map Sx.encStr)), (901, .row 13 (l.map encDat))]
    (.tup [.one (.own 900 (ns ++ NN (namD g d)).length), .one (.own 901 (l ++ ND (namD g d)).length)]) [(900, .row 1 ((ns ++ NN (namD g d)).map Sx.encStr)), (901, .row 13 ((l ++ ND (namD g d)).map encDat))] := by
  have ih : ∀ k ∈ g.kids, ∀ (x : Dat) (ns : List (List UInt8)) (l : List Dat), OkN k x → ns.length + cntP k ≤ 100000000 → l.length = ns.length → PCX zP 29 [Pt k, Dt x, .one (.own 900 ns.length), .one (.own 901 l.length)] [(900, .row 1 (ns.map Sx.encStr)), (901, .row 13 (l.map encDat))]
    (.tup [.one (.own 900 (ns ++ NN (namD k x)).length), .one (.own 901 (l ++ ND (namD k x)).length)]) [(900, .row 1 ((ns ++ NN (namD k x)).map Sx.encStr)), (901, .row 13 ((l ++ ND (namD k x)).map encDat))] := fun k hk x ns l ho hs hsl => named_x k x ho ns l hs hsl
  have hce := cntP_eq g
  refine PCX.of_body Tryz.func29 rfl (by decide) Tryz.ntmps29 Tryz.results29 rfl rfl ?_
  refine AWP.ghQ ?_
  have hce2 := namD_len g d
  cases h2 : decide (g.kind = 2)
  · cases h10 : decide (g.kind = 10)
    · have hn : nameP g.kind = false := by unfold nameP; rw [h2, h10]; rfl
      repeat' (first | (simp only [go_sem, D, E, H, J, N, O, U, reduceCtorEq, V, W, Y, Z, zL, encP_eq g, encDat_eq d, lB, h2, h10] <;> refine nf ?_) | (refine stp ?_; intro K hK) | (apply hK; clear hK K) | refine stn ?_ | fail)
      refine xF 31 rfl fun hlen0 => ?_
      (try rw [lB] at hlen0)
      refine xC (S := List (List UInt8) × List Dat) (g.kids) encP (fun k s => (33, I .i64 (k : Nat)) :: [(2, .one (.own 900 s.1.length)), (3, .one (.own 901 s.2.length))]) (fun k s => [(900, .row 1 (s.1.map Sx.encStr)), (901, .row 13 (s.2.map encDat))]) [4, 5, 31, 32] [4, 5] (fun k s => Is s (nmS ns l (namDs (g.kids.take k) (partD g.kind g.keys d) 0))) ((ns, l)) (by simp only [go_sem, D, E, H, J, N, O, U, reduceCtorEq, V, W, Y, Z, zL, encP_eq g, encDat_eq d]; exact Gh.ts []) ?_ ?_ ?_
      · simp [Is, nmS, namDs]
      · intro k s x hlt hx hx' hb hok
        refine st ?_
        unfold Is at hok
        have hxm := lP hx
        have hct := cntPs_take hx
        have hcl := cntPs_le g.kids (k + 1)
        have hnl := namDs_len (g.kids.take k) (partD g.kind g.keys d) 0
        have hs1 : s.1.length ≤ ns.length + 1 + cntPs (g.kids.take k) := by rw [hok]; simp only [nmS, lA, lB, lC, lD]; omega
        have hs2 : s.2.length = s.1.length := by rw [hok]; simp only [nmS, lA, lB, lC, lD, hsl]
        have hnd := namDs_take (partD g.kind g.keys d) g.kids 0 k x hx
        rw [Nat.zero_add] at hnd
        have hokx := ho.kid k x hx
        cases h7 : decide (g.kind = 7)
        · cases h8 : decide (g.kind = 8)
          · cases h9 : decide (g.kind = 9)
            · rw [part0 h7 h8 h9] at hnd hokx
              have hix := (ih x hxm d s.1 s.2 hokx (by omega) hs2).ren (fun k => k) 1000 (args1 := [.st (encP x), .st (encDat d), .one (.own 900 s.1.length), .one (.own 901 s.2.length)]) (B1 := [(900, .row 1 (s.1.map Sx.encStr)), (901, .row 13 (s.2.map encDat))])
                (r1 := (.tup [.one (.own 1900 (s.1 ++ NN (namD x d)).length), .one (.own 1901 (s.2 ++ ND (namD x d)).length)])) (B1' := [(1900, .row 1 ((s.1 ++ NN (namD x d)).map Sx.encStr)), (1901, .row 13 ((s.2 ++ ND (namD x d)).map encDat))]) rfl rfl rfl rfl rfl
              rw [encDat_eq d] at hix
              repeat' (first | (simp only [go_sem, D, E, H, J, N, O, U, reduceCtorEq, V, W, Y, Z, zL, encP_eq g, encDat_eq d, lB, hb, h7, h8, h9] <;> refine nf ?_) | (refine stp ?_; intro K hK) | (apply hK; clear hK K) | refine stn ?_ | (with_reducible refine ⟨by omega, encP x, hx', ?_⟩) | (refine Or.inr (Or.inr (vCallX.mk hix (by repeat (first | exact trivial | refine And.intro rfl ?_)) (by rfl) (by first | rfl | (simp only [newNames, List.all_cons, List.all_nil, go_sem, D, E, H, J, N, O, U, reduceCtorEq, V, W, Y, Z, zL, encP_eq g, encDat_eq d, lB, hb, h7, h8, h9] <;> rfl)) (by rfl) (by rfl) ?_))) | (clear hK K))
              all_goals (rw [wrap_succ hlt hlen0])
              all_goals (refine ⟨(s.1 ++ NN (namD x d), s.2 ++ ND (namD x d)), ?_, Gh.ts [(900, 1900), (901, 1901)]⟩)
              all_goals (unfold Is; rw [hnd, hok]; simp only [nmS, NN, ND, List.map_append, List.append_assoc])
            · have hk9 := of_decide_eq_true h9
              obtain ⟨i1, i2, i3, i4⟩ := ho.i9 hk9
              obtain ⟨y, hy, hy', hb2, hd2⟩ := at_lt (enc := encKey) (show k < g.keys.length by omega)
              rw [part9 hk9 hy] at hnd hokx
              have hget : PC zP 55 [.st (encDat d), .st (encKey y)] (.tup [.st (encDat (atD d y)), Bo (decide (0 ≤ findI (fun x => sameK y x) 0 d.keys))]) := refGet_c d y i2 i3
              rw [encDat_eq d] at hget
              have hix := (ih x hxm (atD d y) s.1 s.2 hokx (by omega) hs2).ren (fun k => k) 1000 (args1 := [.st (encP x), .st (encDat (atD d y)), .one (.own 900 s.1.length), .one (.own 901 s.2.length)]) (B1 := [(900, .row 1 (s.1.map Sx.encStr)), (901, .row 13 (s.2.map encDat))])
                (r1 := (.tup [.one (.own 1900 (s.1 ++ NN (namD x (atD d y))).length), .one (.own 1901 (s.2 ++ ND (namD x (atD d y))).length)])) (B1' := [(1900, .row 1 ((s.1 ++ NN (namD x (atD d y))).map Sx.encStr)), (1901, .row 13 ((s.2 ++ ND (namD x (atD d y))).map encDat))]) rfl rfl rfl rfl rfl
              repeat' (first | (simp only [go_sem, D, E, H, J, N, O, U, reduceCtorEq, V, W, Y, Z, zL, encP_eq g, encDat_eq d, lB, hb, h7, h8, h9, hb2] <;> refine nf ?_) | (refine stp ?_; intro K hK) | (apply hK; clear hK K) | refine stn ?_ | (with_reducible first | refine ⟨by omega, encP x, hx', ?_⟩ | refine ⟨_, hget, ?_⟩ | refine ⟨by omega, encKey y, hy', ?_⟩) | (refine Or.inr (Or.inr (vCallX.mk hix (by repeat (first | exact trivial | refine And.intro rfl ?_)) (by rfl) (by first | rfl | (simp only [newNames, List.all_cons, List.all_nil, go_sem, D, E, H, J, N, O, U, reduceCtorEq, V, W, Y, Z, zL, encP_eq g, encDat_eq d, lB, hb, h7, h8, h9, hb2] <;> rfl)) (by rfl) (by rfl) ?_))) | (with_reducible refine AWP.genR (id := 13) [10] [12] mixed (by kernel_rfl) fun K hK => ?_; simp only [Bx.outs, Bx.drop, cT, cF, Nat.reduceBEq, go_sem]) | (clear hK K))
              all_goals (rw [wrap_succ hlt hlen0])
              all_goals (refine ⟨(s.1 ++ NN (namD x (atD d y)), s.2 ++ ND (namD x (atD d y))), ?_, Gh.ts [(900, 1900), (901, 1901)]⟩)
              all_goals (unfold Is; rw [hnd, hok]; simp only [nmS, NN, ND, List.map_append, List.append_assoc])
          · have hk8 := of_decide_eq_true h8
            have h9 : decide (g.kind = 9) = false := by rw [hk8]; rfl
            have i7 := ho.i7 (.inr hk8)
            obtain ⟨y, hy, hy', hb2, hd2⟩ := at_lt (enc := encDat) (show k < d.kids.length by omega)
            rw [part7 (.inr hk8) hy] at hnd hokx
            have hix := (ih x hxm y s.1 s.2 hokx (by omega) hs2).ren (fun k => k) 1000 (args1 := [.st (encP x), .st (encDat y), .one (.own 900 s.1.length), .one (.own 901 s.2.length)]) (B1 := [(900, .row 1 (s.1.map Sx.encStr)), (901, .row 13 (s.2.map encDat))])
              (r1 := (.tup [.one (.own 1900 (s.1 ++ NN (namD x y)).length), .one (.own 1901 (s.2 ++ ND (namD x y)).length)])) (B1' := [(1900, .row 1 ((s.1 ++ NN (namD x y)).map Sx.encStr)), (1901, .row 13 ((s.2 ++ ND (namD x y)).map encDat))]) rfl rfl rfl rfl rfl
            repeat' (first | (simp only [go_sem, D, E, H, J, N, O, U, reduceCtorEq, V, W, Y, Z, zL, encP_eq g, encDat_eq d, lB, hb, h7, h8, h9, hb2] <;> refine nf ?_) | (refine stp ?_; intro K hK) | (apply hK; clear hK K) | refine stn ?_ | (with_reducible first | refine ⟨by omega, encP x, hx', ?_⟩ | refine ⟨by omega, encDat y, hy', ?_⟩) | (refine Or.inr (Or.inr (vCallX.mk hix (by repeat (first | exact trivial | refine And.intro rfl ?_)) (by rfl) (by first | rfl | (simp only [newNames, List.all_cons, List.all_nil, go_sem, D, E, H, J, N, O, U, reduceCtorEq, V, W, Y, Z, zL, encP_eq g, encDat_eq d, lB, hb, h7, h8, h9, hb2] <;> rfl)) (by rfl) (by rfl) ?_))) | (clear hK K))
            all_goals (rw [wrap_succ hlt hlen0])
            all_goals (refine ⟨(s.1 ++ NN (namD x y), s.2 ++ ND (namD x y)), ?_, Gh.ts [(900, 1900), (901, 1901)]⟩)
            all_goals (unfold Is; rw [hnd, hok]; simp only [nmS, NN, ND, List.map_append, List.append_assoc])
        · have hk7 := of_decide_eq_true h7
          have h8 : decide (g.kind = 8) = false := by rw [hk7]; rfl
          have h9 : decide (g.kind = 9) = false := by rw [hk7]; rfl
          have i7 := ho.i7 (.inl hk7)
          obtain ⟨y, hy, hy', hb2, hd2⟩ := at_lt (enc := encDat) (show k < d.kids.length by omega)
          rw [part7 (.inl hk7) hy] at hnd hokx
          have hix := (ih x hxm y s.1 s.2 hokx (by omega) hs2).ren (fun k => k) 1000 (args1 := [.st (encP x), .st (encDat y), .one (.own 900 s.1.length), .one (.own 901 s.2.length)]) (B1 := [(900, .row 1 (s.1.map Sx.encStr)), (901, .row 13 (s.2.map encDat))])
            (r1 := (.tup [.one (.own 1900 (s.1 ++ NN (namD x y)).length), .one (.own 1901 (s.2 ++ ND (namD x y)).length)])) (B1' := [(1900, .row 1 ((s.1 ++ NN (namD x y)).map Sx.encStr)), (1901, .row 13 ((s.2 ++ ND (namD x y)).map encDat))]) rfl rfl rfl rfl rfl
          repeat' (first | (simp only [go_sem, D, E, H, J, N, O, U, reduceCtorEq, V, W, Y, Z, zL, encP_eq g, encDat_eq d, lB, hb, h7, h8, h9, hb2] <;> refine nf ?_) | (refine stp ?_; intro K hK) | (apply hK; clear hK K) | refine stn ?_ | (with_reducible first | refine ⟨by omega, encP x, hx', ?_⟩ | refine ⟨by omega, encDat y, hy', ?_⟩) | (refine Or.inr (Or.inr (vCallX.mk hix (by repeat (first | exact trivial | refine And.intro rfl ?_)) (by rfl) (by first | rfl | (simp only [newNames, List.all_cons, List.all_nil, go_sem, D, E, H, J, N, O, U, reduceCtorEq, V, W, Y, Z, zL, encP_eq g, encDat_eq d, lB, hb, h7, h8, h9, hb2] <;> rfl)) (by rfl) (by rfl) ?_))) | (clear hK K))
          all_goals (rw [wrap_succ hlt hlen0])
          all_goals (refine ⟨(s.1 ++ NN (namD x y), s.2 ++ ND (namD x y)), ?_, Gh.ts [(900, 1900), (901, 1901)]⟩)
          all_goals (unfold Is; rw [hnd, hok]; simp only [nmS, NN, ND, List.map_append, List.append_assoc])
      · intro s hb hok
        refine st ?_
        unfold Is at hok
        rw [lK] at hok
        repeat' (first | (simp only [go_sem, D, E, H, J, N, O, U, reduceCtorEq, V, W, Y, Z, zL, encP_eq g, encDat_eq d, lB, hb] <;> refine nf ?_) | (refine stp ?_; intro K hK) | (apply hK; clear hK K) | refine stn ?_ | (clear hK K))
        refine ⟨_, Gh.refl _, ?_⟩
        simp only [go_sem, D, E, H, J, N, O, U, reduceCtorEq, V, W, Y, Z, zL, lB]
        subst hok
        rw [namD_eq]
        simp only [nmS, NN, ND, hn, cT, cF, List.nil_append, List.map_append, List.map_cons, lF, List.append_assoc, List.cons_append]
        exact ⟨by first | trivial | rfl, fun x hx => by
          rcases List.mem_cons.1 hx with rfl | hx
          · exact List.mem_cons_self
          · rcases List.mem_cons.1 hx with rfl | hx
            · exact List.mem_cons_of_mem _ List.mem_cons_self
            · cases hx⟩
    · have hn : nameP g.kind = true := by unfold nameP; rw [h2, h10]; rfl
      repeat' (first | (simp only [go_sem, D, E, H, J, N, O, U, reduceCtorEq, V, W, Y, Z, zL, encP_eq g, encDat_eq d, lB, h2, h10, strN_snoc, datL_snoc] <;> refine nf ?_) | (refine stp ?_; intro K hK) | (apply hK; clear hK K) | refine stn ?_ | (with_reducible (refine ⟨(by first | omega | (simp only [lA, lB, List.length_take, List.length_drop, lC, lD, List.length_replicate]; omega) : _ ≤ _), ?_⟩)) | refine stq ?_ | fail)
      refine xF 31 rfl fun hlen0 => ?_
      (try rw [lB] at hlen0)
      refine xC (S := List (List UInt8) × List Dat) (g.kids) encP (fun k s => (33, I .i64 (k : Nat)) :: [(2, .one (.own 900 s.1.length)), (3, .one (.own 901 s.2.length))]) (fun k s => [(900, .row 1 (s.1.map Sx.encStr)), (901, .row 13 (s.2.map encDat))]) [4, 5, 31, 32] [4, 5] (fun k s => Is s (nmS (ns ++ [g.text]) (l ++ [d]) (namDs (g.kids.take k) (partD g.kind g.keys d) 0))) (((ns ++ [g.text]), (l ++ [d]))) (by simp only [go_sem, D, E, H, J, N, O, U, reduceCtorEq, V, W, Y, Z, zL, encP_eq g, encDat_eq d, strN_snoc, datL_snoc]; exact Gh.ts [(900, 25), (901, 29)]) ?_ ?_ ?_
      · simp [Is, nmS, namDs]
      · intro k s x hlt hx hx' hb hok
        refine st ?_
        unfold Is at hok
        have hxm := lP hx
        have hct := cntPs_take hx
        have hcl := cntPs_le g.kids (k + 1)
        have hnl := namDs_len (g.kids.take k) (partD g.kind g.keys d) 0
        have hs1 : s.1.length ≤ ns.length + 1 + cntPs (g.kids.take k) := by rw [hok]; simp only [nmS, lA, lB, lC, lD]; omega
        have hs2 : s.2.length = s.1.length := by rw [hok]; simp only [nmS, lA, lB, lC, lD, hsl]
        have hnd := namDs_take (partD g.kind g.keys d) g.kids 0 k x hx
        rw [Nat.zero_add] at hnd
        have hokx := ho.kid k x hx
        cases h7 : decide (g.kind = 7)
        · cases h8 : decide (g.kind = 8)
          · cases h9 : decide (g.kind = 9)
            · rw [part0 h7 h8 h9] at hnd hokx
              have hix := (ih x hxm d s.1 s.2 hokx (by omega) hs2).ren (fun k => k) 1000 (args1 := [.st (encP x), .st (encDat d), .one (.own 900 s.1.length), .one (.own 901 s.2.length)]) (B1 := [(900, .row 1 (s.1.map Sx.encStr)), (901, .row 13 (s.2.map encDat))])
                (r1 := (.tup [.one (.own 1900 (s.1 ++ NN (namD x d)).length), .one (.own 1901 (s.2 ++ ND (namD x d)).length)])) (B1' := [(1900, .row 1 ((s.1 ++ NN (namD x d)).map Sx.encStr)), (1901, .row 13 ((s.2 ++ ND (namD x d)).map encDat))]) rfl rfl rfl rfl rfl
              rw [encDat_eq d] at hix
              repeat' (first | (simp only [go_sem, D, E, H, J, N, O, U, reduceCtorEq, V, W, Y, Z, zL, encP_eq g, encDat_eq d, lB, hb, h7, h8, h9] <;> refine nf ?_) | (refine stp ?_; intro K hK) | (apply hK; clear hK K) | refine stn ?_ | (with_reducible refine ⟨by omega, encP x, hx', ?_⟩) | (refine Or.inr (Or.inr (vCallX.mk hix (by repeat (first | exact trivial | refine And.intro rfl ?_)) (by rfl) (by first | rfl | (simp only [newNames, List.all_cons, List.all_nil, go_sem, D, E, H, J, N, O, U, reduceCtorEq, V, W, Y, Z, zL, encP_eq g, encDat_eq d, lB, hb, h7, h8, h9] <;> rfl)) (by rfl) (by rfl) ?_))) | (clear hK K))
              all_goals (rw [wrap_succ hlt hlen0])
              all_goals (refine ⟨(s.1 ++ NN (namD x d), s.2 ++ ND (namD x d)), ?_, Gh.ts [(900, 1900), (901, 1901)]⟩)
              all_goals (unfold Is; rw [hnd, hok]; simp only [nmS, NN, ND, List.map_append, List.append_assoc])
            · have hk9 := of_decide_eq_true h9
              obtain ⟨i1, i2, i3, i4⟩ := ho.i9 hk9
              obtain ⟨y, hy, hy', hb2, hd2⟩ := at_lt (enc := encKey) (show k < g.keys.length by omega)
              rw [part9 hk9 hy] at hnd hokx
              have hget : PC zP 55 [.st (encDat d), .st (encKey y)] (.tup [.st (encDat (atD d y)), Bo (decide (0 ≤ findI (fun x => sameK y x) 0 d.keys))]) := refGet_c d y i2 i3
              rw [encDat_eq d] at hget
              have hix := (ih x hxm (atD d y) s.1 s.2 hokx (by omega) hs2).ren (fun k => k) 1000 (args1 := [.st (encP x), .st (encDat (atD d y)), .one (.own 900 s.1.length), .one (.own 901 s.2.length)]) (B1 := [(900, .row 1 (s.1.map Sx.encStr)), (901, .row 13 (s.2.map encDat))])
                (r1 := (.tup [.one (.own 1900 (s.1 ++ NN (namD x (atD d y))).length), .one (.own 1901 (s.2 ++ ND (namD x (atD d y))).length)])) (B1' := [(1900, .row 1 ((s.1 ++ NN (namD x (atD d y))).map Sx.encStr)), (1901, .row 13 ((s.2 ++ ND (namD x (atD d y))).map encDat))]) rfl rfl rfl rfl rfl
              repeat' (first | (simp only [go_sem, D, E, H, J, N, O, U, reduceCtorEq, V, W, Y, Z, zL, encP_eq g, encDat_eq d, lB, hb, h7, h8, h9, hb2] <;> refine nf ?_) | (refine stp ?_; intro K hK) | (apply hK; clear hK K) | refine stn ?_ | (with_reducible first | refine ⟨by omega, encP x, hx', ?_⟩ | refine ⟨_, hget, ?_⟩ | refine ⟨by omega, encKey y, hy', ?_⟩) | (refine Or.inr (Or.inr (vCallX.mk hix (by repeat (first | exact trivial | refine And.intro rfl ?_)) (by rfl) (by first | rfl | (simp only [newNames, List.all_cons, List.all_nil, go_sem, D, E, H, J, N, O, U, reduceCtorEq, V, W, Y, Z, zL, encP_eq g, encDat_eq d, lB, hb, h7, h8, h9, hb2] <;> rfl)) (by rfl) (by rfl) ?_))) | (with_reducible refine AWP.genR (id := 13) [10] [12] mixed (by kernel_rfl) fun K hK => ?_; simp only [Bx.outs, Bx.drop, cT, cF, Nat.reduceBEq, go_sem]) | (clear hK K))
              all_goals (rw [wrap_succ hlt hlen0])
              all_goals (refine ⟨(s.1 ++ NN (namD x (atD d y)), s.2 ++ ND (namD x (atD d y))), ?_, Gh.ts [(900, 1900), (901, 1901)]⟩)
              all_goals (unfold Is; rw [hnd, hok]; simp only [nmS, NN, ND, List.map_append, List.append_assoc])
          · have hk8 := of_decide_eq_true h8
            have h9 : decide (g.kind = 9) = false := by rw [hk8]; rfl
            have i7 := ho.i7 (.inr hk8)
            obtain ⟨y, hy, hy', hb2, hd2⟩ := at_lt (enc := encDat) (show k < d.kids.length by omega)
            rw [part7 (.inr hk8) hy] at hnd hokx
            have hix := (ih x hxm y s.1 s.2 hokx (by omega) hs2).ren (fun k => k) 1000 (args1 := [.st (encP x), .st (encDat y), .one (.own 900 s.1.length), .one (.own 901 s.2.length)]) (B1 := [(900, .row 1 (s.1.map Sx.encStr)), (901, .row 13 (s.2.map encDat))])
              (r1 := (.tup [.one (.own 1900 (s.1 ++ NN (namD x y)).length), .one (.own 1901 (s.2 ++ ND (namD x y)).length)])) (B1' := [(1900, .row 1 ((s.1 ++ NN (namD x y)).map Sx.encStr)), (1901, .row 13 ((s.2 ++ ND (namD x y)).map encDat))]) rfl rfl rfl rfl rfl
            repeat' (first | (simp only [go_sem, D, E, H, J, N, O, U, reduceCtorEq, V, W, Y, Z, zL, encP_eq g, encDat_eq d, lB, hb, h7, h8, h9, hb2] <;> refine nf ?_) | (refine stp ?_; intro K hK) | (apply hK; clear hK K) | refine stn ?_ | (with_reducible first | refine ⟨by omega, encP x, hx', ?_⟩ | refine ⟨by omega, encDat y, hy', ?_⟩) | (refine Or.inr (Or.inr (vCallX.mk hix (by repeat (first | exact trivial | refine And.intro rfl ?_)) (by rfl) (by first | rfl | (simp only [newNames, List.all_cons, List.all_nil, go_sem, D, E, H, J, N, O, U, reduceCtorEq, V, W, Y, Z, zL, encP_eq g, encDat_eq d, lB, hb, h7, h8, h9, hb2] <;> rfl)) (by rfl) (by rfl) ?_))) | (clear hK K))
            all_goals (rw [wrap_succ hlt hlen0])
            all_goals (refine ⟨(s.1 ++ NN (namD x y), s.2 ++ ND (namD x y)), ?_, Gh.ts [(900, 1900), (901, 1901)]⟩)
            all_goals (unfold Is; rw [hnd, hok]; simp only [nmS, NN, ND, List.map_append, List.append_assoc])
        · have hk7 := of_decide_eq_true h7
          have h8 : decide (g.kind = 8) = false := by rw [hk7]; rfl
          have h9 : decide (g.kind = 9) = false := by rw [hk7]; rfl
          have i7 := ho.i7 (.inl hk7)
          obtain ⟨y, hy, hy', hb2, hd2⟩ := at_lt (enc := encDat) (show k < d.kids.length by omega)
          rw [part7 (.inl hk7) hy] at hnd hokx
          have hix := (ih x hxm y s.1 s.2 hokx (by omega) hs2).ren (fun k => k) 1000 (args1 := [.st (encP x), .st (encDat y), .one (.own 900 s.1.length), .one (.own 901 s.2.length)]) (B1 := [(900, .row 1 (s.1.map Sx.encStr)), (901, .row 13 (s.2.map encDat))])
            (r1 := (.tup [.one (.own 1900 (s.1 ++ NN (namD x y)).length), .one (.own 1901 (s.2 ++ ND (namD x y)).length)])) (B1' := [(1900, .row 1 ((s.1 ++ NN (namD x y)).map Sx.encStr)), (1901, .row 13 ((s.2 ++ ND (namD x y)).map encDat))]) rfl rfl rfl rfl rfl
          repeat' (first | (simp only [go_sem, D, E, H, J, N, O, U, reduceCtorEq, V, W, Y, Z, zL, encP_eq g, encDat_eq d, lB, hb, h7, h8, h9, hb2] <;> refine nf ?_) | (refine stp ?_; intro K hK) | (apply hK; clear hK K) | refine stn ?_ | (with_reducible first | refine ⟨by omega, encP x, hx', ?_⟩ | refine ⟨by omega, encDat y, hy', ?_⟩) | (refine Or.inr (Or.inr (vCallX.mk hix (by repeat (first | exact trivial | refine And.intro rfl ?_)) (by rfl) (by first | rfl | (simp only [newNames, List.all_cons, List.all_nil, go_sem, D, E, H, J, N, O, U, reduceCtorEq, V, W, Y, Z, zL, encP_eq g, encDat_eq d, lB, hb, h7, h8, h9, hb2] <;> rfl)) (by rfl) (by rfl) ?_))) | (clear hK K))
          all_goals (rw [wrap_succ hlt hlen0])
          all_goals (refine ⟨(s.1 ++ NN (namD x y), s.2 ++ ND (namD x y)), ?_, Gh.ts [(900, 1900), (901, 1901)]⟩)
          all_goals (unfold Is; rw [hnd, hok]; simp only [nmS, NN, ND, List.map_append, List.append_assoc])
      · intro s hb hok
        refine st ?_
        unfold Is at hok
        rw [lK] at hok
        repeat' (first | (simp only [go_sem, D, E, H, J, N, O, U, reduceCtorEq, V, W, Y, Z, zL, encP_eq g, encDat_eq d, lB, hb] <;> refine nf ?_) | (refine stp ?_; intro K hK) | (apply hK; clear hK K) | refine stn ?_ | (clear hK K))
        refine ⟨_, Gh.refl _, ?_⟩
        simp only [go_sem, D, E, H, J, N, O, U, reduceCtorEq, V, W, Y, Z, zL, lB]
        subst hok
        rw [namD_eq]
        simp only [nmS, NN, ND, hn, cT, cF, List.nil_append, List.map_append, List.map_cons, lF, List.append_assoc, List.cons_append]
        exact ⟨by first | trivial | rfl, fun x hx => by
          rcases List.mem_cons.1 hx with rfl | hx
          · exact List.mem_cons_self
          · rcases List.mem_cons.1 hx with rfl | hx
            · exact List.mem_cons_of_mem _ List.mem_cons_self
            · cases hx⟩
  · have hn : nameP g.kind = true := by unfold nameP; rw [h2]; rfl
    repeat' (first | (simp only [go_sem, D, E, H, J, N, O, U, reduceCtorEq, V, W, Y, Z, zL, encP_eq g, encDat_eq d, lB, h2, strN_snoc, datL_snoc] <;> refine nf ?_) | (refine stp ?_; intro K hK) | (apply hK; clear hK K) | refine stn ?_ | (with_reducible (refine ⟨(by first | omega | (simp only [lA, lB, List.length_take, List.length_drop, lC, lD, List.length_replicate]; omega) : _ ≤ _), ?_⟩)) | refine stq ?_ | fail)
    refine xF 31 rfl fun hlen0 => ?_
    (try rw [lB] at hlen0)
    refine xC (S := List (List UInt8) × List Dat) (g.kids) encP (fun k s => (33, I .i64 (k : Nat)) :: [(2, .one (.own 900 s.1.length)), (3, .one (.own 901 s.2.length))]) (fun k s => [(900, .row 1 (s.1.map Sx.encStr)), (901, .row 13 (s.2.map encDat))]) [4, 5, 31, 32] [4, 5] (fun k s => Is s (nmS (ns ++ [g.text]) (l ++ [d]) (namDs (g.kids.take k) (partD g.kind g.keys d) 0))) (((ns ++ [g.text]), (l ++ [d]))) (by simp only [go_sem, D, E, H, J, N, O, U, reduceCtorEq, V, W, Y, Z, zL, encP_eq g, encDat_eq d, strN_snoc, datL_snoc]; exact Gh.ts [(900, 25), (901, 29)]) ?_ ?_ ?_
    · simp [Is, nmS, namDs]
    · intro k s x hlt hx hx' hb hok
      refine st ?_
      unfold Is at hok
      have hxm := lP hx
      have hct := cntPs_take hx
      have hcl := cntPs_le g.kids (k + 1)
      have hnl := namDs_len (g.kids.take k) (partD g.kind g.keys d) 0
      have hs1 : s.1.length ≤ ns.length + 1 + cntPs (g.kids.take k) := by rw [hok]; simp only [nmS, lA, lB, lC, lD]; omega
      have hs2 : s.2.length = s.1.length := by rw [hok]; simp only [nmS, lA, lB, lC, lD, hsl]
      have hnd := namDs_take (partD g.kind g.keys d) g.kids 0 k x hx
      rw [Nat.zero_add] at hnd
      have hokx := ho.kid k x hx
      cases h7 : decide (g.kind = 7)
      · cases h8 : decide (g.kind = 8)
        · cases h9 : decide (g.kind = 9)
          · rw [part0 h7 h8 h9] at hnd hokx
            have hix := (ih x hxm d s.1 s.2 hokx (by omega) hs2).ren (fun k => k) 1000 (args1 := [.st (encP x), .st (encDat d), .one (.own 900 s.1.length), .one (.own 901 s.2.length)]) (B1 := [(900, .row 1 (s.1.map Sx.encStr)), (901, .row 13 (s.2.map encDat))])
              (r1 := (.tup [.one (.own 1900 (s.1 ++ NN (namD x d)).length), .one (.own 1901 (s.2 ++ ND (namD x d)).length)])) (B1' := [(1900, .row 1 ((s.1 ++ NN (namD x d)).map Sx.encStr)), (1901, .row 13 ((s.2 ++ ND (namD x d)).map encDat))]) rfl rfl rfl rfl rfl
            rw [encDat_eq d] at hix
            repeat' (first | (simp only [go_sem, D, E, H, J, N, O, U, reduceCtorEq, V, W, Y, Z, zL, encP_eq g, encDat_eq d, lB, hb, h7, h8, h9] <;> refine nf ?_) | (refine stp ?_; intro K hK) | (apply hK; clear hK K) | refine stn ?_ | (with_reducible refine ⟨by omega, encP x, hx', ?_⟩) | (refine Or.inr (Or.inr (vCallX.mk hix (by repeat (first | exact trivial | refine And.intro rfl ?_)) (by rfl) (by first | rfl | (simp only [newNames, List.all_cons, List.all_nil, go_sem, D, E, H, J, N, O, U, reduceCtorEq, V, W, Y, Z, zL, encP_eq g, encDat_eq d, lB, hb, h7, h8, h9] <;> rfl)) (by rfl) (by rfl) ?_))) | (clear hK K))
            all_goals (rw [wrap_succ hlt hlen0])
            all_goals (refine ⟨(s.1 ++ NN (namD x d), s.2 ++ ND (namD x d)), ?_, Gh.ts [(900, 1900), (901, 1901)]⟩)
            all_goals (unfold Is; rw [hnd, hok]; simp only [nmS, NN, ND, List.map_append, List.append_assoc])
          · have hk9 := of_decide_eq_true h9
            obtain ⟨i1, i2, i3, i4⟩ := ho.i9 hk9
            obtain ⟨y, hy, hy', hb2, hd2⟩ := at_lt (enc := encKey) (show k < g.keys.length by omega)
            rw [part9 hk9 hy] at hnd hokx
            have hget : PC zP 55 [.st (encDat d), .st (encKey y)] (.tup [.st (encDat (atD d y)), Bo (decide (0 ≤ findI (fun x => sameK y x) 0 d.keys))]) := refGet_c d y i2 i3
            rw [encDat_eq d] at hget
            have hix := (ih x hxm (atD d y) s.1 s.2 hokx (by omega) hs2).ren (fun k => k) 1000 (args1 := [.st (encP x), .st (encDat (atD d y)), .one (.own 900 s.1.length), .one (.own 901 s.2.length)]) (B1 := [(900, .row 1 (s.1.map Sx.encStr)), (901, .row 13 (s.2.map encDat))])
              (r1 := (.tup [.one (.own 1900 (s.1 ++ NN (namD x (atD d y))).length), .one (.own 1901 (s.2 ++ ND (namD x (atD d y))).length)])) (B1' := [(1900, .row 1 ((s.1 ++ NN (namD x (atD d y))).map Sx.encStr)), (1901, .row 13 ((s.2 ++ ND (namD x (atD d y))).map encDat))]) rfl rfl rfl rfl rfl
            repeat' (first | (simp only [go_sem, D, E, H, J, N, O, U, reduceCtorEq, V, W, Y, Z, zL, encP_eq g, encDat_eq d, lB, hb, h7, h8, h9, hb2] <;> refine nf ?_) | (refine stp ?_; intro K hK) | (apply hK; clear hK K) | refine stn ?_ | (with_reducible first | refine ⟨by omega, encP x, hx', ?_⟩ | refine ⟨_, hget, ?_⟩ | refine ⟨by omega, encKey y, hy', ?_⟩) | (refine Or.inr (Or.inr (vCallX.mk hix (by repeat (first | exact trivial | refine And.intro rfl ?_)) (by rfl) (by first | rfl | (simp only [newNames, List.all_cons, List.all_nil, go_sem, D, E, H, J, N, O, U, reduceCtorEq, V, W, Y, Z, zL, encP_eq g, encDat_eq d, lB, hb, h7, h8, h9, hb2] <;> rfl)) (by rfl) (by rfl) ?_))) | (with_reducible refine AWP.genR (id := 13) [10] [12] mixed (by kernel_rfl) fun K hK => ?_; simp only [Bx.outs, Bx.drop, cT, cF, Nat.reduceBEq, go_sem]) | (clear hK K))
            all_goals (rw [wrap_succ hlt hlen0])
            all_goals (refine ⟨(s.1 ++ NN (namD x (atD d y)), s.2 ++ ND (namD x (atD d y))), ?_, Gh.ts [(900, 1900), (901, 1901)]⟩)
            all_goals (unfold Is; rw [hnd, hok]; simp only [nmS, NN, ND, List.map_append, List.append_assoc])
        · have hk8 := of_decide_eq_true h8
          have h9 : decide (g.kind = 9) = false := by rw [hk8]; rfl
          have i7 := ho.i7 (.inr hk8)
          obtain ⟨y, hy, hy', hb2, hd2⟩ := at_lt (enc := encDat) (show k < d.kids.length by omega)
          rw [part7 (.inr hk8) hy] at hnd hokx
          have hix := (ih x hxm y s.1 s.2 hokx (by omega) hs2).ren (fun k => k) 1000 (args1 := [.st (encP x), .st (encDat y), .one (.own 900 s.1.length), .one (.own 901 s.2.length)]) (B1 := [(900, .row 1 (s.1.map Sx.encStr)), (901, .row 13 (s.2.map encDat))])
            (r1 := (.tup [.one (.own 1900 (s.1 ++ NN (namD x y)).length), .one (.own 1901 (s.2 ++ ND (namD x y)).length)])) (B1' := [(1900, .row 1 ((s.1 ++ NN (namD x y)).map Sx.encStr)), (1901, .row 13 ((s.2 ++ ND (namD x y)).map encDat))]) rfl rfl rfl rfl rfl
          repeat' (first | (simp only [go_sem, D, E, H, J, N, O, U, reduceCtorEq, V, W, Y, Z, zL, encP_eq g, encDat_eq d, lB, hb, h7, h8, h9, hb2] <;> refine nf ?_) | (refine stp ?_; intro K hK) | (apply hK; clear hK K) | refine stn ?_ | (with_reducible first | refine ⟨by omega, encP x, hx', ?_⟩ | refine ⟨by omega, encDat y, hy', ?_⟩) | (refine Or.inr (Or.inr (vCallX.mk hix (by repeat (first | exact trivial | refine And.intro rfl ?_)) (by rfl) (by first | rfl | (simp only [newNames, List.all_cons, List.all_nil, go_sem, D, E, H, J, N, O, U, reduceCtorEq, V, W, Y, Z, zL, encP_eq g, encDat_eq d, lB, hb, h7, h8, h9, hb2] <;> rfl)) (by rfl) (by rfl) ?_))) | (clear hK K))
          all_goals (rw [wrap_succ hlt hlen0])
          all_goals (refine ⟨(s.1 ++ NN (namD x y), s.2 ++ ND (namD x y)), ?_, Gh.ts [(900, 1900), (901, 1901)]⟩)
          all_goals (unfold Is; rw [hnd, hok]; simp only [nmS, NN, ND, List.map_append, List.append_assoc])
      · have hk7 := of_decide_eq_true h7
        have h8 : decide (g.kind = 8) = false := by rw [hk7]; rfl
        have h9 : decide (g.kind = 9) = false := by rw [hk7]; rfl
        have i7 := ho.i7 (.inl hk7)
        obtain ⟨y, hy, hy', hb2, hd2⟩ := at_lt (enc := encDat) (show k < d.kids.length by omega)
        rw [part7 (.inl hk7) hy] at hnd hokx
        have hix := (ih x hxm y s.1 s.2 hokx (by omega) hs2).ren (fun k => k) 1000 (args1 := [.st (encP x), .st (encDat y), .one (.own 900 s.1.length), .one (.own 901 s.2.length)]) (B1 := [(900, .row 1 (s.1.map Sx.encStr)), (901, .row 13 (s.2.map encDat))])
          (r1 := (.tup [.one (.own 1900 (s.1 ++ NN (namD x y)).length), .one (.own 1901 (s.2 ++ ND (namD x y)).length)])) (B1' := [(1900, .row 1 ((s.1 ++ NN (namD x y)).map Sx.encStr)), (1901, .row 13 ((s.2 ++ ND (namD x y)).map encDat))]) rfl rfl rfl rfl rfl
        repeat' (first | (simp only [go_sem, D, E, H, J, N, O, U, reduceCtorEq, V, W, Y, Z, zL, encP_eq g, encDat_eq d, lB, hb, h7, h8, h9, hb2] <;> refine nf ?_) | (refine stp ?_; intro K hK) | (apply hK; clear hK K) | refine stn ?_ | (with_reducible first | refine ⟨by omega, encP x, hx', ?_⟩ | refine ⟨by omega, encDat y, hy', ?_⟩) | (refine Or.inr (Or.inr (vCallX.mk hix (by repeat (first | exact trivial | refine And.intro rfl ?_)) (by rfl) (by first | rfl | (simp only [newNames, List.all_cons, List.all_nil, go_sem, D, E, H, J, N, O, U, reduceCtorEq, V, W, Y, Z, zL, encP_eq g, encDat_eq d, lB, hb, h7, h8, h9, hb2] <;> rfl)) (by rfl) (by rfl) ?_))) | (clear hK K))
        all_goals (rw [wrap_succ hlt hlen0])
        all_goals (refine ⟨(s.1 ++ NN (namD x y), s.2 ++ ND (namD x y)), ?_, Gh.ts [(900, 1900), (901, 1901)]⟩)
        all_goals (unfold Is; rw [hnd, hok]; simp only [nmS, NN, ND, List.map_append, List.append_assoc])
    · intro s hb hok
      refine st ?_
      unfold Is at hok
      rw [lK] at hok
      repeat' (first | (simp only [go_sem, D, E, H, J, N, O, U, reduceCtorEq, V, W, Y, Z, zL, encP_eq g, encDat_eq d, lB, hb] <;> refine nf ?_) | (refine stp ?_; intro K hK) | (apply hK; clear hK K) | refine stn ?_ | (clear hK K))
      refine ⟨_, Gh.refl _, ?_⟩
      simp only [go_sem, D, E, H, J, N, O, U, reduceCtorEq, V, W, Y, Z, zL, lB]
      subst hok
      rw [namD_eq]
      simp only [nmS, NN, ND, hn, cT, cF, List.nil_append, List.map_append, List.map_cons, lF, List.append_assoc, List.cons_append]
      exact ⟨by first | trivial | rfl, fun x hx => by
        rcases List.mem_cons.1 hx with rfl | hx
        · exact List.mem_cons_self
        · rcases List.mem_cons.1 hx with rfl | hx
          · exact List.mem_cons_of_mem _ List.mem_cons_self
          · cases hx⟩
termination_by cntP g
decreasing_by exact cntP_kid hk
end Go.Proofs.YtajfdbdklphonaaGreat