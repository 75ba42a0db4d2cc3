/- Lemmas of the proof. -/
import Derived.Test.YthbcdhfiibpeaaaGreatTy30
import Derived.Test.YthbcdhfiibpeaaaGreatTy34
open List renaming length_map → lB, length_take → lQ
open Nat renaming reduceBEq → zA, reduceBNe → zB, reduceAdd → zC, reduceSub → zD, reduceMul → zE, reduceLeDiff → zF, reduceLT → zG, reduceEqDiff → zH
open Int renaming reduceToNat → zI, reduceLE → zJ, reduceLT → zK, reduceEq → zL
open Bool renaming not_eq_true' → zM, not_eq_false' → zN
set_option linter.unusedSimpArgs false
set_option linter.unusedVariables false
set_option maxRecDepth 20000
set_option maxHeartbeats 64000000
namespace Go.Proofs.YthbcdhfiibpeaaaGreat
open Go Go.Sx
theorem shifted_f (x : NodeD) (b : Int) (hk : x.kids.length ≤ 1000000) (hf : x.fields.length ≤ 1000000) : PC Tryz.prog 84 [.st [.int .i64 x.kind, .int .i64 x.lo, .int .i64 x.hi, .str x.text, .sl 1 (x.kids.map encInt), .sl 4 (x.fields.map encField), .int .i64 x.r0, .int .i64 x.r1], .one (.dat (.int .i64 b))] (.st (encNode (upN b x))) := shifted_c x b hk hf
def emL (b : Nat) (l : List NodeD) (r : Int) : List NodeD := (soundL l r).map (upN b)
def emR (b : Nat) (l : List NodeD) (r : Int) : Int := upI b (soundR l r)
theorem soundT_f (l : List NodeD) (r : Int) (hl : TSm l) : PC Tryz.prog 83 [.st [.sl 8 (l.map encNode), .int .i64 r]] (.st [.sl 8 ((soundL l r).map encNode), .int .i64 (soundR l r)]) := soundT_c l r hl
theorem nodeL_snoc (l : List NodeD) (x : NodeD) : l.map encNode ++ [[.int .i64 x.kind, .int .i64 x.lo, .int .i64 x.hi, .str x.text, .sl 1 (x.kids.map encInt), .sl 4 (x.fields.map encField), .int .i64 x.r0, .int .i64 x.r1]] = (l ++ [x]).map encNode := by rw [← encNode_lit]; simp
theorem embed_x (ns l : List NodeD) (r : Int) (hl : TSm l) (hn : ns.length ≤ 10000000) : PCX Tryz.prog 47 [.one (.own 900 ns.length), Tt l r] [(900, .row 8 (ns.map encNode))]
  (.tup [.one (.own 900 (ns ++ emL ns.length l r).length), I .i64 (emR ns.length l r)]) [(900, .row 8 ((ns ++ emL ns.length l r).map encNode))] := by
 have hs := soundT_sm hl r
 have hsc := soundT_f l r hl
 obtain ⟨sl, hsl⟩ : ∃ sl, sl = soundL l r := ⟨_, rfl⟩
 have hsn := hs.len
 have hsk := hs.kids
 have hsf := hs.fields
 have e1 : emL ns.length l r = sl.map (upN ns.length) := by rw [emL, hsl]
 have e2 : emR ns.length l r = upI ns.length (soundR l r) := rfl
 rw [← hsl] at hsc hsn hsk hsf
 rw [e1, e2]
 refine PCX.of_body Tryz.func47 rfl (by decide) Tryz.ntmps47 Tryz.results47 rfl rfl ?_
 refine AWP.ghQ ?_
 repeat' (first | (simp only [go_sem, zA, zB, zC, zD, zE, zF, zG, reduceCtorEq, zH, zI, zJ, zK, zL, lB]; all_goals refine nf ?_) | (refine stp ?_; intro K hK) | (apply hK; clear hK K) | refine stn ?_ | (with_reducible refine ⟨_, hsc, ?_⟩) | refine stq ?_ | fail)
 refine AWP.len 14 rfl fun hlen0 => ?_
 (try rw [lB] at hlen0)
 refine AWP.range (S := List NodeD) (sl) encNode (fun k s => (16, I .i64 (k : Nat)) :: [(0, .one (.own 900 s.length))]) (fun k s => [(900, .row 8 (s.map encNode))]) [3, 6, 14, 15] [3] (fun k s => Is s (ns ++ (sl.take k).map (upN ns.length))) (ns) (by refine sts ?_; exact Gh.tt []) ?_ ?_ ?_
 ·simp [Is]
 ·intro k s y hlt hy hy' hb hok
  refine sts ?_
  have hym := List.mem_of_getElem? hy
  have hsh := shifted_f y ns.length (hsk y hym) (hsf y hym)
  have hslen : s.length ≤ 11000000 := by rw [show s = _ from hok, List.length_append, lB, lQ]; omega
  repeat' (first | (simp only [go_sem, zA, zB, zC, zD, zE, zF, zG, reduceCtorEq, zH, zI, zJ, zK, zL, lB, hb, encNode_lit, nodeL_snoc]; all_goals refine nf ?_) | (refine stp ?_; intro K hK) | (apply hK; clear hK K) | refine stn ?_ | (with_reducible first | refine ⟨(by omega : _ ≤ _), encNode y, hy', ?_⟩ | refine ⟨_, hsh, ?_⟩ | (refine ⟨(by first | omega | (simp only [List.length_append, lB, lQ, List.length_drop, List.length_cons, List.length_nil, List.length_replicate]; omega) : _ ≤ _), ?_⟩)) | refine stq ?_ | (clear hK K))
  all_goals (rw [wrap_succ hlt hlen0])
  all_goals (refine ⟨s ++ [upN ns.length y], ?_, Gh.tt [(900, 25)]⟩)
  all_goals (unfold Is; rw [show s = _ from hok, List.take_succ_eq_append_getElem hlt, (List.getElem?_eq_some_iff.1 hy).2]; simp)
 ·intro s hb hok
  refine sts ?_
  unfold Is at hok
  rw [List.take_length] at hok
  repeat' (first | (simp only [go_sem, zA, zB, zC, zD, zE, zF, zG, reduceCtorEq, zH, zI, zJ, zK, zL, lB, hb]; all_goals refine nf ?_) | (refine stp ?_; intro K hK) | (apply hK; clear hK K) | refine stn ?_ | (refine stp' ?_; intro K hK) | (clear hK K))
  refine ⟨_, Gh.refl _, ?_⟩
  simp only [go_sem, zA, zB, zC, zD, zE, zF, zG, reduceCtorEq, zH, zI, zJ, zK, zL, lB]
  subst hok
  exact ⟨by first | trivial | rfl, fun x hx => by
   rcases List.mem_cons.1 hx with rfl | hx
   ·exact List.mem_cons_self
   ·cases hx⟩
theorem emL_len (b : Nat) (l : List NodeD) (r : Int) : (emL b l r).length ≤ l.length + 1 := by
  unfold emL soundL
  cases decide (wfP l r = 0) <;> simp
abbrev TyD := List NodeD × Int
def encTy (t : TyD) : List C := [.sl 8 (t.1.map encNode), .int .i64 t.2]
theorem encTy_lit (x : TyD) : encTy x = [.sl 8 (x.1.map encNode), .int .i64 x.2] := rfl
@[go_sem] theorem encTy_cut (x : TyD) : cutC 2 (encTy x) = some (encTy x, []) := by rfl
@[go_sem low] theorem encTy_cutk (x : TyD) (k : Nat) : cutC k (encTy x) = cutC k [.sl 8 (x.1.map encNode), .int .i64 x.2] := by rw [encTy_lit]
@[go_sem] theorem encTy_cutm (x : TyD) : cutC 2 ((encTy x).map Cell.dat) = some ((encTy x).map Cell.dat, []) := by rfl
@[go_sem low] theorem encTy_cutmk (x : TyD) (k : Nat) : cutC k ((encTy x).map Cell.dat) = cutC k (([.sl 8 (x.1.map encNode), .int .i64 x.2] : List C).map Cell.dat) := by rw [encTy_lit]
@[go_sem] theorem encTy_soft (x : TyD) : (encTy x).map C.soft = encTy x := by rfl
@[go_sem] theorem encTy_len (x : TyD) : lenIs 2 (encTy x) = true := by rfl
@[go_sem] theorem encTy_lenm (x : TyD) : lenIs 2 ((encTy x).map Cell.dat) = true := by rfl
def ovStep (s : List NodeD × List Int) (t : TyD) : List NodeD × List Int := (s.1 ++ emL s.1.length t.1 t.2, s.2 ++ [emR s.1.length t.1 t.2])
def ovS (k : Int) (ts : List TyD) : List NodeD × List Int := ts.foldl ovStep ([kindN k], [])
def headN (k : Int) (ks : List Int) : NodeD := ⟨k, 0, 0, [], ks, [], 0, 0⟩
def overV (k : Int) (ts : List TyD) : List NodeD := (ovS k ts).1.set 0 (headN k (ovS k ts).2)
structure TyS (B : Nat) (ts : List TyD) : Prop where
  one : ∀ t ∈ ts, TSm t.1 ∧ t.1.length < B
  all : ts.length * B ≤ 900000
theorem ovS_take {k : Int} {ts : List TyD} {i : Nat} {t : TyD} (h : ts[i]? = some t) : ovS k (ts.take (i + 1)) = ovStep (ovS k (ts.take i)) t := foldl_take h
theorem ovS_len (k : Int) {B : Nat} : ∀ (ts : List TyD), (∀ t ∈ ts, TSm t.1 ∧ t.1.length < B) → (ovS k ts).1.length ≤ 1 + ts.length * B ∧ (ovS k ts).2.length = ts.length := by
 intro ts
 unfold ovS
 have key : ∀ (ts : List TyD) (s : List NodeD × List Int), (∀ t ∈ ts, TSm t.1 ∧ t.1.length < B) → (ts.foldl ovStep s).1.length ≤ s.1.length + ts.length * B ∧ (ts.foldl ovStep s).2.length = s.2.length + ts.length := by
  intro ts
  induction ts with
  | nil => intro s _; simp
  | cons t ts ih =>
   intro s h
   have h1 := ih (ovStep s t) fun u hu => h u (List.mem_cons_of_mem _ hu)
   have h2 := (h t List.mem_cons_self).2
   have h3 := emL_len s.1.length t.1 t.2
   have h4 : (ovStep s t).1.length = s.1.length + (emL s.1.length t.1 t.2).length := by simp [ovStep]
   have h5 : (ovStep s t).2.length = s.2.length + 1 := by simp [ovStep]
   rw [List.foldl_cons, List.length_cons, Nat.succ_mul]
   omega
 intro h
 have := key ts ([kindN k], []) h
 simpa using this
theorem rows_head (l : List NodeD) (k : Int) (ks : List Int) (h : l[0]? = some (kindN k)) : (l.map encNode).set 0 [C.int .i64 k, C.int .i64 0, C.int .i64 0, C.str [], C.sl 1 (ks.map encInt), C.sl 4 [], C.int .i64 0, C.int .i64 0] = (l.set 0 (headN k ks)).map encNode := by rw [List.map_set]; rfl
theorem ovS_head (k : Int) (ts : List TyD) : (ovS k ts).1[0]? = some (kindN k) := by
 unfold ovS
 have key : ∀ (ts : List TyD) (s : List NodeD × List Int), s.1[0]? = some (kindN k) → (ts.foldl ovStep s).1[0]? = some (kindN k) := by
  intro ts
  induction ts with
  | nil => intro s h; exact h
  | cons t ts ih =>
   intro s h
   rw [List.foldl_cons]
   refine ih _ ?_
   have : 0 < s.1.length := (List.getElem?_eq_some_iff.1 h).1
   show (s.1 ++ _)[0]? = _
   rw [List.getElem?_append_left this, h]
 exact key ts _ rfl
theorem over_c (k : Int) (ts : List TyD) {B : Nat} (hts : TyS B ts) : PC Tryz.prog 53 [I .i64 k, .one (.dat (.sl 2 (ts.map encTy)))] (Tt (overV k ts) 0) := by
 have hall := hts.all
 have htl : ts.length ≤ 900000 ∨ B = 0 := by
  rcases Nat.eq_zero_or_pos B with h | h
  ·exact .inr h
  ·left; exact Nat.le_trans (Nat.le_mul_of_pos_right _ h) hall
 refine PCB.ob Tryz.func53 Tryz.ntmps53 Tryz.results53 ?_
 repeat' (first | (simp only [go_sem, zA, zB, zC, zD, zE, zF, zG, reduceCtorEq, zH, zI, zJ, zK, zL, lB]; all_goals refine nf ?_) | (refine stp ?_; intro K hK) | (apply hK; clear hK K) | refine stn ?_ | (with_reducible (refine Or.inr (show vBuildOwn _ 12 _ _ _ _ _ _ from ?_); unfold vBuildOwn; with_reducible refine Or.inr ?_; simp only [vBuildRow, go_sem, zA, zB, zC, zD, zE, zF, zG, reduceCtorEq, zH, zI, zJ, zK, zL, lB])) | fail)
 refine AWP.gh (Gh.nilrow 6 901 rfl rfl rfl rfl) ?_
 refine AWP.len 13 rfl fun hlen0 => ?_
 (try rw [lB] at hlen0)
 refine AWP.range (S := List NodeD × List Int) (ts) encTy (fun i s => (15, I .i64 (i : Nat)) :: [(5, .one (.own 12 s.1.length)), (6, .one (.own 901 s.2.length))]) (fun i s => [(12, .row 8 (s.1.map encNode)), (901, .row 1 (s.2.map encInt))]) [4, 13, 14] [4] (fun i s => Is s (ovS k (ts.take i))) (([kindN k], [])) (by refine sts ?_; exact Gh.tt []) ?_ ?_ ?_
 ·rfl
 ·intro i s t hlt ht ht' hb hok
  refine sts ?_
  unfold Is at hok
  have htm := List.mem_of_getElem? ht
  have h1 := hts.one t htm
  have hil : i < ts.length := (List.getElem?_eq_some_iff.1 ht).1
  have hlen := ovS_len k (B := B) (ts.take i) fun u hu => hts.one u (List.mem_of_mem_take hu)
  have hmul : (ts.take i).length * B ≤ ts.length * B := Nat.mul_le_mul_right _ (by rw [lQ]; omega)
  rw [← hok] at hlen
  have hs2 : s.2.length ≤ 900000 := by rw [hlen.2, lQ]; omega
  have hix := (embed_x s.1 t.1 t.2 h1.1 (by omega)).ren (fun _ => 12) 1000 (args1 := [.one (.own 12 s.1.length), .st [.sl 8 (t.1.map encNode), .int .i64 t.2]]) (B1 := [(12, .row 8 (s.1.map encNode))])
   (r1 := (.tup [.one (.own 1900 (s.1 ++ emL s.1.length t.1 t.2).length), .one (.dat (.int .i64 (emR s.1.length t.1 t.2)))])) (B1' := [(1900, .row 8 ((s.1 ++ emL s.1.length t.1 t.2).map encNode))]) rfl rfl rfl rfl rfl
  repeat' (first | (simp only [go_sem, zA, zB, zC, zD, zE, zF, zG, reduceCtorEq, zH, zI, zJ, zK, zL, lB, hb, encTy, snocI]; all_goals refine nf ?_) | (refine stp ?_; intro K hK) | (apply hK; clear hK K) | refine stn ?_ | (with_reducible first | refine ⟨(by omega : _ ≤ _), encTy t, ht', ?_⟩ | (refine ⟨(by first | omega | (simp only [List.length_append, lB, lQ, List.length_drop, List.length_cons, List.length_nil, List.length_replicate]; omega) : _ ≤ _), ?_⟩)) | (refine Or.inr (Or.inr (vCallX.mk hix (by repeat (first | exact trivial | refine And.intro rfl ?_)) (by rfl) (by first | rfl | (simp only [newNames, List.all_cons, List.all_nil, go_sem, zA, zB, zC, zD, zE, zF, zG, reduceCtorEq, zH, zI, zJ, zK, zL, lB, hb, encTy, snocI] <;> rfl)) (by rfl) (by rfl) ?_))) | refine stq ?_ | (clear hK K))
  all_goals (rw [wrap_succ hlt hlen0])
  all_goals (refine ⟨ovStep s t, ?_, Gh.tt [(12, 1900), (901, 28)]⟩)
  all_goals (unfold Is; rw [ovS_take ht, hok])
 ·intro s hb hok
  refine sts ?_
  unfold Is at hok
  rw [List.take_length] at hok
  have hlen := ovS_len k (B := B) ts hts.one
  have hhd := ovS_head k ts
  rw [← hok] at hhd hlen
  have hh' := get_map encNode hhd
  have hpos : 0 < s.1.length := (List.getElem?_eq_some_iff.1 hhd).1
  refine AWP.gh (Gh.fz 901) ?_
  simp only [go_sem, zA, zB, zC, zD, zE, zF, zG, reduceCtorEq, zH, zI, zJ, zK, zL, lB]
  repeat' (first | (refine atR 11 (Gh.freeze 12 (by rfl) (by rfl) (by simp only [go_sem, zA, zB, zC, zD, zE, zF, zG, reduceCtorEq, zH, zI, zJ, zK, zL, lB, hb, encNode_lit, lB, List.length_set]) (by simp only [go_sem, zA, zB, zC, zD, zE, zF, zG, reduceCtorEq, zH, zI, zJ, zK, zL, lB, hb, encNode_lit, lB, List.length_set])) ?_; simp only [frE, frB, Bx.drop, go_sem, zA, zB, zC, zD, zE, zF, zG, reduceCtorEq, zH, zI, zJ, zK, zL, lB, hb, encNode_lit]) | (simp only [go_sem, zA, zB, zC, zD, zE, zF, zG, reduceCtorEq, zH, zI, zJ, zK, zL, lB, hb, encNode_lit]; all_goals refine nf ?_) | (refine stp ?_; intro K hK) | (apply hK; clear hK K) | refine stn ?_ | (with_reducible first | refine ⟨encNode (kindN k), hh', ?_⟩ | refine ⟨(by omega : _ ≤ _), (by omega : _ < _), ?_⟩) | (clear hK K))
  have e := rows_head s.1 k s.2 hhd
  refine ⟨?_, fun x hx => by cases hx⟩
  show T.st [C.sl 8 ((s.1.map encNode).set 0 [C.int .i64 k, C.int .i64 0, C.int .i64 0, C.str [], C.sl 1 (s.2.map encInt), C.sl 4 [], C.int .i64 0, C.int .i64 0]), C.int .i64 0] = _
  rw [e]
  unfold overV
  rw [← hok]
def noneTy : TyD := ([kindN 1], 0)
def overTy (k : Int) (ts : List TyD) : TyD := (overV k ts, 0)
def unionT (ts : List TyD) : TyD := bif decide ((ts.length : Int) = 0) then noneTy else overTy 16 ts
abbrev Yp (t : TyD) : T := .st (encTy t)
abbrev Tys (ts : List TyD) : T := .one (.dat (.sl 2 (ts.map encTy)))
theorem none_f : PC Tryz.prog 25 [] (.st [.sl 8 ([kindN 1].map encNode), .int .i64 0]) := none_c
theorem over_f (k : Int) (ts : List TyD) {B : Nat} (hts : TyS B ts) : PC Tryz.prog 53 [I .i64 k, Tys ts] (.st [.sl 8 ((overV k ts).map encNode), .int .i64 0]) := over_c k ts hts
theorem union_c (ts : List TyD) {B : Nat} (hts : TyS B ts) : PC Tryz.prog 18 [Tys ts] (Yp (unionT ts)) := by
 unfold unionT
 cases h : decide ((ts.length : Int) = 0)
 all_goals
  refine PCB.of_body Tryz.func18 rfl (by decide) Tryz.ntmps18 Tryz.results18 rfl rfl rfl ?_ rfl rfl
  repeat' (first | (simp only [go_sem, zA, zB, zC, zD, zE, zF, zG, reduceCtorEq, zH, zI, zJ, zK, zL, lB, h]; all_goals fail_if_success guard_target =ₛ False) | (with_reducible first | ((first | refine seqVC_stepN rfl ?_ | refine AWP.seq ?_ | refine AWP.seqR (by kernel_rfl) ?_); intro K hK) | (apply hK; clear hK K) | refine AWP.block ?_ | (refine AWP.cond (by with_unfolding_all rfl) ?_ ?_ <;> intro h <;> (try simp only [zM, zN] at h) <;> try exact absurd h (by decide)) | refine AWP.skip ?_ | refine AWP.ret ?_ | refine AWP.exit ?_ | refine ⟨_, none_f, ?_⟩ | refine ⟨_, over_f 16 ts hts, ?_⟩ | refine Or.inl ?_) | (clear hK K))
  all_goals (refine fin0 ?_; rfl)
def listT (t : TyD) : TyD := (([headN 16 [1, 2], kindN 9, kindN 12] ++ emL 3 t.1 t.2).set 2 (headN 12 [emR 3 t.1 t.2, 0]), 0)
theorem rows_two (l : List NodeD) (ks : List Int) (h : l[2]? = some (kindN 12)) : (l.map encNode).set 2 [C.int .i64 12, C.int .i64 0, C.int .i64 0, C.str [], C.sl 1 (ks.map encInt), C.sl 4 [], C.int .i64 0, C.int .i64 0] = (l.set 2 (headN 12 ks)).map encNode := by rw [List.map_set]; rfl
theorem listOf_c (t : TyD) (ht : TSm t.1) : PC Tryz.prog 38 [Yp t] (Yp (listT t)) := by
 have hix := (embed_x [headN 16 [1, 2], kindN 9, kindN 12] t.1 t.2 ht (by simp)).ren (fun _ => 9) 1000 (args1 := [.one (.own 9 3), .st [.sl 8 (t.1.map encNode), .int .i64 t.2]]) (B1 := [(9, .row 8 ([headN 16 [1, 2], kindN 9, kindN 12].map encNode))])
  (r1 := (.tup [.one (.own 1900 ([headN 16 [1, 2], kindN 9, kindN 12] ++ emL 3 t.1 t.2).length), .one (.dat (.int .i64 (emR 3 t.1 t.2)))])) (B1' := [(1900, .row 8 (([headN 16 [1, 2], kindN 9, kindN 12] ++ emL 3 t.1 t.2).map encNode))]) rfl rfl rfl rfl rfl
 obtain ⟨L, hL⟩ : ∃ L, L = [headN 16 [1, 2], kindN 9, kindN 12] ++ emL 3 t.1 t.2 := ⟨_, rfl⟩
 have h2 : L[2]? = some (kindN 12) := by rw [hL]; rfl
 have h2' := get_map encNode h2
 have hpos : 2 < L.length := (List.getElem?_eq_some_iff.1 h2).1
 have hl3 : [headN 16 [1, 2], kindN 9, kindN 12].map encNode = [[.int .i64 16, .int .i64 0, .int .i64 0, .str [], .sl 1 [[.int .i64 1], [.int .i64 2]], .sl 4 [], .int .i64 0, .int .i64 0], [.int .i64 9, .int .i64 0, .int .i64 0, .str [], .sl 1 [], .sl 4 [], .int .i64 0, .int .i64 0], [.int .i64 12, .int .i64 0, .int .i64 0, .str [], .sl 1 [], .sl 4 [], .int .i64 0, .int .i64 0]] := rfl
 rw [hl3, ← hL] at hix
 refine PCB.of_body Tryz.func38 rfl (by decide) Tryz.ntmps38 Tryz.results38 rfl rfl rfl ?_ rfl rfl
 repeat' (first | (refine atR 4 (Gh.freeze 1900 (by rfl) (by rfl) (by simp only [go_sem, zA, zB, zC, zD, zE, zF, zG, reduceCtorEq, zH, zI, zJ, zK, zL, encTy, lB, encNode_lit, lB, List.length_set]) (by simp only [go_sem, zA, zB, zC, zD, zE, zF, zG, reduceCtorEq, zH, zI, zJ, zK, zL, encTy, lB, encNode_lit, lB, List.length_set])) ?_; simp only [frE, frB, Bx.drop, go_sem, zA, zB, zC, zD, zE, zF, zG, reduceCtorEq, zH, zI, zJ, zK, zL, encTy, lB, encNode_lit]) | (simp only [go_sem, zA, zB, zC, zD, zE, zF, zG, reduceCtorEq, zH, zI, zJ, zK, zL, encTy, lB, encNode_lit]; all_goals fail_if_success guard_target =ₛ False) | (with_reducible first | ((first | refine seqVC_stepN rfl ?_ | refine AWP.seq ?_ | refine AWP.seqR (by kernel_rfl) ?_); intro K hK) | (apply hK; clear hK K) | refine AWP.block ?_ | (refine AWP.cond (by with_unfolding_all rfl) ?_ ?_ <;> intro h <;> (try simp only [zM, zN] at h) <;> try exact absurd h (by decide)) | refine AWP.skip ?_ | refine AWP.ret ?_ | refine AWP.exit ?_ | (refine Or.inr (show vBuildOwn _ 9 _ _ _ _ _ _ from ?_); unfold vBuildOwn; with_reducible refine Or.inr ?_; simp only [vBuildRow, go_sem, zA, zB, zC, zD, zE, zF, zG, reduceCtorEq, zH, zI, zJ, zK, zL, encTy, lB, encNode_lit]) | refine ⟨(by omega : _ ≤ _), encNode (kindN 12), h2', ?_⟩ | refine ⟨encNode (kindN 12), h2', ?_⟩ | refine ⟨(by omega : _ ≤ _), (by omega : _ ≤ _), (by omega : _ < _), ?_⟩ | refine ⟨(by omega : _ ≤ _), (by omega : _ < _), ?_⟩ | refine ⟨(by omega : _ < _), ?_⟩) | (refine Or.inr (Or.inr (vCallX.mk hix (by repeat (first | exact trivial | refine And.intro rfl ?_)) (by rfl) (by first | rfl | (simp only [newNames, List.all_cons, List.all_nil, go_sem, zA, zB, zC, zD, zE, zF, zG, reduceCtorEq, zH, zI, zJ, zK, zL, encTy, lB, encNode_lit] <;> rfl)) (by rfl) (by rfl) ?_))) | (with_reducible first | refine Or.inl ?_) | (clear hK K))
 have e := rows_two L [emR 3 t.1 t.2, 0] h2
 refine ⟨?_, fun x hx => by cases hx⟩
 show T.st [C.sl 8 ((L.map encNode).set 2 [C.int .i64 12, C.int .i64 0, C.int .i64 0, C.str [], C.sl 1 [[C.int .i64 (emR 3 t.1 t.2)], [C.int .i64 0]], C.sl 4 [], C.int .i64 0, C.int .i64 0]), C.int .i64 0] = Yp (listT t)
 have e' : (L.map encNode).set 2 [C.int .i64 12, C.int .i64 0, C.int .i64 0, C.str [], C.sl 1 [[C.int .i64 (emR 3 t.1 t.2)], [C.int .i64 0]], C.sl 4 [], C.int .i64 0, C.int .i64 0] = (L.set 2 (headN 12 [emR 3 t.1 t.2, 0])).map encNode := e
 rw [e']
 unfold listT
 rw [← hL]; rfl
structure GoodN (n i : Int) (x : NodeD) : Prop where
  plain : plainN x = true
  kind : validK x = true
  edge : ∀ e ∈ edgeL x, 0 ≤ e ∧ e < n
  on : boolK x.kind = true → ∀ k ∈ x.kids, i < k
  kid : x.kids.length ≤ 10
  fld : x.fields.length ≤ 3
theorem idx_mem {a n : Int} (han : a < n) (m : Nat) (s : Src) : ∀ x ∈ (listM (idx1 a n) m s).1, a ≤ x ∧ x < n := by
  refine listM_mem (p := fun x => a ≤ x ∧ x < n) (fun s => ?_) m s
  have := nextV_in s (n := n - a) (by omega)
  show a ≤ a + _ ∧ a + _ < n
  omega
theorem edge_kids (k : Int) (l : List Int) (hk : decide (k = 13) = false) : edgeL (kidsN k l) = l := by
  unfold edgeL kidsN; simp [hk]
theorem kids_good {n i a k : Int} (ha : 0 ≤ a) (han : a < n) (m : Nat) (s : Src) (hm : m ≤ 10) (hk : decide (k = 13) = false) (hp : ∀ l : List Int, plainN (kidsN k l) = true) (hv : ∀ l : List Int, l.length = m → validK (kidsN k l) = true) (ho : boolK k = true → i < a) :
  GoodN n i (kidsN k (listM (idx1 a n) m s).1) where
 plain := hp _
 kind := hv _ (listM_len _ m s)
 edge := by
  rw [edge_kids k _ hk]
  intro e he
  have := idx_mem han m s e he
  omega
 on := fun hb x hx => by
  have := idx_mem han m s x hx
  have := ho hb
  omega
 kid := by show (listM (idx1 a n) m s).1.length ≤ 10; rw [listM_len]; exact hm
 fld := Nat.zero_le _
theorem plain_kids : ∀ k : Int, k = 10 ∨ k = 12 ∨ k = 14 ∨ k = 16 ∨ k = 17 ∨ k = 18 → ∀ l : List Int, plainN (kidsN k l) = true := by
  intro k hk l
  rcases hk with rfl | rfl | rfl | rfl | rfl | rfl <;> simp [plainN, plainG, plainS, kidsN]
theorem kind_good (n i k : Int) (hp : plainN (kindN k) = true) (hv : validK (kindN k) = true) (h13 : decide (k = 13) = false) : GoodN n i (kindN k) where
  plain := hp
  kind := hv
  edge := by unfold edgeL kindN; simp only [h13]; simp
  on := fun _ x hx => by simp [kindN] at hx
  kid := Nat.zero_le _
  fld := Nat.zero_le _
theorem text_good (n i k : Int) (t : List UInt8) (hp : plainN (textN k t) = true) (hv : validK (textN k t) = true) (h13 : decide (k = 13) = false) : GoodN n i (textN k t) where
  plain := hp
  kind := hv
  edge := by unfold edgeL textN; simp only [h13]; simp
  on := fun _ x hx => by simp [textN] at hx
  kid := Nat.zero_le _
  fld := Nat.zero_le _
theorem getD_mem' {α : Type} {l : List α} {d : α} {v : Int} (h : 0 ≤ v ∧ v < (l.length : Int)) : l.getD v.toNat d ∈ l := by
  have hv : v.toNat < l.length := by omega
  rw [List.getD_eq_getElem?_getD, List.getElem?_eq_getElem hv]
  exact List.getElem_mem hv
theorem range_le : ∀ a < 5, ∀ b < 5, a ≤ b → rangeL.getD a 0 ≤ rangeL.getD b 0 := by decide
theorem flds_good (n : Int) (hn : 1 ≤ n) (s : Src) : fldB none (fldsM n fieldKeys s).1 = true ∧ (∀ f ∈ (fldsM n fieldKeys s).1, 0 ≤ f.node ∧ f.node < n) ∧ (fldsM n fieldKeys s).1.length ≤ 3 := by
 have one : ∀ (k : KeyD) (s : Src), (fld1 n k s).1 = [] ∨ ∃ a b, (fld1 n k s).1 = [⟨k, a, b⟩] ∧ 0 ≤ a ∧ a < n := by
  intro k s
  unfold fld1
  cases decide (nextV s 2 = 1)
  ·exact .inl rfl
  ·have := nextV_in (nextS s 2) (n := n) hn
   exact .inr ⟨_, _, rfl, this.1, this.2⟩
 unfold fieldKeys
 simp only [fldsM, List.append_nil]
 have v1 : validKeyB ⟨0, [97]⟩ = true := by decide
 have v2 : validKeyB ⟨0, [98]⟩ = true := by decide
 have v3 : validKeyB ⟨1, [115]⟩ = true := by decide
 have c12 : decide (keyC ⟨0, [97]⟩ ⟨0, [98]⟩ ≥ 0) = false := by decide
 have c13 : decide (keyC ⟨0, [97]⟩ ⟨1, [115]⟩ ≥ 0) = false := by decide
 have c23 : decide (keyC ⟨0, [98]⟩ ⟨1, [115]⟩ ≥ 0) = false := by decide
 rcases one ⟨0, [97]⟩ s with e1 | ⟨a1, b1, e1, h1⟩ <;> rcases one ⟨0, [98]⟩ (fld1 n ⟨0, [97]⟩ s).2 with e2 | ⟨a2, b2, e2, h2⟩ <;> rcases one ⟨1, [115]⟩ (fld1 n ⟨0, [98]⟩ (fld1 n ⟨0, [97]⟩ s).2).2 with e3 | ⟨a3, b3, e3, h3⟩ <;> rw [e1, e2, e3] <;>
  (refine ⟨by simp only [List.nil_append, List.cons_append, fldB, v1, v2, v3, c12, c13, c23, Bool.not_true, Bool.or_false, cond_false], fun f hf => ?_, by simp⟩) <;> simp only [List.nil_append, List.cons_append, List.mem_cons, List.not_mem_nil, or_false] at hf
 all_goals (rcases hf with rfl | rfl | rfl <;> assumption)
theorem draw_good (i n : Int) (s : Src) (hi : 0 ≤ i) (hin : i < n) (hn : n ≤ 1000) : GoodN n i (drawN i n s).1 := by
 unfold drawN
 have hv := nextV_in s (n := mostV i n) (most_in i n).1
 have hm := most_in i n
 generalize nextS s (mostV i n) = t
 have hb : 14 ≤ nextV s (mostV i n) → i + 1 < n := by
  intro h
  rcases Decidable.em (i = n - 1) with h2 | h2
  ·exfalso
   rw [show mostV i n = 14 from by unfold mostV; rw [decide_eq_true h2]; rfl] at hv h
   omega
  ·omega
 generalize nextV s (mostV i n) = k at *
 have hk : k = 0 ∨ k = 1 ∨ k = 2 ∨ k = 3 ∨ k = 4 ∨ k = 5 ∨ k = 6 ∨ k = 7 ∨ k = 8 ∨ k = 9 ∨ k = 10 ∨ k = 11 ∨ k = 12 ∨ k = 13 ∨ k = 14 ∨ k = 15 ∨ k = 16 ∨ k = 17 := by omega
 have p10 := plain_kids 10 (by omega)
 have p12 := plain_kids 12 (by omega)
 have p14 := plain_kids 14 (by omega)
 have p16 := plain_kids 16 (by omega)
 have p17 := plain_kids 17 (by omega)
 have p18 := plain_kids 18 (by omega)
 rcases hk with rfl | rfl | rfl | rfl | rfl | rfl | rfl | rfl | rfl | rfl | rfl | rfl | rfl | rfl | rfl | rfl | rfl | rfl <;> simp only [drawK, Int.reduceEq, decide_true, decide_false, cond_true, cond_false, Bool.or_true, Bool.true_or, Bool.or_false, kidsM]
 ·have h1 := nextV_in t (n := 5) (by omega)
  have h2 := nextV_in (nextS t 5) (n := 5 - nextV t 5) (by omega)
  have hr := range_le (nextV t 5).toNat (by omega) (nextV t 5 + nextV (nextS t 5) (5 - nextV t 5)).toNat (by omega) (by omega)
  refine ⟨by simp [plainN, plainG, plainS, intN], by simp only [validK, intN, Int.reduceEq, decide_true, decide_false, Bool.or_false, cond_false, cond_true]; exact decide_eq_true hr, by simp [edgeL, intN], fun _ x hx => by simp [intN] at hx, Nat.zero_le _, Nat.zero_le _⟩
 ·have ha : ∀ x ∈ atomL, isAtomB x = true := by decide
  have hx := ha _ (getD_mem' (d := []) (nextV_in t (n := 4) (by omega)))
  exact text_good n i 6 _ (by simp [plainN, plainG, plainS, textN]) (by simp only [validK, textN, Int.reduceEq, decide_true, decide_false, Bool.or_false, cond_false, cond_true]; exact hx) rfl
 ·exact kind_good n i 7 rfl rfl rfl
 ·have ha : ∀ x ∈ wordL, decide ((x.length : Int) ≤ 64) = true := by decide
  have hx := ha _ (getD_mem' (d := []) (nextV_in t (n := 4) (by omega)))
  exact text_good n i 4 _ (by simp [plainN, plainG, plainS, textN]) (by simp only [validK, textN, Int.reduceEq, decide_true, decide_false, Bool.or_false, cond_false, cond_true]; exact hx) rfl
 ·have ha : ∀ x ∈ plainL, plainN (kindN x) = true ∧ validK (kindN x) = true ∧ decide (x = 13) = false := by decide
  have hx := ha _ (getD_mem' (d := 0) (nextV_in t (n := 4) (by omega)))
  exact kind_good n i _ hx.1 hx.2.1 hx.2.2
 ·exact kind_good n i 9 rfl rfl rfl
 ·have ha : ∀ x ∈ anyL, plainN (kindN x) = true ∧ validK (kindN x) = true ∧ decide (x = 13) = false := by decide
  have hx := ha _ (getD_mem' (d := 0) (nextV_in t (n := 2) (by omega)))
  exact kind_good n i _ hx.1 hx.2.1 hx.2.2
 ·have ha : ∀ x ∈ labL, isVarB x = true := by decide
  have hx := ha _ (getD_mem' (d := []) (nextV_in t (n := 3) (by omega)))
  exact text_good n i 19 _ (by simp [plainN, plainG, plainS, textN]) (by simp only [validK, textN, Int.reduceEq, decide_true, decide_false, Bool.or_false, cond_false, cond_true]; exact hx) rfl
 iterate 2
  ·have h1 := nextV_in t (n := 3) (by omega)
   exact kids_good (by omega) (by omega) _ _ (by omega) rfl p10 (fun l hl => by simp only [validK, kidsN, Int.reduceEq, decide_true, decide_false, Bool.or_false, cond_false, cond_true]; exact decide_eq_true (by omega)) (fun h => by cases h)
 ·exact kids_good (by omega) (by omega) _ _ (by omega) rfl p12 (fun l hl => by simp only [validK, kidsN, Int.reduceEq, decide_true, decide_false, Bool.or_false, cond_false, cond_true]; exact decide_eq_true (by omega)) (fun h => by cases h)
 ·have h1 := nextV_in t (n := n) (by omega)
  have h2 := nextV_in (nextS t n) (n := n) (by omega)
  obtain ⟨f1, f2, f3⟩ := flds_good n (by omega) (nextS (nextS t n) n)
  refine ⟨by simp [plainN, plainG, plainS, mappingV], by simp only [validK, mappingV, Int.reduceEq, decide_true, decide_false, Bool.or_false, cond_false, cond_true]; exact f1, fun e he => ?_, fun h => (by cases h), Nat.zero_le _, f3⟩
  simp only [edgeL, mappingV, decide_true, cond_true, List.nil_append, List.mem_append, List.mem_map, List.mem_cons, List.not_mem_nil, or_false] at he
  rcases he with ⟨f, hf, rfl⟩ | rfl | rfl
  ·exact f2 f hf
  ·exact h1
  ·exact h2
 iterate 2
  ·have h1 := nextV_in t (n := 3) (by omega)
   exact kids_good (by omega) (by omega) _ _ (by omega) rfl p14 (fun l hl => by simp only [validK, kidsN, Int.reduceEq, decide_true, decide_false, Bool.or_false, cond_false, cond_true]; exact Bool.and_eq_true_iff.mpr ⟨decide_eq_true (by omega), decide_eq_true (by omega)⟩) (fun h => by cases h)
 ·have := hb (by omega)
  exact kids_good (by omega) (by omega) _ _ (by omega) rfl p18 (fun l hl => by simp only [validK, kidsN, Int.reduceEq, decide_true, decide_false, Bool.or_false, cond_false, cond_true]; exact decide_eq_true (by omega)) (fun _ => by omega)
 ·have := hb (by omega)
  exact kids_good (by omega) (by omega) _ _ (by omega) rfl p17 (fun l hl => by simp only [validK, kidsN, Int.reduceEq, decide_true, decide_false, Bool.or_false, Bool.or_true, cond_false, cond_true]; exact decide_eq_true (by omega)) (fun _ => by omega)
 iterate 2
  ·have := hb (by omega)
   have h1 := nextV_in t (n := 2) (by omega)
   exact kids_good (by omega) (by omega) _ _ (by omega) rfl p16 (fun l hl => by simp only [validK, kidsN, Int.reduceEq, decide_true, decide_false, Bool.or_false, Bool.true_or, cond_false, cond_true]; exact decide_eq_true (by omega)) (fun _ => by omega)
theorem typG_get (n : Int) : ∀ (m i : Nat) (s : Src) (j : Nat) (x : NodeD), (typG n m i s).1[j]? = some x → ∃ t : Src, x = (drawN ((i + j : Nat) : Int) n t).1
 | 0, i, s, j, x, h => by simp [typG] at h
 | m + 1, i, s, 0, x, h => by
  simp only [typG, List.getElem?_cons_zero, Option.some.injEq] at h
  exact ⟨s, h.symm⟩
 | m + 1, i, s, j + 1, x, h => by
  simp only [typG, List.getElem?_cons_succ] at h
  obtain ⟨t, e⟩ := typG_get n m (i + 1) _ j x h
  exact ⟨t, by rw [e]; congr 2; omega⟩
theorem typeV_len (n : Nat) (s : Src) : (typeV n s).1.length = n := typG_len _ _ _ _
theorem typeV_good (n : Nat) (hn : n ≤ 1000) (s : Src) (j : Nat) (x : NodeD) (h : (typeV n s).1[j]? = some x) : GoodN n j x := by
 obtain ⟨t, e⟩ := typG_get n n 0 s j x h
 have hj : j < n := by
  have := (List.getElem?_eq_some_iff.1 h).1
  rwa [typeV_len] at this
 rw [e, Nat.zero_add]
 exact draw_good j n t (by omega) (by omega) (by omega)
theorem good_wf {l : List NodeD} {r : Int} (h0 : 0 ≤ r) (hr : r < (l.length : Int)) (h : ∀ (j : Nat) (x : NodeD), l[j]? = some x → GoodN l.length j x) : wfP l r = 0 := by
 have ho : outE l r = false := by simp only [outE, Bool.or_eq_false_iff, decide_eq_false_iff_not]; omega
 have ha : l.all (nodeP l) = true := by
  rw [List.all_eq_true]
  intro x hx
  obtain ⟨j, hj⟩ := List.getElem?_of_mem hx
  have g := h j x hj
  unfold nodeP
  rw [g.plain, g.kind, Bool.true_and, Bool.true_and, List.all_eq_true]
  intro e he
  have := g.edge e he
  simp only [outE, Bool.not_eq_true', Bool.or_eq_false_iff, decide_eq_false_iff_not]; omega
 have hc : contrB l = true := by
  refine (Gr.all_iff (bo l) (ks l) l.length (ks_in (inR_of ha))).2 ?_
  have key : ∀ d j, l.length - j ≤ d → j < l.length → Gr.Fin (bo l) (ks l) j := by
   intro d
   induction d with
   | zero => intro j h1 h2; omega
   | succ d ih =>
    intro j h1 h2
    have hx : l[j]? = some l[j] := List.getElem?_eq_getElem h2
    have g := h j _ hx
    refine Gr.fin_of _ _ fun hb k hk => ?_
    have hkl := ks_in (inR_of ha) j h2 k hk
    unfold bo at hb
    rw [hx] at hb
    unfold ks at hk
    rw [hx] at hk
    obtain ⟨y, hy, rfl⟩ := List.mem_map.1 hk
    have := g.on hb y hy
    exact ih _ (by omega) hkl
  exact fun j hj => key _ j (Nat.le_refl _) hj
 unfold wfP
 rw [ho, ha, hc]; rfl
theorem typeV_wf (n : Nat) (hn : 1 ≤ n ∧ n ≤ 1000) (s : Src) : wfP (typeV n s).1 0 = 0 := by
  have hl := typeV_len n s
  refine good_wf (by omega) (by omega) fun j x hx => ?_
  rw [hl]
  exact typeV_good n hn.2 s j x hx
theorem good_sm {l : List NodeD} (hl : l.length ≤ 1000) (h : ∀ (j : Nat) (x : NodeD), l[j]? = some x → GoodN l.length j x) : TSm l := by
 refine ⟨by omega, fun x hx => ?_, fun x hx => ?_⟩
 all_goals
  obtain ⟨j, hj⟩ := List.getElem?_of_mem hx
  have g := h j x hj
  have h1 := g.kid
  have h2 := g.fld
  omega
theorem typeV_sm (n : Nat) (hn : n ≤ 1000) (s : Src) : TSm (typeV n s).1 := by
  have hl := typeV_len n s
  refine good_sm (by omega) fun j x hx => ?_
  rw [hl]
  exact typeV_good n hn s j x hx
end Go.Proofs.YthbcdhfiibpeaaaGreat

