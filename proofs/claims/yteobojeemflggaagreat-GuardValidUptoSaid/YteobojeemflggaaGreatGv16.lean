/- A part of the proof: lemmas about the walk of the program and about plain integers and lists. No conditions beyond those that each lemma states. -/
import Derived.Test.YteobojeemflggaaGreatGv15
import Derived.WalkKit
import Derived.ProofKit
import Derived.Lib.SliceRun
set_option linter.unusedSimpArgs false
set_option linter.unusedVariables false
set_option maxRecDepth 20000
set_option maxHeartbeats 16000000
namespace Go.Proofs.YteobojeemflggaaGreat
open Go Go.Sx
open Nat renaming reduceBEq → zA, reduceBNe → zB, reduceAdd → zC, reduceSub → zD, reduceMul → zE, reduceLeDiff → zF, reduceLT → zG, reduceEqDiff → zH
open Int renaming reduceToNat → zI, reduceLE → zJ, reduceLT → zK, reduceEq → zL
open Bool renaming not_eq_true' → zM, not_eq_false' → zN
theorem clip_calls (a : Option Addr) (n cap : Nat) (hn : n ≤ cap) (w : World) : Calls Tryz.prog 72 #[.slice a n cap] w fun e w' => e = .returned (.slice a n n) ∧ w' = w := by
  go_enter Tryz.func72, Tryz.ntmps72
  go_wp2
  all_goals go_ret
  all_goals exact ⟨rfl, rfl⟩
theorem clip_c (rows : List (List C)) : PC Tryz.prog 72 [.one (.dat (.sl 1 rows))] (.one (.dat (.sl 1 rows))) := by
  refine ⟨⟨_, Tryz.func72, by decide, rfl⟩, ?_⟩
  intro M ν w vs hs hreps
  simp only [T.reps, T.rep, Cell.rep, C.rep] at hreps
  obtain ⟨v, vs', rfl, ⟨a, cap, mid, rfl, h1, h2, h3, h4⟩, rfl⟩ := hreps
  refine Calls.mono (clip_calls a rows.length cap h1 w) ?_
  rintro e w' ⟨rfl, rfl⟩
  refine ⟨_, M, rfl, Mem.ext.refl _ M, ?_, hs⟩
  simp only [T.rep, Cell.rep, C.rep]
  exact ⟨a, rows.length, mid, rfl, Nat.le_refl _, Nat.le_trans h1 h2, h3, h4⟩
def namesG (g : Grd) : List (List UInt8) := sortedV (collG (soundG g))
theorem sound_sm {g : Grd} (hg : GSm g) : GSm (soundG g) := by
  unfold soundG GSm
  cases okG g
  · show cntG trueG ≤ _
    rw [cntG_eq]; decide
  · exact hg
theorem Names_c (g : Grd) (hg : GSm g) : PC Tryz.prog 37 [Gt g] (Ss (namesG g)) := by
  have h1 := sound_c g hg
  have hs := sound_sm hg
  have h2 := collect_n (soundG g) hs
  have hl : (collG (soundG g)).length ≤ 100000000 := Nat.le_trans (collG_len _) hs
  have h3 : PCBk Tryz.prog 71 [.one (.own 6 (collG (soundG g)).length)] 6 (.row 1 ((collG (soundG g)).map Sx.encStr)) (.tup []) (.row 1 (((collG (soundG g)).mergeSort fun x y => decide (x ≤ y)).map Sx.encStr)) :=
    PCBk.own1 6 (sortStr_c Go.Proofs.Tryz.sortS (collG (soundG g)) (by omega))
  have h4 : PCBk Tryz.prog 73 [.one (.own 6 (collG (soundG g)).length)] 6 (.row 1 (((collG (soundG g)).mergeSort fun x y => decide (x ≤ y)).map Sx.encStr)) (.one (.own 6 (namesG g).length)) (.row 1 ((namesG g).map Sx.encStr)) := by
    have h := compactStr_c Go.Proofs.Tryz.compS ((collG (soundG g)).mergeSort fun x y => decide (x ≤ y))
    rw [compact_sort, List.length_mergeSort] at h
    exact PCBk.own2 6 h
  have h5 := clip_c ((namesG g).map Sx.encStr)
  refine PCB.of_body Tryz.func37 rfl (by decide) Tryz.ntmps37 Tryz.results37 rfl rfl rfl ?_ rfl rfl
  repeat' (first | (simp only [go_sem, zA, zB, zC, zD, zE, zF, zG, reduceCtorEq, zH, zI, zJ, zK, zL, List.length_map]; all_goals fail_if_success guard_target =ₛ False) | (with_reducible first | ((first | refine seqVC_stepN rfl ?_ | refine AWP.seq ?_ | refine AWP.seqR (by kernel_rfl) ?_); intro K hK) | ((first | refine hK _ _ _ ?_ | refine hK _ _ ?_ | refine hK _ ?_); clear hK K) | refine seqVC_nil ?_ | refine AWP.block ?_ | (refine AWP.cond (by with_unfolding_all rfl) ?_ ?_ <;> intro h <;> (try simp only [zM, zN] at h) <;> try exact absurd h (by decide)) | refine AWP.skip ?_ | refine AWP.ret ?_ | refine AWP.exit ?_ | refine ⟨_, h1, ?_⟩ | refine Or.inr ⟨_, _, h2, ?_⟩ | refine ⟨_, h5, ?_⟩) | (apply Or.inr; refine ⟨6, _, _, _, h3, rfl, ?_⟩; simp only [go_sem, zA, zB, zC, zD, zE, zF, zG, reduceCtorEq, zH, zI, zJ, zK, zL]) | (apply Or.inr; refine ⟨6, _, _, _, h4, rfl, ?_⟩; simp only [go_sem, zA, zB, zC, zD, zE, zF, zG, reduceCtorEq, zH, zI, zJ, zK, zL]) | (with_reducible first | refine Or.inl ?_) | (clear hK K))
  all_goals (first | exact fun _ h => (by cases h) | (refine fin0 ?_; first | rfl | (simp only [zb, cond_true, cond_false, decide_true, decide_false] <;> rfl)))
def docG (g : Grd) : List (List UInt8) := bif okG g then sortedV (tstG g) else []
theorem GuardNames_c (g : Grd) (hg : GSm g) : PC Tryz.prog 38 [Gt g] (Ss (docG g)) := by
  have h1 := refValidate_g g hg
  have hc := code_ok g
  unfold docG
  cases hz : okG g <;> rw [hz] at hc
  ·
    refine PCB.of_body Tryz.func38 rfl (by decide) Tryz.ntmps38 Tryz.results38 rfl rfl rfl ?_ rfl rfl
    repeat' (first | (simp only [go_sem, zA, zB, zC, zD, zE, zF, zG, reduceCtorEq, zH, zI, zJ, zK, zL, hc]; all_goals fail_if_success guard_target =ₛ False) | (with_reducible first | ((first | refine seqVC_stepN rfl ?_ | refine AWP.seq ?_ | refine AWP.seqR (by kernel_rfl) ?_); intro K hK) | ((first | refine hK _ _ _ ?_ | refine hK _ _ ?_ | refine hK _ ?_); clear hK K) | refine seqVC_nil ?_ | refine AWP.block ?_ | (refine AWP.cond (by with_unfolding_all rfl) ?_ ?_ <;> intro h <;> (try simp only [zM, zN] at h) <;> try exact absurd h (by decide)) | refine AWP.skip ?_ | refine AWP.ret ?_ | refine AWP.exit ?_ | refine ⟨_, h1, ?_⟩ | refine Or.inl ?_) | (clear hK K))
    all_goals (first | exact fun _ h => (by cases h) | (refine fin0 ?_; first | rfl | (simp only [List.map_nil, zb, cond_true, cond_false, decide_true, decide_false] <;> rfl)))
  · have h2 := refTested_c g hg
    have hl : (tstG g).length ≤ 1000000 := by
      have h := tstG_len g
      unfold okG at hz
      simp only [Bool.and_eq_true, Bool.not_eq_true', decide_eq_false_iff_not] at hz
      omega
    have h3 := sorted_c (tstG g) hl
    refine PCB.of_body Tryz.func38 rfl (by decide) Tryz.ntmps38 Tryz.results38 rfl rfl rfl ?_ rfl rfl
    repeat' (first | (simp only [go_sem, zA, zB, zC, zD, zE, zF, zG, reduceCtorEq, zH, zI, zJ, zK, zL, hc]; all_goals fail_if_success guard_target =ₛ False) | (with_reducible first | ((first | refine seqVC_stepN rfl ?_ | refine AWP.seq ?_ | refine AWP.seqR (by kernel_rfl) ?_); intro K hK) | ((first | refine hK _ _ _ ?_ | refine hK _ _ ?_ | refine hK _ ?_); clear hK K) | refine seqVC_nil ?_ | refine AWP.block ?_ | (refine AWP.cond (by with_unfolding_all rfl) ?_ ?_ <;> intro h <;> (try simp only [zM, zN] at h) <;> try exact absurd h (by decide)) | refine AWP.skip ?_ | refine AWP.ret ?_ | refine AWP.exit ?_ | refine ⟨_, h1, ?_⟩ | refine ⟨_, h2, ?_⟩ | refine ⟨_, h3, ?_⟩ | refine Or.inl ?_) | (clear hK K))
    all_goals (first | exact fun _ h => (by cases h) | (refine fin0 ?_; first | rfl | (simp only [zb, cond_true, cond_false, decide_true, decide_false] <;> rfl)))
theorem names_eq (g : Grd) : namesG g = docG g := by
  unfold namesG docG soundG
  cases hz : okG g
  · show sortedV (collG trueG) = []
    rw [collG_eq]; rfl
  · simp only [cond_true]
    rw [coll_tst g (ok_tree hz)]
theorem judged_c (g : Grd) (hg : GSm g) : PC Tryz.prog 15 [Gt g] (Bo true) := by
  have h1 := Names_c g hg
  have h2 := GuardNames_c g hg
  rw [← names_eq] at h2
  have h3 := validate_g g hg
  have h4 := refValidate_g g hg
  generalize namesG g = L at *
  generalize codeG g = cd at *
  refine PCB.of_body Tryz.func15 rfl (by decide) Tryz.ntmps15 Tryz.results15 rfl rfl rfl ?_ rfl rfl
  repeat' (first | (simp only [go_sem, zA, zB, zC, zD, zE, zF, zG, reduceCtorEq, zH, zI, zJ, zK, zL, List.length_map]; all_goals fail_if_success guard_target =ₛ False) | (with_reducible first | ((first | refine seqVC_stepN rfl ?_ | refine AWP.seq ?_ | refine AWP.seqR (by kernel_rfl) ?_ | refine parVC_stepN rfl ?_ | refine parEVC_stepN rfl ?_ | refine genVC_stepN rfl ?_); intro K hK) | ((first | refine hK _ _ _ ?_ | refine hK _ _ ?_ | refine hK _ ?_); clear hK K) | refine seqVC_nil ?_ | refine parVC_nil ?_ | refine parEVC_nil ?_ | refine genVC_nil ?_ | refine AWP.block ?_ | (refine AWP.cond (by with_unfolding_all rfl) ?_ ?_ <;> intro h <;> (try simp only [zM, zN] at h) <;> try exact absurd h (by decide)) | refine AWP.skip ?_ | refine AWP.ret ?_ | refine AWP.exit ?_ | refine ⟨_, h1, ?_⟩ | refine ⟨_, h2, ?_⟩ | refine AWP.parR mixed (by kernel_rfl) fun K hK => ?_ | refine ⟨(by kernel_rfl : depB _ _ _ = true), ?_⟩ | refine Or.inl ?_) | (clear hK K))
  refine AWP.len 3 rfl fun hlen0 => ?_
  (try rw [List.length_map] at hlen0)
  refine AWP.range (S := Unit) (L) Sx.encStr (fun k s => (5, I .i64 (k : Nat)) :: []) (fun k s => []) [1, 3, 4] [1] (fun k s => Is () s) (()) (by simp only [go_sem, zA, zB, zC, zD, zE, zF, zG, reduceCtorEq, zH, zI, zJ, zK, zL]; exact Gh.to [] (by repeat (first | exact trivial | refine ⟨rfl, ?_⟩ | refine ⟨by (simp only [go_sem, zA, zB, zC, zD, zE, zF, zG, reduceCtorEq, zH, zI, zJ, zK, zL, List.length_append, List.length_map, List.length_cons, List.length_nil, Nat.zero_add]) <;> rfl, ?_⟩)) (by repeat (first | exact trivial | refine ⟨rfl, ?_⟩ | refine ⟨by (simp only [go_sem, zA, zB, zC, zD, zE, zF, zG, reduceCtorEq, zH, zI, zJ, zK, zL, List.length_append, List.length_map, List.length_cons, List.length_nil, Nat.zero_add]) <;> rfl, ?_⟩)) rfl rfl rfl) ?_ ?_ ?_
  · rfl
  · intro k s x hlt hx hx' hb hok
    simp only [go_sem, zA, zB, zC, zD, zE, zF, zG, reduceCtorEq, zH, zI, zJ, zK, zL]
    repeat' (first | (simp only [go_sem, zA, zB, zC, zD, zE, zF, zG, reduceCtorEq, zH, zI, zJ, zK, zL, Sx.encStr, List.length_map, hb]; all_goals fail_if_success guard_target =ₛ False) | (with_reducible first | ((first | refine seqVC_stepN rfl ?_ | refine AWP.seq ?_ | refine AWP.seqR (by kernel_rfl) ?_ | refine parVC_stepN rfl ?_ | refine parEVC_stepN rfl ?_ | refine genVC_stepN rfl ?_); intro K hK) | ((first | refine hK _ _ _ ?_ | refine hK _ _ ?_ | refine hK _ ?_); clear hK K) | refine seqVC_nil ?_ | refine parVC_nil ?_ | refine parEVC_nil ?_ | refine genVC_nil ?_ | refine AWP.block ?_ | (refine AWP.cond (by with_unfolding_all rfl) ?_ ?_ <;> intro h <;> (try simp only [zM, zN] at h) <;> try exact absurd h (by decide)) | refine AWP.skip ?_ | refine AWP.ret ?_ | refine AWP.exit ?_ | refine ⟨by omega, Sx.encStr x, hx', ?_⟩ | refine AWP.parR mixed (by kernel_rfl) fun K hK => ?_ | refine ⟨(by kernel_rfl : depB _ _ _ = true), ?_⟩ | refine Or.inl ?_) | (clear hK K))
    all_goals (rw [wrap_succ hlt hlen0])
    all_goals (refine ⟨(), ?_, Gh.to [] (by repeat (first | exact trivial | refine ⟨rfl, ?_⟩ | refine ⟨by (simp only [go_sem, zA, zB, zC, zD, zE, zF, zG, reduceCtorEq, zH, zI, zJ, zK, zL, List.length_append, List.length_map, List.length_cons, List.length_nil, Nat.zero_add]) <;> rfl, ?_⟩)) (by repeat (first | exact trivial | refine ⟨rfl, ?_⟩ | refine ⟨by (simp only [go_sem, zA, zB, zC, zD, zE, zF, zG, reduceCtorEq, zH, zI, zJ, zK, zL, List.length_append, List.length_map, List.length_cons, List.length_nil, Nat.zero_add]) <;> rfl, ?_⟩)) rfl rfl rfl⟩)
    all_goals rfl
  · intro s hb hok
    simp only [go_sem, zA, zB, zC, zD, zE, zF, zG, reduceCtorEq, zH, zI, zJ, zK, zL]
    repeat' (first | (simp only [go_sem, zA, zB, zC, zD, zE, zF, zG, reduceCtorEq, zH, zI, zJ, zK, zL, List.length_map, hb]; all_goals fail_if_success guard_target =ₛ False) | (with_reducible first | ((first | refine seqVC_stepN rfl ?_ | refine AWP.seq ?_ | refine AWP.seqR (by kernel_rfl) ?_ | refine parVC_stepN rfl ?_ | refine parEVC_stepN rfl ?_ | refine genVC_stepN rfl ?_); intro K hK) | ((first | refine hK _ _ _ ?_ | refine hK _ _ ?_ | refine hK _ ?_); clear hK K) | refine seqVC_nil ?_ | refine parVC_nil ?_ | refine parEVC_nil ?_ | refine genVC_nil ?_ | refine AWP.block ?_ | (refine AWP.cond (by with_unfolding_all rfl) ?_ ?_ <;> intro h <;> (try simp only [zM, zN] at h) <;> try exact absurd h (by decide)) | refine AWP.skip ?_ | refine AWP.ret ?_ | refine AWP.exit ?_ | refine ⟨_, h3, ?_⟩ | refine ⟨_, h4, ?_⟩ | refine AWP.parR mixed (by kernel_rfl) fun K hK => ?_ | refine ⟨(by kernel_rfl : depB _ _ _ = true), ?_⟩ | refine Or.inl ?_) | (clear hK K))
    all_goals (first | exact fun _ h => (by cases h) | (refine fin0 ?_; first | rfl | (simp only [zb, cond_true, cond_false, decide_true, decide_false] <;> rfl)))
end Go.Proofs.YteobojeemflggaaGreat
set_option linter.unusedVariables false
set_option linter.unusedSimpArgs false
namespace Go.Sx
variable {P : Program} {n : Nat} {σ : AS} {Q : Exit → AS → Prop}
/-- the state of such a region: the boxes are those made so far, or, once q of the stores are done, Bs q -/
def bxT (mk : Nat → Option (Nat × Res)) (B0 : Bx) (Bs : Nat → Bx) (m len : Nat) (X : Nat → Bool) : Bx :=
  bif X m then Bs (((List.range (len - m)).filter fun j => X (m + j)).length) else bxX mk B0 X m
structure MidT (κ : Kap) (M0 : Mem) (n : Nat) (l : List Oper) (t : Nat → T) (mk : Nat → Option (Nat × Res)) (B0 : Bx) (Bs : Nat → Bx) (m : Nat) (env0 : Env) (listed : Array Bool) (a : Act) (w : World) : Prop where
  size : listed.size = l.length
  closed : Closed l listed
  st : ∃ M ν, M0.ext κ M ∧ a.tmps.size = n ∧ a.defers = [] ∧ EnvOk M ν a.tmps (envA l t (xs listed) env0 l.length) ∧ Sat κ M ν (bxT mk B0 Bs m l.length (xs listed)) w ∧ ∀ k, pin ≤ k → ν k = κ.nu k
theorem filter_upto {p : Nat → Bool} {c : Nat} : ∀ len, c ≤ len → (∀ j, j < c → p j = true) → (∀ j, c ≤ j → j < len → p j = false) → ((List.range len).filter p).length = c
  | 0, h, _, _ => by have : c = 0 := by omega
                     subst this; rfl
  | len + 1, h, h1, h2 => by
    rw [List.range_succ, List.filter_append, List.length_append]
    by_cases hc : c ≤ len
    · rw [filter_upto len hc h1 (fun j a b => h2 j a (by omega))]
      simp [h2 len hc (by omega)]
    · have : c = len + 1 := by omega
      subst this
      rw [List.filter_eq_self.2 (fun x hx => h1 x (by have := List.mem_range.1 hx; omega))]
      simp [h1 len (by omega)]
theorem genMT_sound {κ : Kap} {M0 : Mem} {l : List Oper} {B0 : Bx} {t : Nat → T} {mk : Nat → Option (Nat × Res)} {env0 : Env} {Q' : Exit → Act → World → Prop}
    (hback : Back l) (hpairs : Pairs l) (hap : Apart mk B0) (hro : RowsOnly mk) {m : Nat} (hlen : ∀ i p, mk i = some p → i < m) (hm : m < l.length) (Bs : Nat → Bx)
    (hdstm : ∀ i o, m ≤ i → l[i]? = some o → o.dst = none ∧ o.guard = none) (htm : ∀ i, m ≤ i → t i = undefT)
    (hmkd : ∀ i j p, mk i = some p → m ≤ j → j < l.length → depB l j i = true) (hchain : ∀ i j, m ≤ i → i < j → j < l.length → depB l j i = true)
    (hB0 : ∀ q, q ≤ l.length - m → ∀ x ∈ B0, x ∈ Bs q) (hBs0 : Bs 0 = bxX mk B0 (fun _ => true) m)
    (hop : ∀ i o, m ≤ i → l[i]? = some o → OpE P o (envA l t (fun _ => true) env0 m) (Bs (i - m)) undefT (Bs (i - m + 1)))
    (hs : ∀ i o, i < m → l[i]? = some o → OSpecM P n l B0 o (envA l t (fun _ => true) env0 i) (t i) (mk i))
    (hfr : ∀ g k p, mk g = some p → g < k → k < l.length → (t k).fresh p.1 = true ∨ depB l k g = true)
    (hQ : ∀ a w, St κ M0 n ⟨envA l t (fun _ => true) env0 l.length, Bs (l.length - m)⟩ a w → Q' .normal a w) :
    ∀ (fuel : Nat) (listed : Array Bool) (a : Act) (w : World), cnt l listed = fuel → MidT κ M0 n l t mk B0 Bs m env0 listed a w →
      wpAny P .any l.toArray Q' fuel listed a w := by
  have envm : ∀ X : Nat → Bool, ∀ i, m ≤ i → i ≤ l.length → ∀ k, (envA l t X env0 i).lookup k = (envA l t X env0 m).lookup k := by
    intro X i
    induction i with
    | zero => intro h _ k; have : m = 0 := by omega
              subst this; rfl
    | succ i ih =>
      intro h hi k
      by_cases he : m = i + 1
      · subst he; rfl
      · rw [← ih (by omega) (by omega) k]
        obtain ⟨o, ho⟩ : ∃ o, l[i]? = some o := ⟨l[i]'(by omega), by rw [List.getElem?_eq_getElem]⟩
        have hd := (hdstm i o (by omega) ho).1
        rw [envA]
        cases X i
        · rfl
        · simp only [cond_true, ho, Option.bind_some, hd]; rfl
  have done : ∀ (listed : Array Bool) (a : Act) (w : World), MidT κ M0 n l t mk B0 Bs m env0 listed a w → (∀ i, i < l.length → listed.getD i false = true) → Q' .normal a w := by
    intro listed a w hm' hall
    obtain ⟨M, ν, h1, h2, h3, h4, h7, h8⟩ := hm'.st
    refine hQ a w ⟨M, ν, h1, h2, h3, ?_, ?_, h8⟩
    · intro d u hu
      refine h4 d u ?_
      rw [envA_same l t (xs listed) (fun _ => true) env0 d l.length (fun j o hj _ _ => hall j hj)]
      exact hu
    · have e1 : bxT mk B0 Bs m l.length (xs listed) = Bs (l.length - m) := by
        unfold bxT
        have : xs listed m = true := hall m hm
        rw [this, cond_true, filter_upto (p := fun j => xs listed (m + j)) (c := l.length - m) _ (Nat.le_refl _) (fun j hj => hall (m + j) (by omega)) (fun j a b => absurd b (by omega))]
      rw [e1] at h7
      exact h7
  intro fuel
  induction fuel with
  | zero =>
    intro listed a w hfuel hm'
    have hall := cnt_zero hfuel
    exact ⟨ready_none hm'.size hall, done listed a w hm' hall⟩
  | succ fuel ih =>
    intro listed a w hfuel hmid
    refine ⟨fun hr => done listed a w hmid (ready_least hback hmid.size hr), fun i hi => ?_⟩
    obtain ⟨h0, oi, hoi, hall⟩ := mem_ready.1 hi
    have hil : i < l.length := by have := (Array.getElem?_eq_some_iff.1 hoi).1; simpa using this
    have hoi' : l[i]? = some oi := by simpa using hoi
    have hisz : i < listed.size := by rw [hmid.size]; exact hil
    have hxi : listed.getD i false = false := by simp [hisz] at h0 ⊢; exact h0
    obtain ⟨M, ν, h1, h2, h3, h4, h7, h8⟩ := hmid.st
    have hd : dstOk n oi = true := by
      by_cases hiL : i < m
      · exact (hs i oi hiL hoi').1
      · unfold dstOk; rw [(hdstm i oi (by omega) hoi').1]
    have look : ∀ d, d ∈ oi.looksAt l.toArray → (envA l t (xs listed) env0 l.length).lookup d = (envA l t (fun _ => true) env0 i).lookup d := by
      intro d hdm
      rw [envA_skip l t (xs listed) env0 d i l.length (by omega) ?_, envA_same l t (xs listed) (fun _ => true) env0 d i ?_]
      · intro j o hj ho hod
        rcases hpairs j i o oi hj ho hoi' with ⟨e', he', hb', hon⟩ | hap
        · exact hon ▸ hall e' he' hb'
        · exact absurd hdm ((Oper.apart_spec hap).1 d hod)
      · intro j o hj hjl ho hod
        by_cases hji : i = j
        · subst hji; exact hxi
        · cases hxj : xs listed j with
          | false => rfl
          | true =>
            rcases hpairs i j oi o (by omega) hoi' ho with ⟨e', he', hb', hon⟩ | hap
            · have := hmid.closed j o ho hxj e' he' hb'
              rw [hon, hxi] at this; cases this
            · exact absurd hdm ((Oper.apart_spec hap).2.2 d hod)
    have hclosed : Closed l (listed.setIfInBounds i true) := by
      intro j oj hj hx e' he' hb'
      by_cases hji : i = j
      · subst hji
        rw [hoi'] at hj; cases hj
        exact getD_set_true (hall e' he' hb')
      · rw [getD_set_ne false hji] at hx
        exact getD_set_true (hmid.closed j oj hj hx e' he' hb')
    have hcount : cnt l (listed.setIfInBounds i true) = fuel := by
      have := cnt_set hmid.size hil hxi; omega
    have after : ∀ (M' : Mem) (ν' : Nu) (v : Value) (w' : World), M.ext κ M' → EnvOk M ν' a.tmps (envA l t (xs listed) env0 l.length) → (t i).rep M' ν' v → Sat κ M' ν' (bxT mk B0 Bs m l.length (xs (listed.setIfInBounds i true))) w' → (∀ k, pin ≤ k → ν' k = κ.nu k) →
        MidT κ M0 n l t mk B0 Bs m env0 (listed.setIfInBounds i true) (a.put oi.dst v) w' := by
      intro M' ν' v w' hle h4 hr hsat hpin
      refine ⟨by simpa using hmid.size, hclosed, M', ν', h1.trans hle, by rw [Act.put_size]; exact h2, by rw [Act.put_defers']; exact h3, ?_, hsat, hpin⟩
      have hput := EnvOk.put (df := a.defers) (h4.mono hle.1) (dst := oi.dst) (v := v) (t := t i) (fun d he => by rw [h2]; exact dstOk_spec hd d he) hr
      intro k u hu
      refine hput k u ?_
      rw [putE_lookup]
      by_cases hk : oi.dst = some k
      · rw [if_pos hk]
        have e1 := envA_skip l t (xs (listed.setIfInBounds i true)) env0 k (i + 1) l.length (by omega) (fun j o hj hjl ho hod => by
          cases hxj : xs (listed.setIfInBounds i true) j with
          | false => rfl
          | true =>
            have hne : i ≠ j := by omega
            have hxj' : listed.getD j false = true := by rw [← getD_set_ne false hne]; exact hxj
            rcases hpairs i j oi o (by omega) hoi' ho with ⟨e', he', hb', hon⟩ | hap
            · have := hmid.closed j o ho hxj' e' he' hb'
              rw [hon, hxi] at this; cases this
            · exact absurd hod ((Oper.apart_spec hap).2.1 k hk))
        rw [e1] at hu
        have hself : xs (listed.setIfInBounds i true) i = true := by simp [xs, hisz]
        rw [envA, hself] at hu
        simp only [cond_true, putE_lookup, hoi', Option.bind_some, hk, if_true] at hu
        exact hu
      · rw [if_neg hk]
        have e2 := envA_same l t (xs (listed.setIfInBounds i true)) (xs listed) env0 k l.length (fun j o hj ho hod => by
          have hne : i ≠ j := fun h => by subst h; rw [hoi'] at ho; cases ho; exact hk hod
          exact getD_set_ne false hne)
        rw [← e2]; exact hu
    have hon : EnvOn M ν a (envA l t (fun _ => true) env0 i) oi := by
      intro d u hdo hu
      refine h4 d u ?_
      rw [look d (looksAt_op hdo)]; exact hu
    have hgd : ∀ g want d u, oi.guard = some (g, want) → (l[g]?).bind (·.dst) = some d → (envA l t (fun _ => true) env0 i).lookup d = some u → u.rep M ν (a.tmps.getD d undef) := by
      intro g want d u hg hgd hu
      refine h4 d u ?_
      rw [look d (looksAt_guard hg hgd)]; exact hu
    have hself : xs (listed.setIfInBounds i true) i = true := by simp [xs, hisz]
    have hold : ∀ j, i ≠ j → xs (listed.setIfInBounds i true) j = xs listed j := fun j hj => getD_set_ne false hj
    by_cases hiL : m ≤ i
    · -- a store
      obtain ⟨c, rfl⟩ : ∃ c, i = m + c := ⟨i - m, by omega⟩
      obtain ⟨hdst, hgd0⟩ := hdstm _ oi hiL hoi'
      have hprev : ∀ j, j < c → listed.getD (m + j) false = true := fun j hj => dep_of (hchain (m + j) (m + c) (by omega) (by omega) hil) hoi' hmid.closed (fun e' he' hb' => hall e' he' hb')
      have hnext : ∀ j, c ≤ j → j < l.length - m → listed.getD (m + j) false = false := by
        intro j hj hjl
        by_cases he : j = c
        · subst he; exact hxi
        · cases hx : listed.getD (m + j) false with
          | false => rfl
          | true =>
            have hq : m + j < l.length := by omega
            have := dep_of (hchain (m + c) (m + j) (by omega) (by omega) hq) (List.getElem?_eq_getElem hq) hmid.closed (fun e' he' hb' => hmid.closed _ l[m + j] (List.getElem?_eq_getElem hq) hx e' he' hb')
            rw [hxi] at this; cases this
      have hmk' : ∀ j p, mk j = some p → listed.getD j false = true := fun j p hp => dep_of (hmkd j (m + c) p hp (by omega) hil) hoi' hmid.closed (fun e' he' hb' => hall e' he' hb')
      have hsat0 : Sat κ M ν (Bs c) w := by
        have hcnt := filter_upto (p := fun j => xs listed (m + j)) (c := c) (l.length - m) (by omega) hprev hnext
        unfold bxT at h7
        cases hc : xs listed m with
        | true =>
          rw [hc, cond_true, hcnt] at h7
          exact h7
        | false =>
          have hc0 : c = 0 := by
            rcases Nat.eq_zero_or_pos c with h | h
            · exact h
            · have := hprev 0 h; unfold xs at hc; rw [Nat.add_zero, hc] at this; cases this
          subst hc0
          rw [hc, cond_false] at h7
          rw [hBs0]
          refine h7.drop (fun x hx => ?_) (nodup_bxX hap (nodup_B0 h7.nodup) _)
          rcases mem_bxX.1 hx with h | ⟨j, hj, _, hk⟩
          · exact mem_bxX.2 (.inl h)
          · exact mem_bxX.2 (.inr ⟨j, hj, hmk' j x hk, hk⟩)
      have hopi := hop (m + c) oi hiL hoi'
      rw [show m + c - m = c by omega] at hopi
      have hon' : EnvOn M ν a (envA l t (fun _ => true) env0 m) oi := by
        intro d u hdo hu
        refine hon d u hdo ?_
        rw [envm (fun _ => true) (m + c) (by omega) (by omega)]; exact hu
      unfold wpOp
      rw [hoi]
      simp only []
      rw [if_pos (by simp [Region.wanted, hgd0])]
      left
      refine Oper.wp_mono_Q (Oper.wp_mono ?_ (hopi κ M ν a w hon' hsat0))
      rintro a' w' ⟨v, M', rfl, hle, hr, hsat⟩
      refine ih _ _ _ hcount (after M' ν v w' hle h4 (by rw [htm _ hiL]; exact hr) ?_ h8)
      have hcnt2 := filter_upto (p := fun j => xs (listed.setIfInBounds (m + c) true) (m + j)) (c := c + 1) (l.length - m) (by omega) (fun j hj => by
          by_cases he : j = c
          · subst he; exact hself
          · rw [hold (m + j) (by omega)]; exact hprev j (by omega)) (fun j a b => by rw [hold (m + j) (by omega)]; exact hnext j (by omega) b)
      unfold bxT
      have hXm : xs (listed.setIfInBounds (m + c) true) m = true := by
        by_cases he : c = 0
        · subst he; exact hself
        · rw [hold m (by omega)]; exact hprev 0 (by omega)
      rw [hXm, cond_true, hcnt2]
      exact hsat
    have hiL' : i < m := by omega
    have hspec := (hs i oi hiL' hoi').2
    have htl : ∀ j, m ≤ j → xs (listed.setIfInBounds i true) j = xs listed j := fun j hj => hold j (by omega)
    have cntsame : ((List.range (l.length - m)).filter fun j => xs (listed.setIfInBounds i true) (m + j)) = (List.range (l.length - m)).filter fun j => xs listed (m + j) := by
      congr 1; funext j; exact htl (m + j) (by omega)
    have hsub0 : ∀ x ∈ B0, x ∈ bxT mk B0 Bs m l.length (xs listed) := by
      intro x hx
      unfold bxT
      cases xs listed m
      · exact mem_bxX.2 (.inl hx)
      · refine hB0 _ ?_ x hx
        exact Nat.le_trans (List.length_filter_le _ _) (by simp)
    have same : mk i = none → ∀ {M' : Mem} {ν' : Nu} {w' : World}, Sat κ M' ν' (bxT mk B0 Bs m l.length (xs listed)) w' → Sat κ M' ν' (bxT mk B0 Bs m l.length (xs (listed.setIfInBounds i true))) w' := by
      intro hk M' ν' w' hsat
      unfold bxT at hsat ⊢
      rw [htl m (Nat.le_refl _), cntsame]
      cases hc : xs listed m with
      | true => rw [hc] at hsat; exact hsat
      | false =>
        rw [hc] at hsat
        simp only [cond_false] at hsat ⊢
        refine hsat.drop (fun x hx => ?_) (nodup_bxX hap (nodup_B0 hsat.nodup) _)
        rcases mem_bxX.1 hx with h | ⟨j, hj, hX, hkj⟩
        · exact mem_bxX.2 (.inl h)
        · have hne : i ≠ j := fun e => by subst e; rw [hk] at hkj; cases hkj
          exact mem_bxX.2 (.inr ⟨j, hj, by rw [← hold j hne]; exact hX, hkj⟩)
    unfold wpOp
    rw [hoi]
    simp only []
    rcases hspec with ⟨hg, ⟨hjn, hop'⟩ | ⟨k, r, hjn, hkp, hfk, hfB0, hop'⟩⟩ | ⟨hg, ht, hjn⟩
    · rw [if_pos (wanted_of hg hgd)]
      left
      refine Oper.wp_mono_Q (Oper.wp_mono ?_ (hop' κ M ν a w _ hsub0 hon h7))
      rintro a' w' ⟨v, M', rfl, hle, hr, hsat⟩
      exact ih _ _ _ hcount (after M' ν v w' hle h4 hr (same hjn hsat) h8)
    · -- a maker: no store is done yet
      have hc : xs listed m = false := by
        cases hx : xs listed m with
        | false => rfl
        | true =>
          have := dep_of (hmkd i m _ hjn (Nat.le_refl _) ‹m < l.length›) (List.getElem?_eq_getElem ‹m < l.length›) hmid.closed (fun e' he' hb' => hmid.closed m l[m] (List.getElem?_eq_getElem ‹m < l.length›) hx e' he' hb')
          rw [hxi] at this; cases this
      have hbx1 : bxT mk B0 Bs m l.length (xs listed) = bxX mk B0 (xs listed) m := by unfold bxT; rw [hc]; rfl
      have hbx2 : bxT mk B0 Bs m l.length (xs (listed.setIfInBounds i true)) = bxX mk B0 (xs (listed.setIfInBounds i true)) m := by unfold bxT; rw [htl m (Nat.le_refl _), hc]; rfl
      rw [hbx1] at h7
      rw [if_pos (wanted_of hg hgd)]
      left
      have nod : ((bxX mk B0 (xs (listed.setIfInBounds i true)) m).map (·.1)).Nodup := nodup_bxX hap (nodup_B0 h7.nodup) _
      have hfB : Bx.fresh k (bxX mk B0 (xs listed) m) = true := by
        refine bx_fresh_of fun x hx => ?_
        rcases mem_bxX.1 hx with h | ⟨j, hj, hX, hkj⟩
        · exact Bx.fresh_spec (j := x.1) (r := x.2) hfB0 h
        · have hne : j ≠ i := fun e => by subst e; unfold xs at hX; rw [hxi] at hX; cases hX
          refine ⟨hap.1 j i x _ hkj hjn hne, fun cs e => ?_⟩
          exact hro j x hkj k cs e
      refine Oper.wp_mono_Q (Oper.wp_mono ?_ (hop' _ (fun x hx => mem_bxX.2 (.inl hx)) hfB κ M ν a w hon h7))
      rintro a' w' ⟨v, M', ν', rfl, hle, hν, hr, hsat⟩
      obtain ⟨hf0, hft⟩ := fresh_envA i hfk
      have hfresh : Env.fresh k (envA l t (xs listed) env0 l.length) = true := by
        refine envA_fresh' hf0 l.length (fun q hq hx hdq => ?_)
        rcases Nat.lt_trichotomy q i with h | h | h
        · exact hft q h hdq
        · subst h; unfold xs at hx; rw [hxi] at hx; cases hx
        · rcases hfr i q _ hjn h hq with h' | h'
          · exact h'
          · exfalso
            have := dep_of h' (List.getElem?_eq_getElem hq) hmid.closed (fun e' he' hb' => hmid.closed q l[q] (List.getElem?_eq_getElem hq) hx e' he' hb')
            rw [hxi] at this; cases this
      refine ih _ _ _ hcount (after M' ν' v w' hle (h4.fresh hfresh hν) hr ?_ (fun q hq => by rw [hν q (by omega)]; exact h8 q hq))
      rw [hbx2]
      refine hsat.drop ?_ nod
      intro x hx
      rcases mem_bxX.1 hx with h | ⟨j, hj, hX, hkj⟩
      · exact List.mem_cons_of_mem _ (mem_bxX.2 (.inl h))
      · by_cases hne : i = j
        · subst hne; rw [hjn] at hkj; cases hkj; exact List.mem_cons_self
        · exact List.mem_cons_of_mem _ (mem_bxX.2 (.inr ⟨j, hj, by rw [← hold j hne]; exact hX, hkj⟩))
    · rw [unwanted_of hg hgd]
      simp only [Bool.false_eq_true, if_false]
      refine ih _ _ _ hcount (after M ν undef w (Mem.ext.refl κ M) h4 (by rw [ht]; simp [undefT, T.rep, Cell.rep, C.rep]) (same hjn h7) h8)
theorem genM_trace2 (all : List Oper) (es : List Nat) (B0 : Bx) (K : Env → Bx → Prop) : ∀ (l : List Oper) (i0 : Nat) (gs : List (Nat × Nat)) (env : Env) (B : Bx), dstsOk n l = true → (∀ x ∈ B0, x ∈ B) → genVCM P all es B0 i0 gs l env B K →
    ∃ (t : Nat → T) (mk : Nat → Option (Nat × Res)), (∀ i o, l[i]? = some o → OSpecM P n all B0 o (envA l t (fun _ => true) env i) (t i) (mk i)) ∧ (∀ i p, mk i = some p → i < l.length) ∧ RowsOnly mk ∧
      (∀ i p, mk i = some p → Bx.fresh p.1 B = true) ∧ (∀ i j p q, mk i = some p → mk j = some q → i ≠ j → p.1 ≠ q.1) ∧ (∀ i, i < l.length → FreshOr all (i0 + i) (t i) gs) ∧
      (∀ g k p, mk g = some p → g < k → k < l.length → (t k).fresh p.1 = true ∨ depB all (i0 + k) (i0 + g) = true) ∧ K (envA l t (fun _ => true) env l.length) (bxX mk B (fun _ => true) l.length) ∧ (∀ i p, mk i = some p → memN (i0 + i) es = true)
  | [], i0, gs, env, B, _, hB, h => ⟨fun _ => undefT, fun _ => none, fun i o ho => by simp at ho, fun _ _ h => (by cases h), fun _ _ h => (by cases h), fun _ _ h => (by cases h), fun _ _ _ _ h => (by cases h), fun i hi => by simp at hi, fun _ _ _ h => (by cases h), h, fun _ _ h => (by cases h)⟩
  | o :: os, i0, gs, env, B, hd, hB, h => by
    simp only [dstsOk, List.all_cons, Bool.and_eq_true] at hd
    obtain ⟨⟨hd1, hd2⟩, hd3⟩ := hd
    have step : ∃ (t0 : T) (B' : Bx) (j0 : Option (Nat × Res)) (gs' : List (Nat × Nat)), OSpecM P n all B0 o env t0 j0 ∧ (∀ x ∈ B, x ∈ B') ∧ B' = (match j0 with | some p => p :: B | none => B) ∧ (∀ p, j0 = some p → p.2.plain ∧ Bx.fresh p.1 B = true ∧ (i0, p.1) ∈ gs') ∧ FreshOr all i0 t0 gs ∧
        (∀ p ∈ gs, p ∈ gs') ∧ (∀ p, j0 = some p → memN i0 es = true) ∧ genVCM P all es B0 (i0 + 1) gs' os (putE env o.dst t0) B' K := by
      rcases guardT_true h with ⟨hg, hx⟩ | ⟨hg, hx⟩
      · cases hm : memN i0 es with
        | true =>
          rw [hm] at hx
          simp only [cond_true] at hx
          obtain ⟨t, r, hpl, hop, hfe, hfb, h2, h3⟩ := mkOp_sound hx
          refine ⟨t, _, some (dstN o, r), _, ⟨hd1, .inl ⟨hg, .inr ⟨_, _, rfl, Nat.le_of_ble_eq_true hd2, hfe, Bx.fresh_sub hfb hB, fun B' hs hf => hop B' hfe hf⟩⟩⟩, fun x hx => List.mem_cons_of_mem _ hx, rfl, fun p hp => ?_, h2, fun p hp => List.mem_cons_of_mem _ hp, fun _ _ => rfl, h3⟩
          cases hp
          exact ⟨hpl, hfb, List.mem_cons_self⟩
        | false =>
          rw [hm] at hx
          simp only [cond_false] at hx
          obtain ⟨t, hop, h2, h3⟩ := pureVC_sound hx
          exact ⟨t, B, none, gs, ⟨hd1, .inl ⟨hg, .inl ⟨rfl, hop⟩⟩⟩, fun _ h => h, rfl, fun p hp => (by cases hp), h2, fun _ h => h, fun p hp => (by cases hp), h3⟩
      · exact ⟨undefT, B, none, gs, ⟨hd1, .inr ⟨hg, rfl, rfl⟩⟩, fun _ h => h, rfl, fun p hp => (by cases hp), FreshOr_un gs, fun _ h => h, fun p hp => (by cases hp), hx⟩
    obtain ⟨t0, B', j0, gs', hspec, hsubB, hBe, hj0, hfr0, hsub, hmem0, hk⟩ := step
    obtain ⟨t, mk, hs, hlen, hro, hfb, hdis, hfr, hjj, hK, hmm⟩ := genM_trace2 all es B0 K os (i0 + 1) gs' _ B' hd3 (fun x hx => hsubB x (hB x hx)) hk
    have hmk : ∀ i p, (match i with | 0 => j0 | i + 1 => mk i) = some p → (i = 0 ∧ j0 = some p) ∨ ∃ i', i = i' + 1 ∧ mk i' = some p := by
      intro i p h
      cases i with
      | zero => exact .inl ⟨rfl, h⟩
      | succ i => exact .inr ⟨i, rfl, h⟩
    have ne0 : ∀ i p q, j0 = some p → mk i = some q → q.1 ≠ p.1 := by
      intro i p q h1 h2
      have h3 := hfb i q h2
      subst h1
      rw [hBe] at h3
      exact fun e => (Bx.fresh_spec (j := p.1) (r := p.2) h3 List.mem_cons_self).1 e.symm
    refine ⟨fun i => match i with | 0 => t0 | i + 1 => t i, fun i => match i with | 0 => j0 | i + 1 => mk i, ?_, ?_, ?_, ?_, ?_, ?_, ?_, ?_, ?_⟩
    · intro i o' ho
      cases i with
      | zero => simp at ho; subst ho; exact hspec
      | succ i =>
        rw [envA_cons]
        exact hs i o' (by simpa using ho)
    · intro i p h
      rcases hmk i p h with ⟨rfl, _⟩ | ⟨i', rfl, h⟩
      · simp
      · have := hlen i' p h; simp; omega
    · intro i p h
      rcases hmk i p h with ⟨rfl, h⟩ | ⟨i', rfl, h⟩
      · exact (hj0 p h).1
      · exact hro i' p h
    · intro i p h
      rcases hmk i p h with ⟨rfl, h⟩ | ⟨i', rfl, h⟩
      · exact (hj0 p h).2.1
      · exact Bx.fresh_sub (hfb i' p h) hsubB
    · intro i j p q h1 h2 hij
      rcases hmk i p h1 with ⟨rfl, h1⟩ | ⟨i', rfl, h1⟩ <;> rcases hmk j q h2 with ⟨rfl, h2⟩ | ⟨j', rfl, h2⟩
      · exact absurd rfl hij
      · exact fun e => ne0 j' p q h1 h2 e.symm
      · exact ne0 i' q p h2 h1
      · exact hdis i' j' p q h1 h2 (by omega)
    · intro i hi
      cases i with
      | zero => exact hfr0
      | succ i =>
        have := hfr i (by simpa using hi)
        rw [show i0 + 1 + i = i0 + (i + 1) by omega] at this
        exact gen_trace.FreshOr_sub hsub this
    · intro g k p hg hgk hk'
      cases k with
      | zero => omega
      | succ k =>
        rcases hmk g p hg with ⟨rfl, hg⟩ | ⟨g', rfl, hg⟩
        · have := FreshOr_spec (hfr k (by simpa using hk')) (i0, p.1) (hj0 p hg).2.2
          rwa [show i0 + 1 + k = i0 + (k + 1) by omega] at this
        · have := hjj g' k p hg (by omega) (by simpa using hk')
          rwa [show i0 + 1 + k = i0 + (k + 1) by omega, show i0 + 1 + g' = i0 + (g' + 1) by omega] at this
    · rw [List.length_cons, envA_cons, bxX_cons]
      rw [hBe] at hK
      exact hK
    · intro i p h
      rcases hmk i p h with ⟨rfl, h⟩ | ⟨i', rfl, h⟩
      · exact hmem0 p h
      · have := hmm i' p h
        rwa [show i0 + 1 + i' = i0 + (i' + 1) by omega] at this
def tailOk (o : Oper) : Bool := match o.op with | .store _ _ _ => o.dst.isNone && o.guard.isNone | _ => false
theorem tail_trace (all : List Oper) (B0 : Bx) (K : Env → Bx → Prop) : ∀ (l : List Oper) (env : Env) (B : Bx), (∀ x ∈ B0, x ∈ B) → l.all tailOk = true → parEVC P all B0 l env B K →
    ∃ Bs : Nat → Bx, Bs 0 = B ∧ (∀ i o, l[i]? = some o → OpE P o env (Bs i) undefT (Bs (i + 1))) ∧ (∀ q, q ≤ l.length → ∀ x ∈ B0, x ∈ Bs q) ∧ K env (Bs l.length)
  | [], env, B, hfix, _, h => ⟨fun _ => B, rfl, fun i o ho => by simp at ho, fun _ _ x hx => hfix x hx, h⟩
  | o :: os, env, B, hfix, ha, h => by
    simp only [List.all_cons, Bool.and_eq_true] at ha
    obtain ⟨ho, ha⟩ := ha
    unfold tailOk at ho
    split at ho
    · rename_i t x y hop
      simp only [Bool.and_eq_true, Option.isNone_iff_eq_none] at ho
      unfold parEVC at h
      rcases guardT_true h with ⟨_, h⟩ | ⟨hg, _⟩
      · rw [hop] at h
        simp only [] at h
        split at h
        · rename_i k hk
          obtain ⟨hn, h⟩ := h
          obtain ⟨B', h1, ⟨k', r, hk', rfl⟩, h2⟩ := vStore_sound hop (vStore_put h)
          rw [hk] at hk'; cases hk'
          have hfix' : ∀ x ∈ B0, x ∈ Bx.put k r B := fun x hx => mem_put_other (hfix x hx) (notIn_spec hn hx)
          rw [ho.1] at h2
          obtain ⟨Bs, e0, e1, e2, e3⟩ := tail_trace all B0 K os env _ hfix' ha h2
          refine ⟨fun i => match i with | 0 => B | i + 1 => Bs i, rfl, ?_, ?_, e3⟩
          · intro i o' ho'
            cases i with
            | zero => simp at ho'; subst ho'; show OpE P _ env B undefT (Bs 0); rw [e0]; exact h1
            | succ i => exact e1 i o' (by simpa using ho')
          · intro q hq x hx
            cases q with
            | zero => exact hfix x hx
            | succ q => exact e2 q (by simpa using hq) x hx
        · exact h.elim
      · exfalso
        unfold guardT at hg
        rw [ho.2] at hg
        exact hg
    · cases ho
def genMTOk (n : Nat) (l : List Oper) (es : List Nat) (m : Nat) : Bool := genMOk n l && (decide (m < l.length) && ((l.drop m).all tailOk && (List.range l.length).all fun j => decide (j < m) || (es.all (fun e => depB l j e) && (List.range j).all fun i => decide (i < m) || depB l j i)))
theorem memN_mem {i : Nat} : ∀ {es : List Nat}, memN i es = true → i ∈ es
  | [], h => (by cases h)
  | k :: ks, h => by
    unfold memN at h
    simp only [Bool.or_eq_true, beq_iff_eq] at h
    rcases h with rfl | h
    · exact List.mem_cons_self
    · exact List.mem_cons_of_mem _ (memN_mem h)
/-- THE RULE: es: the operations that make rows or boxes; from m on only stores, each behind the one before it and behind all makers -/
theorem AWP.genMT {id : Nat} {l : List Oper} {env : Env} {B : Bx} (es : List Nat) (m : Nat) (hm : P.follows .mixedOrders = true) (hl : genMTOk n l es m = true)
    (h : ∀ K : Env → Bx → Prop, (∀ e b, Q .normal ⟨e, b⟩ → K e b) → genVCM P l es B 0 [] (l.take m) env B fun env B' => parEVC P l B (l.drop m) env B' K) : AWP P n (.region id l.toArray true) ⟨env, B⟩ Q := by
  simp only [genMTOk, genMOk, Bool.and_eq_true, decide_eq_true_eq] at hl
  obtain ⟨⟨hlex, hds⟩, hlt, htail, hdep⟩ := hl
  have htl : (l.take m).length = m := by simp; omega
  have hdl : (l.drop m).length = l.length - m := by simp
  have hds' : dstsOk n (l.take m) = true := by
    unfold dstsOk at *
    rw [← List.take_append_drop m l, List.all_append, Bool.and_eq_true] at hds
    exact hds.1
  have hdropAt : ∀ i o, m ≤ i → l[i]? = some o → (l.drop m)[i - m]? = some o := by
    intro i o hi ho
    rw [List.getElem?_drop, show m + (i - m) = i by omega]; exact ho
  have hdstm : ∀ i o, m ≤ i → l[i]? = some o → o.dst = none ∧ o.guard = none := by
    intro i o hi ho
    have := List.all_eq_true.1 htail o (List.mem_of_getElem? (hdropAt i o hi ho))
    unfold tailOk at this
    split at this
    · simpa using this
    · cases this
  have hdp : ∀ j, m ≤ j → j < l.length → (∀ e ∈ es, depB l j e = true) ∧ ∀ i, m ≤ i → i < j → depB l j i = true := by
    intro j hj hjl
    have := List.all_eq_true.1 hdep j (List.mem_range.2 hjl)
    simp only [Bool.or_eq_true, Bool.and_eq_true, decide_eq_true_eq] at this
    rcases this with h | ⟨h1, h2⟩
    · omega
    · refine ⟨fun e he => List.all_eq_true.1 h1 e he, fun i hi hij => ?_⟩
      have := List.all_eq_true.1 h2 i (List.mem_range.2 hij)
      simp only [Bool.or_eq_true, decide_eq_true_eq] at this
      rcases this with h | h
      · omega
      · exact h
  intro κ M0 a w hs
  obtain ⟨hback, hpairs, _⟩ := lex_pairs hlex
  obtain ⟨t, mk, hsp, hlen, hro, hfb, hdis, _, hjj, hK, hmem⟩ := genM_trace2 l es B _ (l.take m) 0 [] env B hds' (fun x hx => hx) (h (fun e b => Q .normal ⟨e, b⟩) (fun _ _ k => k))
  rw [htl] at hlen hjj hK
  obtain ⟨Bs, hB0, hBop, hBsub, hQB⟩ := tail_trace l B _ (l.drop m) _ _ (fun x hx => mem_bxX.2 (.inl hx)) htail hK
  rw [hdl] at hBsub hQB
  have henv : ∀ (t' : Nat → T), (∀ i, i < m → t' i = t i) → ∀ i, i ≤ m → envA l t' (fun _ => true) env i = envA (l.take m) t (fun _ => true) env i := by
    intro t' ht i
    induction i with
    | zero => intro _; rfl
    | succ i ih =>
      intro hi
      rw [envA, envA, ih (by omega), ht i (by omega), List.getElem?_take_of_lt (by omega)]
  refine wp_region_any hm ?_
  have hsz : l.toArray.size = l.length := by simp
  rw [hsz]
  have hrep : ∀ j, (Array.replicate l.length false).getD j false = false := fun j => rep_getD _ j
  have hxs : ∀ j, xs (Array.replicate l.length false) j = false := fun j => rep_getD _ j
  let t' : Nat → T := fun i => if i < m then t i else undefT
  have ht' : ∀ i, i < m → t' i = t i := fun i hi => by simp [t', hi]
  have htm : ∀ i, m ≤ i → t' i = undefT := fun i hi => by simp [t', Nat.not_lt.2 hi]
  have hmkd : ∀ i j p, mk i = some p → m ≤ j → j < l.length → depB l j i = true := by
    intro i j p hp hj hjl
    have := hmem i p hp
    rw [Nat.zero_add] at this
    exact (hdp j hj hjl).1 i (memN_mem this)
  have hend : ∀ i, m ≤ i → i ≤ l.length → envA l t' (fun _ => true) env i = envA (l.take m) t (fun _ => true) env m := by
    intro i
    induction i with
    | zero => intro hi _; have : m = 0 := by omega
              subst this; rfl
    | succ i ih =>
      intro hi hil
      by_cases he : m = i + 1
      · subst he; exact henv t' ht' _ (Nat.le_refl _)
      · rw [← ih (by omega) (by omega), envA]
        obtain ⟨o, ho⟩ : ∃ o, l[i]? = some o := ⟨l[i]'(by omega), by rw [List.getElem?_eq_getElem]⟩
        simp only [cond_true, ho, Option.bind_some, (hdstm i o (by omega) ho).1]
        rfl
  refine genMT_sound (n := n) (κ := κ) (M0 := M0) (t := t') (mk := mk) (B0 := B) (env0 := env) (m := m) hback hpairs ⟨hdis, fun i p hp x hx => (Bx.fresh_spec (j := x.1) (r := x.2) (hfb i p hp) hx).1⟩ hro hlen hlt Bs hdstm htm hmkd (fun i j hi hij hj => (hdp j (by omega) hj).2 i hi hij) hBsub hB0 ?_ ?_ ?_ (fun a w s => ?_) l.length _ a _ ?_ ?_
  · intro i o hi ho
    rw [henv t' ht' m (Nat.le_refl _)]
    exact hBop (i - m) o (hdropAt i o hi ho)
  · intro i o hi ho
    rw [henv t' ht' i (by omega), ht' i hi]
    exact hsp i o (by rw [List.getElem?_take_of_lt hi]; exact ho)
  · intro g k p hg hgk hk
    by_cases hkm : k < m
    · rw [ht' k hkm]
      have := hjj g k p hg hgk hkm; simpa using this
    · left
      rw [htm k (by omega)]; rfl
  · rw [hend l.length (by omega) (Nat.le_refl _)] at s
    exact ⟨_, s, hQB⟩
  · unfold cnt
    have hfil : (List.range l.length).filter (fun i => !(Array.replicate l.length false).getD i false) = List.range l.length := by
      rw [List.filter_eq_self]
      intro x _
      simp only [hrep x, Bool.not_false]
    rw [hfil, List.length_range]
  · have hst := mid_start (σ := ⟨env, B⟩) (l := l) (t := t') (b := fun _ => B) (e := fun _ => false) rfl hs
    obtain ⟨M, ν, _, h1, h2, h3, h4, _, _, h7, h8⟩ := hst.st
    have hbx : ∀ q, bxX mk B (xs (Array.replicate l.length false)) q = B := by
      intro q
      induction q with
      | zero => rfl
      | succ q ih => unfold bxX; rw [hxs q]; simp only [ih]
    exact ⟨hst.size, hst.closed, M, ν, h1, h2, h3, h4, by unfold bxT; rw [hxs m, cond_false, hbx]; exact h7, h8⟩
end Go.Sx
set_option linter.unusedSimpArgs false
set_option linter.unusedVariables false
set_option maxRecDepth 20000
set_option maxHeartbeats 16000000
namespace Go.Proofs.YteobojeemflggaaGreat
open Go Go.Sx
open Nat renaming reduceBEq → zA, reduceBNe → zB, reduceAdd → zC, reduceSub → zD, reduceMul → zE, reduceLeDiff → zF, reduceLT → zG, reduceEqDiff → zH
open Int renaming reduceToNat → zI, reduceLE → zJ, reduceLT → zK, reduceEq → zL
open Bool renaming not_eq_true' → zM, not_eq_false' → zN
theorem cells_grd : ∀ (n : Nat) (row : List C), hasT Tryz.prog n 36 row → ∃ g : Grd, row = encG g := by
  intro n
  induction n using Nat.strongRecOn with
  | _ n ih =>
    intro row h
    obtain ⟨m, parts, rfl, rfl, hl, hf⟩ := cells_st Tryz.underlying36 h
    match parts, hl with
    | [p0, p1, p2, p3, p4, p5], _ =>
      obtain ⟨a0, rfl⟩ := cells_i64 Tryz.underlying3 (hf 0 _ p0 rfl rfl)
      obtain ⟨a1, rfl⟩ := cells_text Tryz.underlying9 (hf 1 _ p1 rfl rfl)
      obtain ⟨a2, rfl⟩ := cells_i64 Tryz.underlying2 (hf 2 _ p2 rfl rfl)
      obtain ⟨a3, rfl⟩ := cells_text Tryz.underlying9 (hf 3 _ p3 rfl rfl)
      obtain ⟨a4, rfl⟩ := cells_key (hf 4 _ p4 rfl rfl)
      obtain ⟨a5, rfl⟩ := cells_row (enc := encG) (sz := 7) Tryz.underlying34 (by kernel_rfl) (fun r hr => ih (m - 1) (by omega) r hr) (hf 5 _ p5 rfl rfl)
      exact ⟨⟨a0, a1, a2, a3, a4, a5⟩, by rw [encG_eq]; rfl⟩
mutual
theorem cnt_le : ∀ g : Grd, cntG g ≤ cbL (encG g)
  | ⟨kind, name, num, text, key, kids⟩ => by
    have h1 := cnts_le kids
    simp only [cntG, encG, cbL, cbC]; omega
theorem cnts_le : ∀ l : List Grd, cntGs l ≤ cbRs (encGs l)
  | [] => by simp [cntGs]
  | g :: l => by have h1 := cnt_le g; have h2 := cnts_le l; simp only [cntGs, encGs, cbRs]; omega
end
theorem valid_law (g : Grd) (hg : GSm g) (l : List Int) (hl : ∀ x ∈ l, -9223372036854775808 ≤ x ∧ x ≤ 9223372036854775807) (name : List UInt8) (n kind : Int) :
    PC Tryz.prog 4 [Gt g, .one (.dat (.sl 1 (l.map encInt))), S name, I .i64 n, I .i64 kind] (Bo true) := by
  have hsh : PC Tryz.prog 7 [.one (.dat (.sl 1 [[.sl 1 (l.map encInt)]]))] (Bo (!decide ((80 : Int) < (l.length : Int)))) := by
    have h := short_c [l]
    simpa only [List.all_cons, List.all_nil, Bool.and_true, List.map_cons, List.map_nil, encLL] using h
  have hsz := sizeG_c g hg
  have jg := judged_c g hg
  generalize hcn : cntG g = cn at hsz
  cases hb1 : decide ((50 : Int) < (cn : Int))
  case true =>
    refine PCB.of_body Tryz.func4 rfl (by decide) Tryz.ntmps4 Tryz.results4 rfl rfl rfl ?_ rfl rfl
    repeat' (first | (simp only [go_sem, zA, zB, zC, zD, zE, zF, zG, reduceCtorEq, zH, zI, zJ, zK, zL, List.length_map, hb1]; all_goals fail_if_success guard_target =ₛ False) | (with_reducible first | ((first | refine seqVC_stepN rfl ?_ | refine seqVC_stepG rfl (by with_unfolding_all rfl) ?_ | refine AWP.seq ?_ | refine AWP.seqR (by kernel_rfl) ?_ | refine parVC_stepN rfl ?_ | refine parVC_stepG rfl (by with_unfolding_all rfl) ?_ | refine parEVC_stepN rfl ?_ | refine parEVC_stepG rfl (by with_unfolding_all rfl) ?_ | refine genVC_stepN rfl ?_ | refine genVC_stepG rfl (by with_unfolding_all rfl) ?_); intro K hK) | ((first | refine hK _ _ _ ?_ | refine hK _ _ ?_ | refine hK _ ?_); clear hK K) | refine seqVC_nil ?_ | refine parVC_nil ?_ | refine parEVC_nil ?_ | refine genVC_nil ?_ | refine AWP.block ?_ | (refine AWP.cond (by with_unfolding_all rfl) ?_ ?_ <;> intro h <;> (try simp only [zM, zN] at h) <;> try exact absurd h (by decide)) | refine AWP.skip ?_ | refine AWP.ret ?_ | refine AWP.exit ?_ | (refine ⟨fun h => ?_, fun h => ?_⟩ <;> (try simp only [zM, zN] at h) <;> try simp only [h]) | refine ⟨_, hsz, ?_⟩ | refine ⟨_, awake25_c, ?_⟩ | (refine AWP.segP (id := 4) 3 mixed (by kernel_rfl) fun K hK => ?_; simp only [List.take_succ_cons, List.take_zero, List.drop_succ_cons, List.drop_zero]) | refine AWP.parR mixed (by kernel_rfl) fun K hK => ?_ | refine ⟨(by kernel_rfl : depB _ _ _ = true), ?_⟩ | refine Or.inl ?_) | (clear hK K))
    all_goals (first | exact fun _ h => (by cases h) | (refine fin0 ?_; first | rfl | (simp only [zb, cond_true, cond_false, decide_true, decide_false] <;> rfl)))
  cases hb2 : decide ((80 : Int) < (l.length : Int)) <;> rw [hb2] at hsh
  case true =>
    refine PCB.of_body Tryz.func4 rfl (by decide) Tryz.ntmps4 Tryz.results4 rfl rfl rfl ?_ rfl rfl
    repeat' (first | (simp only [go_sem, zA, zB, zC, zD, zE, zF, zG, reduceCtorEq, zH, zI, zJ, zK, zL, List.length_map, hb1]; all_goals fail_if_success guard_target =ₛ False) | (with_reducible first | ((first | refine seqVC_stepN rfl ?_ | refine seqVC_stepG rfl (by with_unfolding_all rfl) ?_ | refine AWP.seq ?_ | refine AWP.seqR (by kernel_rfl) ?_ | refine parVC_stepN rfl ?_ | refine parVC_stepG rfl (by with_unfolding_all rfl) ?_ | refine parEVC_stepN rfl ?_ | refine parEVC_stepG rfl (by with_unfolding_all rfl) ?_ | refine genVC_stepN rfl ?_ | refine genVC_stepG rfl (by with_unfolding_all rfl) ?_); intro K hK) | ((first | refine hK _ _ _ ?_ | refine hK _ _ ?_ | refine hK _ ?_); clear hK K) | refine seqVC_nil ?_ | refine parVC_nil ?_ | refine parEVC_nil ?_ | refine genVC_nil ?_ | refine AWP.block ?_ | (refine AWP.cond (by with_unfolding_all rfl) ?_ ?_ <;> intro h <;> (try simp only [zM, zN] at h) <;> try exact absurd h (by decide)) | refine AWP.skip ?_ | refine AWP.ret ?_ | refine AWP.exit ?_ | (refine ⟨fun h => ?_, fun h => ?_⟩ <;> (try simp only [zM, zN] at h) <;> try simp only [h]) | refine ⟨_, hsz, ?_⟩ | refine ⟨_, hsh, ?_⟩ | refine ⟨_, awake25_c, ?_⟩ | (refine AWP.segP (id := 4) 3 mixed (by kernel_rfl) fun K hK => ?_; simp only [List.take_succ_cons, List.take_zero, List.drop_succ_cons, List.drop_zero]) | refine AWP.parR mixed (by kernel_rfl) fun K hK => ?_ | refine ⟨(by kernel_rfl : depB _ _ _ = true), ?_⟩ | refine Or.inl ?_) | (clear hK K))
    all_goals (first | exact fun _ h => (by cases h) | (refine fin0 ?_; first | rfl | (simp only [zb, cond_true, cond_false, decide_true, decide_false] <;> rfl)))
  have hl8 : ¬ (80 : Int) < (l.length : Int) := of_decide_eq_false hb2
  have hs0 : (Src.mk l 0).ok := ⟨hl, by simp only; omega⟩
  have hm := (made_g 3 (by omega)).k 27 ⟨l, 0⟩ hs0
  have htm := tree_made 3 ⟨l, 0⟩
  generalize (madeG 3 ⟨l, 0⟩).1 = a at hm htm
  generalize (madeG 3 ⟨l, 0⟩).2 = s9 at hm
  have hca : cntG a ≤ 15 := htm.2
  have jall : ∀ (q : Int) (nm : List UInt8) (m : Int), PC Tryz.prog 15 [.st [.int .i64 q, .str nm, .int .i64 m, .str a.text, .int .i64 a.key.kind, .str a.key.text, .sl 7 (a.kids.map encG)]] (Bo true) := by
    intro q nm m
    have h := judged_c ⟨q, nm, m, a.text, a.key, a.kids⟩ (by
      have h1 := cntG_eq a
      have h2 : cntG ⟨q, nm, m, a.text, a.key, a.kids⟩ = 1 + cntGs a.kids := cntG_eq ⟨q, nm, m, a.text, a.key, a.kids⟩
      unfold GSm; omega)
    rw [show Gt ⟨q, nm, m, a.text, a.key, a.kids⟩ = T.st (encG ⟨q, nm, m, a.text, a.key, a.kids⟩) from rfl, encG_eq] at h
    exact h
  refine PCB.of_body Tryz.func4 rfl (by decide) Tryz.ntmps4 Tryz.results4 rfl rfl rfl ?_ rfl rfl
  repeat' (first | (simp only [go_sem, zA, zB, zC, zD, zE, zF, zG, reduceCtorEq, zH, zI, zJ, zK, zL, encG_eq a, List.length_map, hb1]; all_goals fail_if_success guard_target =ₛ False) | (with_reducible first | ((first | refine seqVC_stepN rfl ?_ | refine seqVC_stepG rfl (by with_unfolding_all rfl) ?_ | refine AWP.seq ?_ | refine AWP.seqR (by kernel_rfl) ?_ | refine parVC_stepN rfl ?_ | refine parVC_stepG rfl (by with_unfolding_all rfl) ?_ | refine parEVC_stepN rfl ?_ | refine parEVC_stepG rfl (by with_unfolding_all rfl) ?_ | refine genVC_stepN rfl ?_ | refine genVC_stepG rfl (by with_unfolding_all rfl) ?_ | refine genMVC_stepN rfl ?_ | refine genMVC_stepG rfl (by with_unfolding_all rfl) ?_); intro K hK) | ((first | refine hK _ _ _ ?_ | refine hK _ _ ?_ | refine hK _ ?_); clear hK K) | refine seqVC_nil ?_ | refine parVC_nil ?_ | refine parEVC_nil ?_ | refine genVC_nil ?_ | refine genMVC_nil ?_ | refine AWP.block ?_ | (refine AWP.cond (by with_unfolding_all rfl) ?_ ?_ <;> intro h <;> (try simp only [zM, zN] at h) <;> try exact absurd h (by decide)) | refine AWP.skip ?_ | refine AWP.ret ?_ | refine AWP.exit ?_ | (refine ⟨fun h => ?_, fun h => ?_⟩ <;> (try simp only [zM, zN] at h) <;> try simp only [h]) | refine ⟨_, hsz, ?_⟩ | refine ⟨_, hsh, ?_⟩ | refine ⟨_, jg, ?_⟩ | refine ⟨_, jall _ _ _, ?_⟩ | refine ⟨_, awake25_c, ?_⟩) | (refine ⟨27, _, _, _, hm, rfl, ?_⟩) | (with_reducible first | (refine AWP.genMT (id := 4) [3,4,5] 6 mixed (by kernel_rfl) fun K hK => ?_; simp only [List.take_succ_cons, List.take_zero, List.drop_succ_cons, List.drop_zero]) | refine AWP.parR mixed (by kernel_rfl) fun K hK => ?_ | refine ⟨(by kernel_rfl : depB _ _ _ = true), ?_⟩ | refine Or.inl ?_) | (clear hK K))
  all_goals (first | exact fun _ h => (by cases h) | (refine fin0 ?_; first | rfl | (simp only [zb, cond_true, cond_false, decide_true, decide_false] <;> rfl)))
end Go.Proofs.YteobojeemflggaaGreat
