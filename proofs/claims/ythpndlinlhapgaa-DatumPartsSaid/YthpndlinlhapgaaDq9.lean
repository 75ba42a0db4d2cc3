/- A part of the proof: lemmas about the walk of the program and about plain integers and lists. No conditions beyond those that each lemma states. -/
import Derived.Test.YthpndlinlhapgaaDq7
import Derived.Test.YthpndlinlhapgaaDq8
import Derived.Test.YthpndlinlhapgaaDq5
import Derived.Shelf.RegionOpenPlain
import Derived.Lib.Overlaps
import Derived.Lib.Walk
import Derived.Lib.SliceRun
import Derived.Lib.AppendZerosOnto
import Derived.Laws.NewBlocks
import Derived.Laws.Externs
import Derived.Laws.IdiomCopy
import Derived.WalkKit
import Derived.BigCall
namespace Go.Proofs.Ythpndlinlhapgaa
open Go Go.Sx
abbrev In64 (a : Int) : Prop := -9223372036854775808 ≤ a ∧ a ≤ 9223372036854775807
theorem wrap64 (x : Int) : ∃ k : Int, IntKind.i64.wrap x = x + k * 18446744073709551616 ∧ In64 (IntKind.i64.wrap x) := by
  have h : IntKind.i64.wrap x = Int.bmod x 18446744073709551616 := by
    unfold IntKind.wrap
    simp [IntKind.signed, IntKind.bits]
    rw [Int.bmod_def]
    split <;> split <;> omega
  rw [h]
  refine ⟨-((x + 9223372036854775808) / 18446744073709551616), ?_, ?_⟩
  · rw [Int.bmod_def]; split <;> omega
  · rw [Int.bmod_def]; split <;> (constructor <;> omega)
theorem wrap_mod (x : Int) (a k : Int) (h : In64 a) (hx : x = a + k * 18446744073709551616) : IntKind.i64.wrap x = a := by
  obtain ⟨j, h1, h2⟩ := wrap64 x
  omega
theorem back (a b : Int) (ha : In64 a) : IntKind.i64.wrap (IntKind.i64.wrap (a.tdiv b * b) + a.tmod b) = a := by
  obtain ⟨j, h1, h2⟩ := wrap64 (a.tdiv b * b)
  refine wrap_mod _ a j ha ?_
  have := Int.mul_tdiv_add_tmod a b
  rw [Int.mul_comm] at this
  omega
end Go.Proofs.Ythpndlinlhapgaa
set_option linter.unusedSimpArgs false
set_option linter.unusedVariables false
namespace Go.Proofs.Ythpndlinlhapgaa
open Go Go.Sx
theorem wrap_i64 (x : Int) : IntKind.i64.wrap x = (x + 9223372036854775808) % 18446744073709551616 - 9223372036854775808 := by
  simp [IntKind.wrap, IntKind.signed, IntKind.bits, Int.bmod]
  split <;> omega
end Go.Proofs.Ythpndlinlhapgaa
set_option linter.unusedSimpArgs false
set_option linter.unusedVariables false
set_option maxRecDepth 20000
namespace Go.Proofs.Ythpndlinlhapgaa
open Go Go.Sx
/-- what a datum without code shows -/
def Bare (d : Dat) : Prop := d.mod = [] ∧ d.version = 0 ∧ d.routine = 0 ∧ d.wrapped = false ∧ d.nodes = [] ∧ d.root = 0 ∧ d.inner = [] ∧ d.outer = []
inductive Good : Dat → Prop
  | mk (d : Dat) (hn : In64 d.num) (h1 : d.kids.length ≤ 1000) (h2 : d.keys.length ≤ 1000) (hf : d.kind ≠ 9 → Bare d) (hk : ∀ k ∈ d.kids, Good k) : Good d
theorem Good.num {d : Dat} (h : Good d) : In64 d.num := by cases h; assumption
theorem Good.kids {d : Dat} (h : Good d) : d.kids.length ≤ 1000 := by cases h; assumption
theorem Good.keys {d : Dat} (h : Good d) : d.keys.length ≤ 1000 := by cases h; assumption
theorem Good.kid {d : Dat} (h : Good d) : ∀ k ∈ d.kids, Good k := by cases h; assumption
theorem Good.small {d : Dat} (h : Good d) : Small d := by
  induction h with
  | mk d hn h1 h2 hf hk ih => exact .mk d (by omega) (by omega) ih
theorem keyC_zero {a b : KeyD} : keyC a b = 0 ↔ a = b := by
  unfold keyC
  rw [chainC_zero, cmpI_zero, cmpB_zero]
  cases a; cases b; simp
structure GoodA (n : Nat) (a : PutA) : Prop where
  k : a.keys.length ≤ n
  d : a.kids.length ≤ n
  g : ∀ d ∈ a.kids, Good d
theorem GoodA.le {n m : Nat} {a : PutA} (h : GoodA n a) (hm : n ≤ m) : GoodA m a := ⟨by have := h.k; omega, by have := h.d; omega, h.g⟩
end Go.Proofs.Ythpndlinlhapgaa


set_option linter.unusedSimpArgs false
set_option linter.unusedVariables false
set_option maxRecDepth 20000
set_option maxHeartbeats 16000000
namespace Go.Proofs.Ythpndlinlhapgaa
open Go Go.Sx
open Bool renaming not_eq_true' → zM, not_eq_false' → zN
theorem eachDat_c (F : FuncId) (l : List Dat) (hl : l.length ≤ 100000000) (h : ∀ d ∈ l, PC Try.prog F [.st (encDat d)] (.st (encDat d))) : PC Try.prog 30 [.one (.dat (.sl 13 (l.map encDat))), .one (.dat (.fn F))] (.one (.dat (.sl 13 (l.map encDat)))) := by
  refine PCB.ob Try.func30 Try.ntmps30 Try.results30 ?_
  refine AWP.ghQ ?_
  repeat' (first | (simp only [go_sem, List.length_map]; all_goals refine nf ?_) | (refine stp ?_; intro K hK) | (apply hK; clear hK K) | refine stn ?_ | (refine AWP.cnd ?_ ?_ <;> intro h <;> (try simp only [zM, zN] at h)) | (refine ⟨fun h => ?_, fun h => ?_⟩ <;> (try simp only [zM, zN] at h) <;> try simp only [h]) | refine stq ?_ | (clear hK K))
  refine AWP.gh (Gh.nilrow 5 900 rfl rfl rfl rfl) ?_
  refine AWP.len 8 rfl fun hlen0 => ?_
  (try rw [List.length_map] at hlen0)
  refine AWP.range (S := List (Dat)) (l) encDat (fun k s => (10, I .i64 (k : Nat)) :: [(5, .one (.own 900 s.length))]) (fun k s => [(900, .row 13 (s.map encDat))]) [1, 8, 9] [] (fun k s => Is s (l.take k)) ([]) (by refine sts ?_; exact Gh.tt []) ?_ ?_ ?_
  · simp [Is]
  · intro k s x hlt hx hx' hb hok
    refine sts ?_
    have hix := h x (List.mem_of_getElem? hx)
    have hsl : s.length ≤ k := by rw [show s = _ from hok, List.length_take]; omega
    have hsn : s.map encDat ++ [encDat x] = (s ++ [x]).map encDat := by simp
    repeat' (first | (simp only [go_sem, List.length_map, hb, hsn]; all_goals refine nf ?_) | (refine stp ?_; intro K hK) | (apply hK; clear hK K) | refine stn ?_ | (refine AWP.cnd ?_ ?_ <;> intro h <;> (try simp only [zM, zN] at h)) | (refine ⟨fun h => ?_, fun h => ?_⟩ <;> (try simp only [zM, zN] at h) <;> try simp only [h]) | (with_reducible first | refine ⟨_, hix, ?_⟩ | refine ⟨by omega, encDat x, hx', ?_⟩ | (refine ⟨(by first | omega | (simp only [List.length_append, List.length_map, List.length_take, List.length_drop, List.length_cons, List.length_nil, List.length_replicate]; omega) : _ ≤ _), ?_⟩) | refine ⟨by omega, by omega, ?_⟩) | refine stq ?_ | (clear hK K))
    all_goals (rw [wrap_succ hlt hlen0])
    all_goals (refine ⟨s ++ [x], ?_, Gh.tt [(900, 19)]⟩)
    all_goals (rw [Is, List.take_add_one, hx, ← show s = _ from hok]; rfl)
  · intro s hb hok
    refine sts ?_
    rw [Is, List.take_length] at hok
    repeat' (first | (simp only [go_sem, List.length_map, hb]; all_goals refine nf ?_) | (refine stp ?_; intro K hK) | (apply hK; clear hK K) | refine stn ?_ | (refine AWP.cnd ?_ ?_ <;> intro h <;> (try simp only [zM, zN] at h)) | (refine ⟨fun h => ?_, fun h => ?_⟩ <;> (try simp only [zM, zN] at h) <;> try simp only [h]) | refine stq ?_ | (clear hK K))
    refine ⟨_, Gh.fz 900, ?_⟩
    simp only [go_sem, List.length_map]
    all_goals (first | exact fun _ h => absurd h List.not_mem_nil | refine fin0 ?_)
    all_goals (rw [show s = _ from hok])
theorem eachNode_c (F : FuncId) (l : List NodeD) (hl : l.length ≤ 100000000) (h : ∀ d ∈ l, PC Try.prog F [.st (encNode d)] (.st (encNode d))) : PC Try.prog 50 [.one (.dat (.sl 8 (l.map encNode))), .one (.dat (.fn F))] (.one (.dat (.sl 8 (l.map encNode)))) := by
  refine PCB.ob Try.func50 Try.ntmps50 Try.results50 ?_
  refine AWP.ghQ ?_
  repeat' (first | (simp only [go_sem, List.length_map]; all_goals refine nf ?_) | (refine stp ?_; intro K hK) | (apply hK; clear hK K) | refine stn ?_ | (refine AWP.cnd ?_ ?_ <;> intro h <;> (try simp only [zM, zN] at h)) | (refine ⟨fun h => ?_, fun h => ?_⟩ <;> (try simp only [zM, zN] at h) <;> try simp only [h]) | refine stq ?_ | (clear hK K))
  refine AWP.gh (Gh.nilrow 5 900 rfl rfl rfl rfl) ?_
  refine AWP.len 8 rfl fun hlen0 => ?_
  (try rw [List.length_map] at hlen0)
  refine AWP.range (S := List (NodeD)) (l) encNode (fun k s => (10, I .i64 (k : Nat)) :: [(5, .one (.own 900 s.length))]) (fun k s => [(900, .row 8 (s.map encNode))]) [1, 8, 9] [] (fun k s => Is s (l.take k)) ([]) (by refine sts ?_; exact Gh.tt []) ?_ ?_ ?_
  · simp [Is]
  · intro k s x hlt hx hx' hb hok
    refine sts ?_
    have hix := h x (List.mem_of_getElem? hx)
    have hsl : s.length ≤ k := by rw [show s = _ from hok, List.length_take]; omega
    have hsn : s.map encNode ++ [encNode x] = (s ++ [x]).map encNode := by simp
    repeat' (first | (simp only [go_sem, List.length_map, hb, hsn]; all_goals refine nf ?_) | (refine stp ?_; intro K hK) | (apply hK; clear hK K) | refine stn ?_ | (refine AWP.cnd ?_ ?_ <;> intro h <;> (try simp only [zM, zN] at h)) | (refine ⟨fun h => ?_, fun h => ?_⟩ <;> (try simp only [zM, zN] at h) <;> try simp only [h]) | (with_reducible first | refine ⟨_, hix, ?_⟩ | refine ⟨by omega, encNode x, hx', ?_⟩ | (refine ⟨(by first | omega | (simp only [List.length_append, List.length_map, List.length_take, List.length_drop, List.length_cons, List.length_nil, List.length_replicate]; omega) : _ ≤ _), ?_⟩) | refine ⟨by omega, by omega, ?_⟩) | refine stq ?_ | (clear hK K))
    all_goals (rw [wrap_succ hlt hlen0])
    all_goals (refine ⟨s ++ [x], ?_, Gh.tt [(900, 19)]⟩)
    all_goals (rw [Is, List.take_add_one, hx, ← show s = _ from hok]; rfl)
  · intro s hb hok
    refine sts ?_
    rw [Is, List.take_length] at hok
    repeat' (first | (simp only [go_sem, List.length_map, hb]; all_goals refine nf ?_) | (refine stp ?_; intro K hK) | (apply hK; clear hK K) | refine stn ?_ | (refine AWP.cnd ?_ ?_ <;> intro h <;> (try simp only [zM, zN] at h)) | (refine ⟨fun h => ?_, fun h => ?_⟩ <;> (try simp only [zM, zN] at h) <;> try simp only [h]) | refine stq ?_ | (clear hK K))
    refine ⟨_, Gh.fz 900, ?_⟩
    simp only [go_sem, List.length_map]
    all_goals (first | exact fun _ h => absurd h List.not_mem_nil | refine fin0 ?_)
    all_goals (rw [show s = _ from hok])
theorem cloneInts_c (l : List (List C)) (hl : l.length ≤ 100000000) : PC Try.prog 65 [.one (.dat (.sl 1 l))] (.one (.dat (.sl 1 l))) := by
  refine PCB.ob Try.func65 Try.ntmps65 Try.results65 ?_
  refine AWP.ghQ ?_
  repeat' (first | ( refine AWP.nilR (e := 3) rfl (by decide) (by decide) rfl (fun hnil => ?_) ?_) | (simp only [go_sem]; all_goals refine nf ?_) | (refine stp ?_; intro K hK) | (apply hK; clear hK K) | refine stn ?_ | (refine AWP.cnd ?_ ?_ <;> intro h <;> (try simp only [zM, zN] at h)) | (refine ⟨fun h => ?_, fun h => ?_⟩ <;> (try simp only [zM, zN] at h) <;> try simp only [h]) | (with_reducible first | (refine Or.inr (show vBuildOwn _ 5 _ _ _ _ _ _ from ?_); unfold vBuildOwn; with_reducible refine Or.inr ?_; simp only [vBuildRow, go_sem]) | (refine ⟨(by first | omega | (simp only [List.length_append, List.length_map, List.length_take, List.length_drop, List.length_cons, List.length_nil, List.length_replicate]; omega) : _ ≤ _), ?_⟩) | refine ⟨by omega, by omega, ?_⟩) | refine stq ?_ | (clear hK K))
  · refine ⟨_, Gh.refl _, ?_⟩
    simp only [go_sem]
    refine fin0 ?_
    rw [hnil]
  ·
    refine ⟨_, Gh.fz 7, ?_⟩
    refine sts ?_
    all_goals (first | exact fun _ h => absurd h List.not_mem_nil | refine fin0 ?_)
    all_goals rfl
theorem cloneFields_c (l : List (List C)) (hl : l.length ≤ 100000000) : PC Try.prog 66 [.one (.dat (.sl 4 l))] (.one (.dat (.sl 4 l))) := by
  refine PCB.ob Try.func66 Try.ntmps66 Try.results66 ?_
  refine AWP.ghQ ?_
  repeat' (first | ( refine AWP.nilR (e := 78) rfl (by decide) (by decide) rfl (fun hnil => ?_) ?_) | (simp only [go_sem]; all_goals refine nf ?_) | (refine stp ?_; intro K hK) | (apply hK; clear hK K) | refine stn ?_ | (refine AWP.cnd ?_ ?_ <;> intro h <;> (try simp only [zM, zN] at h)) | (refine ⟨fun h => ?_, fun h => ?_⟩ <;> (try simp only [zM, zN] at h) <;> try simp only [h]) | (with_reducible first | (refine Or.inr (show vBuildOwn _ 5 _ _ _ _ _ _ from ?_); unfold vBuildOwn; with_reducible refine Or.inr ?_; simp only [vBuildRow, go_sem]) | (refine ⟨(by first | omega | (simp only [List.length_append, List.length_map, List.length_take, List.length_drop, List.length_cons, List.length_nil, List.length_replicate]; omega) : _ ≤ _), ?_⟩) | refine ⟨by omega, by omega, ?_⟩) | refine stq ?_ | (clear hK K))
  · refine ⟨_, Gh.refl _, ?_⟩
    simp only [go_sem]
    refine fin0 ?_
    rw [hnil]
  ·
    refine ⟨_, Gh.fz 7, ?_⟩
    refine sts ?_
    all_goals (first | exact fun _ h => absurd h List.not_mem_nil | refine fin0 ?_)
    all_goals rfl
theorem encNode_soft (x : NodeD) : (encNode x).map C.soft = encNode x := rfl
theorem cnode_c (x : NodeD) (h1 : x.kids.length ≤ 100000000) (h2 : x.fields.length ≤ 100000000) : PC Try.prog 51 [.st (encNode x)] (.st (encNode x)) := by
  have c1 := cloneInts_c (x.kids.map encInt) (by rw [List.length_map]; exact h1)
  have c2 := cloneFields_c (x.fields.map encField) (by rw [List.length_map]; exact h2)
  refine PCB.ob Try.func51 Try.ntmps51 Try.results51 ?_
  repeat' (first | (simp only [go_sem, encNode]; all_goals refine nf ?_) | (refine stp ?_; intro K hK) | (apply hK; clear hK K) | refine stn ?_ | (refine AWP.cnd ?_ ?_ <;> intro h <;> (try simp only [zM, zN] at h)) | (refine ⟨fun h => ?_, fun h => ?_⟩ <;> (try simp only [zM, zN] at h) <;> try simp only [h]) | (with_reducible first | refine ⟨_, c1, ?_⟩ | refine ⟨_, c2, ?_⟩) | (with_reducible refine AWP.genR2 (id := 1) [7,9] [1] [1,4] 6 [] mixed (by kernel_rfl) fun K hK => ?_; simp only [Bx.outs, Bx.drop, cond_true, cond_false, Nat.reduceBEq, go_sem]) | (refine stp' ?_; intro K hK) | refine stq ?_ | (clear hK K))
  all_goals (first | exact fun _ h => absurd h List.not_mem_nil | refine fin0 ?_)
  all_goals rfl
end Go.Proofs.Ythpndlinlhapgaa
set_option linter.unusedVariables false
namespace Go.Sx
variable {P : Program}
attribute [go_sem] evsH Bx.drops
theorem vCallX.mk {g : FuncId} {us : List T} {env : Env} {B : Bx} {K : T → Bx → Prop} {r : T} {B1 B1' : Bx} (h : PCX P g us B1 r B1') (h1 : Bx.subL B1 B) (h2 : nodupN (B1.map (·.1)) = true) (h3 : newNames (B1'.map (·.1)) env B = true)
    (h4 : r.inP (B1'.map (·.1)).contains = true) (h5 : bxInP (B1'.map (·.1)).contains B1' = true) (hK : K r (B1' ++ Bx.drops (B1.map (·.1)) B)) : vCallX P g us env B K :=
  ⟨r, B1, B1', h, h1, h2, h3, h4, h5, hK⟩
end Go.Sx
set_option linter.unusedSimpArgs false
set_option linter.unusedVariables false
set_option maxRecDepth 20000
set_option maxHeartbeats 16000000
namespace Go.Proofs.Ythpndlinlhapgaa
open Go Go.Sx
open Bool renaming not_eq_true' → zM, not_eq_false' → zN
def NSm (x : NodeD) : Prop := x.kids.length ≤ 100000000 ∧ x.fields.length ≤ 100000000
/-- nothing of the datum is too long for a copy -/
inductive DCl : Dat → Prop
  | mk (d : Dat) (h1 : d.kids.length ≤ 1000000) (h2 : d.keys.length ≤ 1000000) (h3 : d.nodes.length ≤ 100000000) (h4 : ∀ x ∈ d.nodes, NSm x) (h : ∀ k ∈ d.kids, DCl k) : DCl d
theorem DCl.kids {d : Dat} (h : DCl d) : d.kids.length ≤ 1000000 := by cases h; assumption
theorem DCl.keys {d : Dat} (h : DCl d) : d.keys.length ≤ 1000000 := by cases h; assumption
theorem DCl.nodes {d : Dat} (h : DCl d) : d.nodes.length ≤ 100000000 := by cases h; assumption
theorem DCl.node {d : Dat} (h : DCl d) : ∀ x ∈ d.nodes, NSm x := by cases h; assumption
theorem DCl.kid {d : Dat} (h : DCl d) : ∀ k ∈ d.kids, DCl k := by cases h; assumption
theorem DCl.small {d : Dat} (h : DCl d) : Small d := by
  induction h with
  | mk d h1 h2 h3 h4 h ih => exact Small.mk d h1 h2 ih
theorem cloneType_c (l : List NodeD) (r : Int) (hl : l.length ≤ 100000000) (h : ∀ x ∈ l, NSm x) : PC Try.prog 32 [.st [.sl 8 (l.map encNode), .int .i64 r]] (.st [.sl 8 (l.map encNode), .int .i64 r]) := by
  have c1 := eachNode_c 51 l hl fun x hx => cnode_c x (h x hx).1 (h x hx).2
  refine PCB.ob Try.func32 Try.ntmps32 Try.results32 ?_
  repeat' (first | (simp only [go_sem]; all_goals refine nf ?_) | (refine stp ?_; intro K hK) | (apply hK; clear hK K) | refine stn ?_ | (refine AWP.cnd ?_ ?_ <;> intro h <;> (try simp only [zM, zN] at h)) | (refine ⟨fun h => ?_, fun h => ?_⟩ <;> (try simp only [zM, zN] at h) <;> try simp only [h]) | (with_reducible refine ⟨_, c1, ?_⟩) | refine stq ?_ | (clear hK K))
  all_goals (first | exact fun _ h => absurd h List.not_mem_nil | refine fin0 ?_)
  all_goals rfl
theorem cloneDat_c (d : Dat) (hd : DCl d) : PC Try.prog 19 [.st (encDat d)] (.st (encDat d)) := by
  have ih : ∀ k ∈ d.kids, PC Try.prog 19 [.st (encDat k)] (.st (encDat k)) := fun k hk => cloneDat_c k (hd.kid k hk)
  have c1 := eachDat_c 19 d.kids (by have := hd.kids; omega) ih
  have c2 := cloneKeys_c d.keys (by have := hd.keys; omega)
  have c3 := cloneType_c d.nodes d.root hd.nodes hd.node
  rw [encDat_eq]
  refine PCB.ob Try.func19 Try.ntmps19 Try.results19 ?_
  repeat' (first | (simp only [go_sem, encDat_eq d]; all_goals refine nf ?_) | (refine stp ?_; intro K hK) | (apply hK; clear hK K) | refine stn ?_ | (refine AWP.cnd ?_ ?_ <;> intro h <;> (try simp only [zM, zN] at h)) | (refine ⟨fun h => ?_, fun h => ?_⟩ <;> (try simp only [zM, zN] at h) <;> try simp only [h]) | (with_reducible first | refine ⟨_, c1, ?_⟩ | refine ⟨_, c2, ?_⟩ | refine ⟨_, c3, ?_⟩) | (with_reducible refine AWP.genR2 (id := 1) [10,12,14] [1] [1,4,7] 9 [] mixed (by kernel_rfl) fun K hK => ?_; simp only [Bx.outs, Bx.drop, cond_true, cond_false, Nat.reduceBEq, go_sem]) | (refine stp' ?_; intro K hK) | refine stq ?_ | (clear hK K))
  all_goals (first | exact fun _ h => absurd h List.not_mem_nil | refine fin0 ?_)
  all_goals rfl
termination_by SizeOf.sizeOf d
decreasing_by
  cases d; simp only at hk; have := List.sizeOf_lt_of_mem hk; simp; omega
theorem eachDat_n (F : FuncId) (l : List Dat) (hl : l.length ≤ 100000000) (h : ∀ d ∈ l, PC Try.prog F [.st (encDat d)] (.st (encDat d))) : PCN Try.prog 30 [.one (.dat (.sl 13 (l.map encDat))), .one (.dat (.fn F))] (.one (.own 0 l.length)) (.row 13 (l.map encDat)) := by
  refine PCN.of_body 900 Try.func30 rfl (by decide) Try.ntmps30 Try.results30 rfl rfl ?_
  refine AWP.ghQ ?_
  repeat' (first | (simp only [go_sem, List.length_map]; all_goals refine nf ?_) | (refine stp ?_; intro K hK) | (apply hK; clear hK K) | refine stn ?_ | (refine AWP.cnd ?_ ?_ <;> intro h <;> (try simp only [zM, zN] at h)) | (refine ⟨fun h => ?_, fun h => ?_⟩ <;> (try simp only [zM, zN] at h) <;> try simp only [h]) | refine stq ?_ | (clear hK K))
  refine AWP.gh (Gh.nilrow 5 900 rfl rfl rfl rfl) ?_
  refine AWP.len 8 rfl fun hlen0 => ?_
  (try rw [List.length_map] at hlen0)
  refine AWP.range (S := List (Dat)) (l) encDat (fun k s => (10, I .i64 (k : Nat)) :: [(5, .one (.own 900 s.length))]) (fun k s => [(900, .row 13 (s.map encDat))]) [1, 8, 9] [] (fun k s => Is s (l.take k)) ([]) (by refine sts ?_; exact Gh.tt []) ?_ ?_ ?_
  · simp [Is]
  · intro k s x hlt hx hx' hb hok
    refine sts ?_
    have hix := h x (List.mem_of_getElem? hx)
    have hsl : s.length ≤ k := by rw [show s = _ from hok, List.length_take]; omega
    have hsn : s.map encDat ++ [encDat x] = (s ++ [x]).map encDat := by simp
    repeat' (first | (simp only [go_sem, List.length_map, hb, hsn]; all_goals refine nf ?_) | (refine stp ?_; intro K hK) | (apply hK; clear hK K) | refine stn ?_ | (refine AWP.cnd ?_ ?_ <;> intro h <;> (try simp only [zM, zN] at h)) | (refine ⟨fun h => ?_, fun h => ?_⟩ <;> (try simp only [zM, zN] at h) <;> try simp only [h]) | (with_reducible first | refine ⟨_, hix, ?_⟩ | refine ⟨by omega, encDat x, hx', ?_⟩ | (refine ⟨(by first | omega | (simp only [List.length_append, List.length_map, List.length_take, List.length_drop, List.length_cons, List.length_nil, List.length_replicate]; omega) : _ ≤ _), ?_⟩) | refine ⟨by omega, by omega, ?_⟩) | refine stq ?_ | (clear hK K))
    all_goals (rw [wrap_succ hlt hlen0])
    all_goals (refine ⟨s ++ [x], ?_, Gh.tt [(900, 19)]⟩)
    all_goals (rw [Is, List.take_add_one, hx, ← show s = _ from hok]; rfl)
  · intro s hb hok
    refine sts ?_
    rw [Is, List.take_length] at hok
    repeat' (first | (simp only [go_sem, List.length_map, hb]; all_goals refine nf ?_) | (refine stp ?_; intro K hK) | (apply hK; clear hK K) | refine stn ?_ | (refine AWP.cnd ?_ ?_ <;> intro h <;> (try simp only [zM, zN] at h)) | (refine ⟨fun h => ?_, fun h => ?_⟩ <;> (try simp only [zM, zN] at h) <;> try simp only [h]) | refine stq ?_ | (clear hK K))
    all_goals (rw [show s = l from hok]; refine ⟨_, Gh.refl _, ?_⟩; simp only [go_sem, List.length_map])
    all_goals first | exact ⟨rfl, fun x hx => hx⟩ | exact fun x hx => hx
theorem cloneKeys_n (l : List KeyD) (hl : l.length ≤ 100000000) : PCN Try.prog 31 [.one (.dat (.sl 2 (l.map encKey)))] (.one (.own 0 l.length)) (.row 2 (l.map encKey)) := by
  refine PCN.of_body 7 Try.func31 rfl (by decide) Try.ntmps31 Try.results31 rfl rfl ?_
  refine AWP.ghQ ?_
  repeat' (first | ( refine AWP.nilR (e := 24) rfl (by decide) (by decide) rfl (fun hnil => ?_) ?_) | (simp only [go_sem, List.length_map]; all_goals refine nf ?_) | (refine stp ?_; intro K hK) | (apply hK; clear hK K) | refine stn ?_ | (refine AWP.cnd ?_ ?_ <;> intro h <;> (try simp only [zM, zN] at h)) | (refine ⟨fun h => ?_, fun h => ?_⟩ <;> (try simp only [zM, zN] at h) <;> try simp only [h]) | (with_reducible first | (refine Or.inr (show vBuildOwn _ 5 _ _ _ _ _ _ from ?_); unfold vBuildOwn; with_reducible refine Or.inr ?_; simp only [vBuildRow, go_sem, List.length_map]) | refine ⟨(by omega : _ ≤ _), ?_⟩) | refine stq ?_ | (clear hK K))
  · refine GhQ.step (Gh.nilrow 2 7 rfl rfl rfl rfl) ?_
    refine ⟨_, Gh.refl _, ?_⟩
    have : l = [] := by simpa using hnil
    subst this
    simp only [go_sem, List.map_nil, List.length_nil]
    first | exact ⟨rfl, fun x hx => hx⟩ | exact fun x hx => hx
  · refine ⟨_, Gh.refl _, ?_⟩
    simp only [go_sem, List.length_map]
    first | exact ⟨rfl, fun x hx => hx⟩ | exact fun x hx => hx
/-- a copy that owns its rows -/
abbrev ownDat (kn yn : Nat) (d : Dat) : T := .agg [.dat (.int .i64 d.kind), .dat (.int .i64 d.num), .dat (.str d.text), .own kn d.kids.length, .own yn d.keys.length, .dat (.str d.mod), .dat (.int .i64 d.version), .dat (.int .i64 d.routine), .dat (.bool d.wrapped), .dat (.sl 8 (d.nodes.map encNode)), .dat (.int .i64 d.root), .dat (.str d.inner), .dat (.str d.outer)]
theorem cloneDat_x (d : Dat) (hd : DCl d) : PCX Try.prog 19 [.st (encDat d)] [] (ownDat 5 8 d) [(8, .row 2 (d.keys.map encKey)), (5, .row 13 (d.kids.map encDat))] := by
  have ih : ∀ k ∈ d.kids, PC Try.prog 19 [.st (encDat k)] (.st (encDat k)) := fun k hk => cloneDat_c k (hd.kid k hk)
  have c1 := eachDat_n 19 d.kids (by have := hd.kids; omega) ih
  have c2 := cloneKeys_n d.keys (by have := hd.keys; omega)
  have c3 := cloneType_c d.nodes d.root hd.nodes hd.node
  rw [encDat_eq]
  refine PCX.of_body Try.func19 rfl (by decide) Try.ntmps19 Try.results19 rfl rfl ?_
  refine AWP.ghQ ?_
  repeat' (first | (simp only [go_sem, encDat_eq d, List.length_map]; all_goals refine nf ?_) | (refine stp ?_; intro K hK) | (apply hK; clear hK K) | refine stn ?_ | (refine AWP.cnd ?_ ?_ <;> intro h <;> (try simp only [zM, zN] at h)) | (refine ⟨fun h => ?_, fun h => ?_⟩ <;> (try simp only [zM, zN] at h) <;> try simp only [h]) | (with_reducible first | refine ⟨_, _, c1, ?_⟩ | refine ⟨_, _, c2, ?_⟩ | refine ⟨_, c3, ?_⟩) | (with_reducible refine AWP.genL (id := 1) [2,5,10,12,14] [2,5] [1] [1,4,7] 9 [] mixed (by kernel_rfl) fun K hK => ?_; simp only [Bx.outs, Bx.drop, cond_true, cond_false, Nat.reduceBEq, go_sem]) | refine stq ?_ | (clear hK K))
  refine ⟨_, Gh.refl _, ?_⟩
  simp only [go_sem, List.length_map]
  try refine ⟨by first | rfl | trivial, ?_⟩
  intro x hx
  simp only [List.mem_cons, List.not_mem_nil, or_false] at hx
  rcases hx with rfl | rfl <;> simp
end Go.Proofs.Ythpndlinlhapgaa
set_option linter.unusedSimpArgs false
set_option linter.unusedVariables false
set_option maxRecDepth 20000
set_option maxHeartbeats 1000000
namespace Go.Proofs.Ythpndlinlhapgaa
open Go Go.Sx
open Bool renaming not_eq_true' → zM, not_eq_false' → zN
def bnd : Nat → Nat
  | 0 => 1
  | 1 => 1
  | h + 2 => 8 * (bnd (h + 1) + 2) + 8 * (bnd h + 2) + 20
theorem cmpI_anti (a b : Int) : cmpI b a = - cmpI a b := by
  unfold cmpI
  rcases Int.lt_trichotomy a b with h | h | h
  · have h1 : ¬ b < a := by omega
    simp [h, h1]
  · subst h; simp
  · have h1 : ¬ a < b := by omega
    simp [h, h1]
theorem cmpB_anti : ∀ a b : List UInt8, Lib.compareBytes b a = - Lib.compareBytes a b
  | [], [] => by simp [Lib.compareBytes]
  | [], _ :: _ => by simp [Lib.compareBytes]
  | _ :: _, [] => by simp [Lib.compareBytes]
  | x :: a, y :: b => by
    have ih := cmpB_anti a b
    simp only [Lib.compareBytes]
    by_cases h1 : x < y
    · have h2 : ¬ y < x := fun h => absurd (UInt8.lt_trans h1 h) (UInt8.lt_irrefl x)
      simp [h1, h2]
    · by_cases h2 : y < x
      · simp [h1, h2]
      · simp [h1, h2, ih]
theorem keyC_anti (a b : KeyD) : keyC b a = - keyC a b := by
  unfold keyC chainC
  rw [cmpI_anti a.kind b.kind, cmpB_anti a.text b.text]
  have : decide (-cmpI a.kind b.kind = 0) = decide (cmpI a.kind b.kind = 0) := by rw [← Bool.coe_iff_coe]; simp
  rw [this]
  cases decide (cmpI a.kind b.kind = 0) <;> rfl
end Go.Proofs.Ythpndlinlhapgaa
set_option linter.unusedSimpArgs false
set_option linter.unusedVariables false
set_option maxRecDepth 20000
namespace Go.Proofs.Ythpndlinlhapgaa
open Go Go.Sx
open Bool renaming not_eq_true' → zM, not_eq_false' → zN
theorem cb_trans : ∀ a b c : List UInt8, Lib.compareBytes a b < 0 → Lib.compareBytes b c < 0 → Lib.compareBytes a c < 0
  | [], [], _, h, _ => by simp [Lib.compareBytes] at h
  | [], _ :: _, [], _, h => by simp [Lib.compareBytes] at h
  | [], _ :: _, _ :: _, _, _ => by simp [Lib.compareBytes]
  | _ :: _, [], _, h, _ => by simp [Lib.compareBytes] at h
  | _ :: _, _ :: _, [], _, h => by simp [Lib.compareBytes] at h
  | x :: a, y :: b, z :: c, h1, h2 => by
    have ih := cb_trans a b c
    simp only [Lib.compareBytes] at h1 h2 ⊢
    repeat' split at h1
    all_goals repeat' split at h2
    all_goals repeat' split
    all_goals first
      | omega
      | exact ih h1 h2
      | (exfalso; simp_all [UInt8.lt_iff_toNat_lt]; omega)
theorem keyC_trans {a b c : KeyD} (h1 : keyC a b < 0) (h2 : keyC b c < 0) : keyC a c < 0 := by
  have hb := cb_trans a.text b.text c.text
  unfold keyC chainC cmpI at *
  rcases Int.lt_trichotomy a.kind b.kind with x | x | x <;> rcases Int.lt_trichotomy b.kind c.kind with y | y | y
  all_goals simp_all
  all_goals grind
def SortK (l : List KeyD) : Prop := l.Pairwise fun a b => keyC a b < 0
/-- where the key stands, or should -/
def posK (l : List KeyD) (k : KeyD) : Nat := (l.takeWhile fun x => decide (keyC x k < 0)).length
theorem posK_le (l : List KeyD) (k : KeyD) : posK l k ≤ l.length := List.takeWhile_sublist _ |>.length_le
theorem posK_lt : ∀ {l : List KeyD} {k : KeyD} {h : Nat} {x : KeyD}, SortK l → l[h]? = some x → (keyC x k < 0 ↔ h < posK l k)
  | y :: l, k, 0, x, hs, hx => by
    simp only [List.getElem?_cons_zero, Option.some.injEq] at hx
    subst hx
    unfold posK
    rw [List.takeWhile_cons]
    by_cases hc : keyC y k < 0
    · simp [hc]
    · simp [hc]
  | y :: l, k, h + 1, x, hs, hx => by
    simp only [List.getElem?_cons_succ] at hx
    have ih := posK_lt (k := k) (List.Pairwise.of_cons hs) hx
    unfold posK at ih ⊢
    rw [List.takeWhile_cons]
    by_cases hc : keyC y k < 0
    · rw [if_pos (by simpa using hc), ih]; simp
    · rw [if_neg (by simpa using hc)]
      have hyx := (List.pairwise_cons.1 hs).1 x (List.mem_of_getElem? hx)
      constructor
      · intro hxk; exact absurd (keyC_trans hyx hxk) hc
      · intro h; simp at h
def fndK (l : List KeyD) (k : KeyD) : Bool := match l[posK l k]? with | some x => decide (keyC x k = 0) | none => false
/-- the list with a datum at a key -/
def insM (k : KeyD) (d : Dat) : List (KeyD × Dat) → List (KeyD × Dat)
  | [] => [(k, d)]
  | (x, dx) :: z => bif decide (keyC x k < 0) then (x, dx) :: insM k d z else bif decide (keyC x k = 0) then (k, d) :: z else (k, d) :: (x, dx) :: z
theorem fold_placed (k : KeyD) (d : Dat) : ∀ (z : List (KeyD × Dat)) (ak : List KeyD) (ad : List Dat), (∀ y ∈ z, keyC k y.1 ≠ 0) → z.foldl (putStep k d) ⟨ak, ad, true⟩ = ⟨ak ++ z.map (·.1), ad ++ z.map (·.2), true⟩
  | [], ak, ad, _ => by simp
  | (x, dx) :: z, ak, ad, h => by
    have h0 := h (x, dx) (by simp)
    rw [List.foldl_cons]
    have e : putStep k d ⟨ak, ad, true⟩ (x, dx) = ⟨ak ++ [x], ad ++ [dx], true⟩ := by
      unfold putStep
      rw [keyCmp_eq]
      simp only [Bool.not_true, Bool.and_false, cond_false, decide_eq_false h0, Bool.not_false, cond_true]
    rw [e, fold_placed k d z _ _ fun y hy => h y (by simp [hy])]
    simp
theorem fold_ins (k : KeyD) (d : Dat) : ∀ (z : List (KeyD × Dat)) (ak : List KeyD) (ad : List Dat), SortK (z.map (·.1)) → putEnd k d (z.foldl (putStep k d) ⟨ak, ad, false⟩) = ⟨ak ++ (insM k d z).map (·.1), ad ++ (insM k d z).map (·.2), true⟩
  | [], ak, ad, _ => by simp [putEnd, insM]
  | (x, dx) :: z, ak, ad, hs => by
    have hs' : SortK (z.map (·.1)) := List.Pairwise.of_cons hs
    have hx : ∀ y ∈ z, keyC x y.1 < 0 := fun y hy => (List.pairwise_cons.1 hs).1 _ (List.mem_map.2 ⟨y, hy, rfl⟩)
    have hanti := keyC_anti x k
    rw [List.foldl_cons]
    have pend : ∀ a b, putEnd k d ⟨a, b, true⟩ = ⟨a, b, true⟩ := fun a b => rfl
    unfold insM
    by_cases h1 : keyC x k < 0
    · have e : putStep k d ⟨ak, ad, false⟩ (x, dx) = ⟨ak ++ [x], ad ++ [dx], false⟩ := by
        unfold putStep
        rw [keyCmp_eq]
        have a1 : ¬ keyC k x ≤ 0 := by omega
        have a2 : ¬ keyC k x = 0 := by omega
        simp only [decide_eq_false a1, decide_eq_false a2, Bool.false_and, cond_false, Bool.not_false, cond_true]
      rw [e, fold_ins k d z _ _ hs']
      simp [h1]
    · by_cases h2 : keyC x k = 0
      · have hxk := keyC_zero.1 h2
        have e : putStep k d ⟨ak, ad, false⟩ (x, dx) = ⟨ak ++ [k], ad ++ [d], true⟩ := by
          unfold putStep
          rw [keyCmp_eq]
          have a1 : keyC k x ≤ 0 := by omega
          have a2 : keyC k x = 0 := by omega
          simp only [decide_eq_true a1, decide_eq_true a2, Bool.true_and, Bool.not_false, Bool.not_true, cond_true, cond_false]
        rw [e, fold_placed k d z _ _ (fun y hy => by have := hx y hy; rw [hxk] at this; omega), pend]
        simp [h1, h2]
      · have e : putStep k d ⟨ak, ad, false⟩ (x, dx) = ⟨ak ++ [k] ++ [x], ad ++ [d] ++ [dx], true⟩ := by
          unfold putStep
          rw [keyCmp_eq]
          have a1 : keyC k x ≤ 0 := by omega
          have a2 : ¬ keyC k x = 0 := by omega
          simp only [decide_eq_true a1, decide_eq_false a2, Bool.true_and, Bool.not_false, cond_true]
        rw [e, fold_placed k d z _ _ (fun y hy => by have := keyC_trans (a := k) (b := x) (c := y.1) (by omega) (hx y hy); omega), pend]
        simp [h1, h2]
/-- what the search and the insertion give -/
theorem ins_pos (k : KeyD) (d : Dat) : ∀ z : List (KeyD × Dat), (insM k d z).map (·.1) = (bif fndK (z.map (·.1)) k then z.map (·.1) else (z.map (·.1)).take (posK (z.map (·.1)) k) ++ k :: (z.map (·.1)).drop (posK (z.map (·.1)) k)) ∧
    (insM k d z).map (·.2) = (bif fndK (z.map (·.1)) k then (z.map (·.2)).set (posK (z.map (·.1)) k) d else (z.map (·.2)).take (posK (z.map (·.1)) k) ++ d :: (z.map (·.2)).drop (posK (z.map (·.1)) k))
  | [] => by simp [insM, fndK, posK]
  | (x, dx) :: z => by
    obtain ⟨i1, i2⟩ := ins_pos k d z
    unfold insM
    by_cases h1 : keyC x k < 0
    · have hp : posK (x :: z.map (·.1)) k = posK (z.map (·.1)) k + 1 := by unfold posK; simp [h1]
      have hf : fndK (x :: z.map (·.1)) k = fndK (z.map (·.1)) k := by unfold fndK; rw [hp]; simp
      simp only [List.map_cons, hp, hf, decide_eq_true h1, cond_true, i1, i2]
      cases fndK (z.map (·.1)) k <;> simp
    · have hp : posK (x :: z.map (·.1)) k = 0 := by unfold posK; simp [h1]
      have hf : fndK (x :: z.map (·.1)) k = decide (keyC x k = 0) := by unfold fndK; rw [hp]; simp
      simp only [List.map_cons, hp, hf, decide_eq_false h1, cond_false]
      by_cases h2 : keyC x k = 0
      · have := keyC_zero.1 h2
        subst this
        have hkk : keyC x x = 0 := keyC_zero.2 rfl
        simp [hkk]
      · simp [h2]
end Go.Proofs.Ythpndlinlhapgaa
set_option linter.unusedSimpArgs false
set_option linter.unusedVariables false
set_option maxRecDepth 20000
set_option maxHeartbeats 16000000
namespace Go.Proofs.Ythpndlinlhapgaa
open Go Go.Sx
open Bool renaming not_eq_true' → zM, not_eq_false' → zN
theorem bsearch_b (l : List KeyD) (k : KeyD) (hl : l.length ≤ 1000000) (hs : SortK l) :
    PCB Try.prog 21 [.one (.own pin l.length), .st (encKey k), .one (.dat (.fn 22))] [(pin, .row 2 (l.map encKey))] (.tup [I .i64 (posK l k), Bo (fndK l k)]) [(pin, .row 2 (l.map encKey))] := by
  have hc : ∀ x : KeyD, PC Try.prog 22 [.st [.int .i64 x.kind, .str x.text], .st [.int .i64 k.kind, .str k.text]] (I .i64 (keyC x k)) := fun x => identCompareKeys_c x k
  have hpl := posK_le l k
  refine PCB.ob Try.func21 Try.ntmps21 Try.results21 ?_
  refine AWP.ghQ ?_
  repeat' (first | (simp only [go_sem, pin, List.length_map]; all_goals refine nf ?_) | (refine stp ?_; intro K hK) | (apply hK; clear hK K) | refine stn ?_ | (refine AWP.cnd ?_ ?_ <;> intro h <;> (try simp only [zM, zN] at h)) | (refine ⟨fun h => ?_, fun h => ?_⟩ <;> (try simp only [zM, zN] at h) <;> try simp only [h]) | (refine stp' ?_; intro K hK) | refine stq ?_ | (clear hK K))
  refine AWP.loopS (X := Nat × Nat) (fun x => [(9, I .i64 x.1), (10, I .i64 x.2), (0, .one (.own 1000000 l.length)), (4, Sp 4), (2, .one (.dat (.fn 22))), (8, I .i64 l.length)])
    (fun x => [(1000000, .row 2 (l.map encKey)), (4, .cells ((encKey k).map .dat))]) (fun x => x.1 ≤ posK l k ∧ posK l k ≤ x.2 ∧ x.2 ≤ l.length) (fun x => x.2 - x.1) (0, l.length) ?_ ⟨Nat.zero_le _, hpl, Nat.le_refl _⟩ ?_
  · exact Gh.tt []
  rintro ⟨i, j⟩ ⟨hi, hj, hjn⟩
  simp only at hi hj hjn
  by_cases hlt : i < j
  · have hb : decide ((i : Int) < (j : Int)) = true := by simpa using hlt
    have hm : IntKind.i64.wrap ((IntKind.u64.wrap (IntKind.i64.wrap ((i : Int) + (j : Int)))).fdiv (2 ^ min 1 64)) = (((i + j) / 2 : Nat) : Int) := by
      rw [w64 (n := (i : Int) + (j : Int)) (by omega)]
      have e1 : IntKind.u64.wrap ((i : Int) + (j : Int)) = (i : Int) + (j : Int) := by simp [IntKind.wrap, IntKind.bits, IntKind.signed]; omega
      rw [e1, show (2 : Int) ^ min 1 64 = 2 by rfl, Int.fdiv_eq_ediv_of_nonneg _ (by omega), w64 (by omega)]
      omega
    have hlh : (i + j) / 2 < l.length := by omega
    obtain ⟨x, hx, hx', _, _⟩ := at_lt (enc := encKey) hlh
    have hcx := hc x
    have hp := posK_lt (k := k) hs hx
    have hh1 : i ≤ (i + j) / 2 := by omega
    have hh2 : (i + j) / 2 < j := by omega
    generalize (i + j) / 2 = h at *
    cases hz : decide (keyC x k < 0)
    ·
      have hz' := of_decide_eq_false hz
      rw [hp] at hz'
      repeat' (first | (simp only [go_sem, pin, List.length_map, encKey, hb, hm, hz]; all_goals refine nf ?_) | (refine stp ?_; intro K hK) | (apply hK; clear hK K) | refine stn ?_ | (refine AWP.cnd ?_ ?_ <;> intro h <;> (try simp only [zM, zN] at h)) | (refine ⟨fun h => ?_, fun h => ?_⟩ <;> (try simp only [zM, zN] at h) <;> try simp only [h]) | (with_reducible first | refine ⟨Nat.le_refl _, by omega, by omega, ?_⟩ | refine ⟨encKey x, hx', ?_⟩ | refine ⟨_, hcx, ?_⟩) | (refine stp' ?_; intro K hK) | refine stq ?_ | (clear hK K))
      all_goals (refine ⟨(i, h), by simp only; omega, ⟨hi, by simp only; omega, by simp only; omega⟩, Gh.tt []⟩)
    ·
      have hz' := of_decide_eq_true hz
      rw [hp] at hz'
      repeat' (first | (simp only [go_sem, pin, List.length_map, encKey, hb, hm, hz]; all_goals refine nf ?_) | (refine stp ?_; intro K hK) | (apply hK; clear hK K) | refine stn ?_ | (refine AWP.cnd ?_ ?_ <;> intro h <;> (try simp only [zM, zN] at h)) | (refine ⟨fun h => ?_, fun h => ?_⟩ <;> (try simp only [zM, zN] at h) <;> try simp only [h]) | (with_reducible first | refine ⟨Nat.le_refl _, by omega, by omega, ?_⟩ | refine ⟨encKey x, hx', ?_⟩ | refine ⟨_, hcx, ?_⟩) | (refine stp' ?_; intro K hK) | refine stq ?_ | (clear hK K))
      all_goals (rw [w64 (by omega)])
      all_goals (refine ⟨(h + 1, j), by simp only; omega, ⟨by simp only; omega, hj, hjn⟩, Gh.tt []⟩)
  · have hb : decide ((i : Int) < (j : Int)) = false := by simpa using hlt
    have hij : i = posK l k := by omega
    subst hij
    by_cases hlt2 : posK l k < l.length
    · obtain ⟨x, hx, hx', hb2, _⟩ := at_lt (enc := encKey) hlt2
      have hcx := hc x
      have hf : fndK l k = decide (keyC x k = 0) := by unfold fndK; rw [hx]
      repeat' (first | (simp only [go_sem, pin, List.length_map, encKey, hb, hb2]; all_goals refine nf ?_) | (refine stp ?_; intro K hK) | (apply hK; clear hK K) | refine stn ?_ | (refine AWP.cnd ?_ ?_ <;> intro h <;> (try simp only [zM, zN] at h)) | (refine ⟨fun h => ?_, fun h => ?_⟩ <;> (try simp only [zM, zN] at h) <;> try simp only [h]) | (with_reducible first | refine ⟨Nat.le_refl _, by omega, by omega, ?_⟩ | refine ⟨encKey x, hx', ?_⟩ | refine ⟨_, hcx, ?_⟩) | (refine stp' ?_; intro K hK) | refine stq ?_ | (clear hK K))
      all_goals (refine ⟨_, Gh.refl _, ?_⟩; simp only [go_sem])
      all_goals (refine ⟨by rw [hf], fun y hy => ?_⟩; simp only [List.mem_singleton] at hy; subst hy; simp)
    · have hb2 : decide (((posK l k : Nat) : Int) < (l.length : Int)) = false := by simpa using hlt2
      have hf : fndK l k = false := by unfold fndK; rw [List.getElem?_eq_none (by omega)]
      repeat' (first | (simp only [go_sem, pin, List.length_map, hb, hb2]; all_goals refine nf ?_) | (refine stp ?_; intro K hK) | (apply hK; clear hK K) | refine stn ?_ | (refine AWP.cnd ?_ ?_ <;> intro h <;> (try simp only [zM, zN] at h)) | (refine ⟨fun h => ?_, fun h => ?_⟩ <;> (try simp only [zM, zN] at h) <;> try simp only [h]) | (refine stp' ?_; intro K hK) | refine stq ?_ | (clear hK K))
      all_goals (refine ⟨_, Gh.refl _, ?_⟩; simp only [go_sem])
      all_goals (refine ⟨by rw [hf], fun y hy => ?_⟩; simp only [List.mem_singleton] at hy; subst hy; simp)
end Go.Proofs.Ythpndlinlhapgaa
set_option linter.unusedSimpArgs false
set_option linter.unusedVariables false
set_option maxRecDepth 100000
set_option maxHeartbeats 6400000
namespace Go.Proofs.Ythpndlinlhapgaa
open Go Go.RowKit Go.Lib
/-- copy over elements of some cells each: all is read before anything is written -/
theorem run_copy_n {P : Program} (w : World) (dT sT ty elem : TypeId) (size b o dLen dCap : Nat) (a : Addr) (sLen sCap : Nat) (cs : List Value)
    (hu : P.underlying dT = some (.slice elem)) (hs : (P.info? elem).map (·.size) = some size) (hn : cs.length = Nat.min sLen dLen * size)
    (hsrc : ∀ j v, cs[j]? = some v → w.cell? (a.add j) = some v) (hc : ∀ j, j < cs.length → (w.cell? ⟨b, o + j, none⟩).isSome = true) (hf : ∀ j, j < cs.length → w.frozen? ⟨b, o + j, none⟩ = false) (h1 : ∀ v ∈ cs, v.oneCell' = true) :
    (Builtin.copy_ #[dT, sT] ty #[.slice (some ⟨b, o, none⟩) dLen dCap, .slice (some a) sLen sCap]).run P w = .ok (goInt (Nat.min sLen dLen)) (w.setCells b o cs) := by
  have hl := run_loadCells_list (P := P) w a cs hsrc
  have hst := run_storeCells_cells (P := P) b o cs 0 w (by simpa using hc) (by simpa using hf) h1
  cases hq : P.info? elem with
  | none => simp [hq] at hs
  | some i =>
    have hi : i.size = size := by simpa [hq] using hs
    simp [Builtin.copy_, run_underlying hu, Builtin.lenOf, Builtin.firstCells, sizeOf, typeInfo, hq, hi, ← hn, hl, hst]
theorem wp_copy_runN {P : Program} (w : World) {o : Oper} {a : Act} {K : Act → World → Prop} {Q : Exit → Act → World → Prop} (d s : Operand) (t t' : TypeId)
    (ho : o.op = .call { callee := .builtin .copy, args := #[d, s], argTypes := #[t, t'] }) (v u : Value) (hd : a.eval d = v) (hs : a.eval s = u) {v' : Value} {w' : World}
    (hr : (Builtin.copy_ #[t, t'] o.type #[v, u]).run P w = .ok v' w') (h : K (a.put o.dst v') w') : o.wp P a w K Q := by
  unfold Oper.wp execOp
  simp only [ho, resolve, invoke, builtin, Sem.run_bind, Sem.run_pure, Result.andThen_ok, List.map_toArray, List.map_cons, List.map_nil, hd, hs, hr]
  exact h
theorem wpList_copy_runN {P : Program} (w : World) {ops : Array Oper} {rest : List Oper} {o : Oper} {a : Act} {Q : Exit → Act → World → Prop} (hgd : o.guard = none) (d s : Operand) (t t' : TypeId)
    (ho : o.op = .call { callee := .builtin .copy, args := #[d, s], argTypes := #[t, t'] }) (v u : Value) (hd : a.eval d = v) (hs : a.eval s = u) {v' : Value} {w' : World}
    (hr : (Builtin.copy_ #[t, t'] o.type #[v, u]).run P w = .ok v' w') (h : wpList P ops Q rest (a.put o.dst v') w') : wpList P ops Q (o :: rest) a w :=
  wpList_plain hgd fun _ hK => wp_copy_runN w d s t t' ho v u hd hs hr (hK _ _ h)
theorem step_copy_runN {P : Program} {ops : Array Oper} {o : Oper} {a : Act} {w : World} {K : Act → World → Prop} {Q : Exit → Act → World → Prop} {E : Prop}
    (hg : o.guard = none) (d x : Operand) (dT sT : TypeId) (hop : o.op = Op.call { callee := Callee.builtin Builtin.copy, args := #[d, x], argTypes := #[dT, sT] })
    (v u : Value) (hd : a.eval d = v) (hx : a.eval x = u) {v' : Value} {w' : World} (hr : (Builtin.copy_ #[dT, sT] o.type #[v, u]).run P w = .ok v' w') (hK : K (a.put o.dst v') w') :
    if Region.wanted o (yielded ops a.tmps) = true then Oper.wp P o a w K Q else E := by
  have hw : Region.wanted o (yielded ops a.tmps) = true := by simp [Region.wanted, hg]
  rw [if_pos hw]
  unfold Oper.wp
  simp [execOp, hop, resolve, invoke, builtin, hd, hx, hr, Result.andThen]
  exact hK
/-- two slices of two blocks, of which the second is no text's -/
theorem run_overlaps_own {P : Program} (w : World) (tS tR e : TypeId) (ht : P.underlying tS = some (.slice e)) (size : Nat) (hz : ∀ w, (Go.sizeOf e).run P w = .ok size w)
    (a b : Addr) (la ca lb cb : Nat) (hne : a.block ≠ b.block) (tA tB : TypeId) (kA kB : Nat)
    (hsa : w.shape? a.block = some (tA, kA)) (hsb : w.shape? b.block = some (tB, kB)) (hkA : kA ≠ 0)
    (hfb : w.frozen? b = false) (hfe : w.frozen? { block := b.block, off := kB } = false) :
    (Extern.SlicesOverlaps.overlaps #[tS, tS] #[tR] #[.slice (some a) la ca, .slice (some b) lb cb]).run P w = .ok (.bool false) w := by
  have hnb : (a.block != b.block) = true := by simpa using hne
  have hnb' : (a.block == b.block) = false := by simpa using hne
  change Sem.run P (α := Value) (do
    let some t := (#[tS, tS] : Array TypeId)[0]? | stuck "slices.overlaps: no parameter types"
    let .slice elem ← underlying t | stuck "slices.overlaps: slice type expected"
    let size ← sizeOf elem
    match (some a : Option Addr), (some b : Option Addr) with
    | some a, some b =>
      if la = 0 ∨ lb = 0 ∨ size = 0 then pure (Value.bool false)
      else if a.block != b.block && (← frozen a) && (← frozen b) then unsupported .addressObserved
      else do
        if a.block != b.block then do
          noView a; noView b
          if ← mayBeOne a b then return Value.bool ((← choose (.extern "sameAddr.stringBytes" 2)) == 1)
        pure (Value.bool (a.block == b.block && a.off < b.off + lb * size && b.off < a.off + la * size))
    | _, _ => pure (Value.bool false)) w = _
  by_cases h0 : la = 0 ∨ lb = 0 ∨ size = 0
  · simp [run_underlying ht, hz, h0]
  · cases kA with
    | zero => exact absurd rfl hkA
    | succ kA =>
      cases hq : w.frozen? a <;> cases hq2 : w.frozen? { block := a.block, off := kA + 1 } <;>
        simp [run_underlying ht, hz, h0, hnb, hnb', frozen, noView, viewAt, mayBeOne, stringish, shape, Sem.run, hsa, hsb, hfb, hfe, hq, hq2]
theorem isSome_setCells (b : Nat) (vs : List Value) (o : Nat) (w : World) (h : ∀ j, j < vs.length → (w.cell? ⟨b, o + j, none⟩).isSome = true) (k : Nat) (hk : (w.cell? ⟨b, k, none⟩).isSome = true) : ((w.setCells b o vs).cell? ⟨b, k, none⟩).isSome = true := by
  by_cases hin : o ≤ k ∧ k < o + vs.length
  · have := World.cell?_setCells_in b vs o w h (k - o) (by omega)
    rw [show o + (k - o) = k by omega] at this
    rw [this]; rfl
  · rw [World.cell?_setCells_out b vs o w ⟨b, k, none⟩ (fun _ _ => by show k < o ∨ o + vs.length ≤ k; omega)]
    exact hk
theorem insShift_key (b n c i vb voff vc : Nat) (cs vs : List Value) (w : World) (hi : i < n) (hroom : n + 1 ≤ c) (hc63 : c ≤ 9223372036854775807) (hvb : vb ≠ b)
    (hcl : cs.length = n * 2) (hvl : vs.length = 2)
    (hcs : ∀ j v, cs[j]? = some v → w.cell? ⟨b, j, none⟩ = some v) (hsp : ∀ j, j < (n + 1) * 2 → (w.cell? ⟨b, j, none⟩).isSome = true) (hfz : ∀ j, j < (n + 1) * 2 → w.frozen? ⟨b, j, none⟩ = false)
    (hvs : ∀ j v, vs[j]? = some v → w.cell? ⟨vb, voff + j, none⟩ = some v) (h1c : ∀ v ∈ cs, v.oneCell' = true) (h1v : ∀ v ∈ vs, v.oneCell' = true)
    (tA tB : TypeId) (kA kB : Nat) (hsa : w.shape? vb = some (tA, kA)) (hsb : w.shape? b = some (tB, kB)) (hkA : kA ≠ 0) (hfb : ∀ j, w.frozen? ⟨b, j, none⟩ = false) :
    Calls Try.prog 23 #[.slice (some ⟨b, 0, none⟩) n c, .int .i64 i, .slice (some ⟨vb, voff, none⟩) 1 vc] w fun e w' =>
      e = .returned (.slice (some ⟨b, 0, none⟩) (n + 1) c) ∧ w' = (w.drew.setCells b ((i + 1) * 2) (cs.drop (i * 2))).setCells b (i * 2) vs := by
  have mixed := mixed; have t0 := Try.underlying0; have z0 := Try.sizeOf0; have t3 := Try.underlying3; have t4 := Try.underlying4; have tE := Try.underlying24; have tS := Try.underlying29
  have a3 := Try.isAgg3; have a4 := Try.isAgg4; have aE := Try.isAgg24; have aS := Try.isAgg29
  have z3 := Try.sizeOf3; have z4 := Try.sizeOf4; have zE := Try.sizeOf24; have zS := Try.sizeOf29
  have v3 := Try.zeroValue3; have v4 := Try.zeroValue4; have vE := Try.zeroValue24; have vS := Try.zeroValue29
  have u3 := run_underlying Try.underlying3; have u4 := run_underlying Try.underlying4; have uS := run_underlying Try.underlying29
  have hz2 : ¬ ((i : Int) = (n : Int)) := by omega
  have hsz : (Try.prog.info? 24).map (·.size) = some 2 := by kernel_rfl
  have hov : ∀ lb cb, (callFunc 36 #[.slice (some ⟨vb, voff, none⟩) 1 vc, .slice (some ⟨b, (i + 1) * 2, none⟩) lb cb]).run Try.prog w = .ok (.value (.bool false)) w := fun lb cb => by
    rw [run_callFunc_extern Try.func36 (by kernel_rfl) (by kernel_rfl) (by kernel_rfl) (e := Extern.SlicesOverlaps.overlaps #[29, 29] #[4]) (by kernel_rfl),
      run_overlaps_own w 29 4 24 Try.underlying29 2 Try.sizeOf24 ⟨vb, voff, none⟩ ⟨b, (i + 1) * 2, none⟩ 1 vc lb cb hvb tA tB kA kB hsa hsb hkA (hfb _) (hfb _)]
    rfl
  have hdl : (cs.drop (i * 2)).length = (n - i) * 2 := by rw [List.length_drop, hcl]; omega
  have hw1 : IntKind.i64.wrap ((i : Int) + 1) = (i : Int) + 1 := by rw [IntKind.wrap_i64]; omega
  have hw2 : IntKind.i64.wrap ((n : Int) + 1) = (n : Int) + 1 := by rw [IntKind.wrap_i64]; omega
  have hb1 : (0 : Int) ≤ (i : Int) + 1 := by omega
  have hin : i ≤ n := by omega
  have htn : ((i : Int) + 1).toNat = i + 1 := by omega
  have htm : ((n : Int) + 1).toNat = n + 1 := by omega
  have hb2 : ¬ (c = i + 1) := by omega
  have hb3 : (i : Int) ≤ (n : Int) + 1 := by omega
  have hb4 : ¬ (c = i) := by omega
  have hb5 : ¬ ((n : Int) + 1 > (c : Int)) := by omega
  have hcp1 : ∀ ty dc sc, (Builtin.copy_ #[29, 29] ty #[.slice (some ⟨b, (i + 1) * 2, none⟩) (n - i) dc, .slice (some ⟨b, i * 2, none⟩) (n + 1 - i) sc]).run Try.prog w.drew = .ok (goInt (Nat.min (n + 1 - i) (n - i))) (w.drew.setCells b ((i + 1) * 2) (cs.drop (i * 2))) := fun ty dc sc =>
    run_copy_n w.drew _ _ ty 24 2 b ((i + 1) * 2) (n - i) dc ⟨b, i * 2, none⟩ (n + 1 - i) sc (cs.drop (i * 2)) Try.underlying29 hsz (by rw [hdl]; simp only [Nat.min_def]; split <;> omega)
      (fun j v hj => by rw [Addr.add_lit]; exact hcs (i * 2 + j) v (by rwa [List.getElem?_drop] at hj))
      (fun j hj => hsp _ (by omega)) (fun j hj => hfz _ (by omega)) (fun v hv => h1c v (List.mem_of_mem_drop hv))
  obtain ⟨W1, hW1⟩ : ∃ W1, W1 = w.drew.setCells b ((i + 1) * 2) (cs.drop (i * 2)) := ⟨_, rfl⟩
  have hsp1 : ∀ k, k < (n + 1) * 2 → (W1.cell? ⟨b, k, none⟩).isSome = true := fun k hk => by
    rw [hW1]
    exact isSome_setCells b (cs.drop (i * 2)) ((i + 1) * 2) w.drew (fun j hj => hsp _ (by omega)) _ (hsp k hk)
  have hcp2 : ∀ (W : World), (∀ x, W.cell? x = W1.cell? x) → (∀ x, W.frozen? x = W1.frozen? x) → ∀ ty dc, (Builtin.copy_ #[29, 29] ty #[.slice (some ⟨b, i * 2, none⟩) (n + 1 - i) dc, .slice (some ⟨vb, voff, none⟩) 1 vc]).run Try.prog W = .ok (goInt (Nat.min 1 (n + 1 - i))) (W.setCells b (i * 2) vs) := fun W hWc hWf ty dc =>
    run_copy_n W _ _ ty 24 2 b (i * 2) (n + 1 - i) dc ⟨vb, voff, none⟩ 1 vc vs Try.underlying29 hsz (by rw [hvl]; simp only [Nat.min_def]; split <;> omega)
      (fun j v hj => by
        rw [Addr.add_lit, hWc, hW1, World.cell?_setCells_out b _ _ _ _ (fun h _ => absurd h hvb)]
        exact hvs j v hj)
      (fun j hj => by rw [hWc]; exact hsp1 _ (by omega)) (fun j hj => by rw [hWf, hW1, World.frozen?_setCells]; exact hfz _ (by omega)) h1v
  rw [← hW1] at hcp1
  go_enter Try.func23, Try.ntmps23
  go_wp2_with (simp only [hov])
  go_region_law_o (refine step_copy_runN rfl _ _ 29 29 rfl _ _ (by simp [Act.eval, Act.put]) (by simp [Act.eval, Act.put]) (hcp1 _ _ _) ?_)
  go_wp2_with (at_builtin; refine wpList_copy_runN _ rfl _ _ 29 29 rfl _ _ rfl rfl (hcp2 _ (fun _ => rfl) (fun _ => rfl) _ _) ?_)
  go_ret
  first | exact ⟨rfl, rfl⟩ | exact ⟨rfl, by rw [hW1]⟩
abbrev zval_key : Value := Value.agg #[Value.int IntKind.i64 0, Value.string ⟨#[]⟩]
abbrev grown_key (w : World) (cs : List Value) (n i G : Nat) : Array Value := (cs.take (i * 2)).toArray ++ Builtin.zeroCells zval_key.cells (n + 1 - i) ++ Builtin.zeroCells zval_key.cells (G - (n + 1))
theorem insGrow_key (b n i vb voff vc : Nat) (cs vs : List Value) (w : World) (hi : i < n) (hbig : (2 * (n + 1) + 192) * 24 ≤ 281474976710656)
    (hcl : cs.length = n * 2) (hvl : vs.length = 2)
    (hcs : ∀ j v, cs[j]? = some v → w.cell? ⟨b, j, none⟩ = some v)
    (hvs : ∀ j v, vs[j]? = some v → w.cell? ⟨vb, voff + j, none⟩ = some v) (h1c : ∀ v ∈ cs, v.oneCell' = true) (h1v : ∀ v ∈ vs, v.oneCell' = true) :
    Calls Try.prog 23 #[.slice (some ⟨b, 0, none⟩) n n, .int .i64 i, .slice (some ⟨vb, voff, none⟩) 1 vc] w fun e w' =>
      e = .returned (.slice (some ⟨w.heap.size, 0, none⟩) (n + 1) (grownCap w (n + 1) n 24)) ∧
      w' = (((w.alloc (.cells (grown_key w cs n i (grownCap w (n + 1) n 24)) 24)).drew.setCells w.heap.size (i * 2) vs).drew).setCells w.heap.size ((i + 1) * 2) (cs.drop (i * 2)) := by
  have mixed := mixed; have t0 := Try.underlying0; have z0 := Try.sizeOf0; have t3 := Try.underlying3; have t4 := Try.underlying4; have tE := Try.underlying24; have tS := Try.underlying29
  have a3 := Try.isAgg3; have a4 := Try.isAgg4; have aE := Try.isAgg24; have aS := Try.isAgg29
  have z3 := Try.sizeOf3; have z4 := Try.sizeOf4; have zE := Try.sizeOf24; have zS := Try.sizeOf29
  have v3 := Try.zeroValue3; have v4 := Try.zeroValue4; have vE := Try.zeroValue24; have vS := Try.zeroValue29
  have u3 := run_underlying Try.underlying3; have u4 := run_underlying Try.underlying4; have uS := run_underlying Try.underlying29
  obtain ⟨i0, hi0, hz0, hzs, hzb⟩ : ∃ i0, Try.prog.info? 24 = some i0 ∧ i0.zero = some zval_key ∧ i0.size = 2 ∧ i0.bytes = 24 := ⟨Try.t24, by kernel_rfl, by kernel_rfl, by kernel_rfl, by kernel_rfl⟩
  have hz2 : ¬ ((i : Int) = (n : Int)) := by omega
  have hz3 : (n : Int) < (n : Int) + 1 := by omega
  have hsz : (Try.prog.info? 24).map (·.size) = some 2 := by rw [hi0]; simp [hzs]
  have hbw : b < w.heap.size := block_lt_of_cell (hcs 0 _ (List.getElem?_eq_getElem (by omega)))
  have hvw : vb < w.heap.size := block_lt_of_cell (hvs 0 _ (List.getElem?_eq_getElem (by omega)))
  have hkk : (n : Int) + 1 - (i : Int) = ((n + 1 - i : Nat) : Int) := by omega
  have hik : i + (n + 1 - i) = n + 1 := by omega
  have hold : (Builtin.firstCells i0.size i (.slice (some ⟨b, 0, none⟩) i n)).run Try.prog w.drew = .ok (cs.take (i * 2)).toArray w.drew := by
    rw [hzs]
    exact run_firstCells_some w.drew 2 i ⟨b, 0, none⟩ i n (cs.take (i * 2)) (by rw [List.length_take]; omega) (fun j v hj => by
      rw [Addr.add_lit, Nat.zero_add]
      rw [List.getElem?_take] at hj
      split at hj
      · exact hcs j v hj
      · cases hj)
  have hfit : Builtin.nextslicecap (n + 1) n * 24 ≤ 281474976710656 := by
    have := Nat.mul_le_mul_right 24 (Sx.nextcap_le (need := n + 1) (cap := n) (by omega))
    omega
  have hrz : ∀ ty, (Builtin.append_ #[29, 3] ty #[.slice (some ⟨b, 0, none⟩) i n, .int .i64 ((n : Int) + 1 - (i : Int))]).run Try.prog w =
      .ok (.slice (some ⟨w.heap.size, 0, none⟩) (n + 1) (grownCap w (n + 1) n 24)) (w.drew.alloc (.cells (grown_key w cs n i (grownCap w (n + 1) n 24)) 24)) := fun ty => by
    have h := Lib.run_append_grow_zeros w 29 3 ty 24 i0 _ .i64 .i64 Try.underlying29 Try.underlying3 hi0 hz0 (some ⟨b, 0, none⟩) i n (cs.take (i * 2)) hold (n + 1 - i) (by omega) (by omega) (by omega) (by omega) (by rw [hzb]; omega) (by rw [hzb, hik]; exact hfit)
    rw [hik] at h
    rw [hkk]
    exact h
  have hGn : n + 1 ≤ grownCap w (n + 1) n 24 := grownCap_ge w _ _ _
  have hG63 : grownCap w (n + 1) n 24 ≤ 9223372036854775807 := by
    have := grownCap_le_maxLen w (n + 1) n 24 (by unfold maxLen; omega)
    unfold maxLen at this
    omega
  obtain ⟨G, hG⟩ : ∃ G, G = grownCap w (n + 1) n 24 := ⟨_, rfl⟩
  rw [← hG] at hrz hGn hG63 ⊢
  obtain ⟨ROW, hROW⟩ : ∃ ROW : Array Value, ROW = grown_key w cs n i G := ⟨_, rfl⟩
  rw [← hROW] at hrz ⊢
  have hRl : (n + 1) * 2 ≤ ROW.size := by
    rw [hROW]
    simp [Builtin.zeroCells, Value.cells]
    omega
  obtain ⟨W1, hW1⟩ : ∃ W1, W1 = w.drew.alloc (.cells ROW 24) := ⟨_, rfl⟩
  rw [← hW1] at hrz
  have hN : ∀ j, j < (n + 1) * 2 → (W1.cell? ⟨w.heap.size, j, none⟩).isSome = true := fun j hj => by
    rw [hW1, World.cell?_alloc_at (w := w.drew) ROW _ w.heap.size j rfl, Array.getElem?_eq_getElem (by omega)]; rfl
  have hNf : ∀ j, W1.frozen? ⟨w.heap.size, j, none⟩ = false := fun j => by rw [hW1]; exact World.frozen?_alloc_at (w := w.drew) ROW _ w.heap.size j rfl
  have hOb : ∀ j v, w.cell? ⟨b, j, none⟩ = some v → W1.cell? ⟨b, j, none⟩ = some v := fun j v h => by rw [hW1, World.cell?_alloc_past (w := w.drew) _ b j hbw]; exact h
  have hOv : ∀ j v, w.cell? ⟨vb, j, none⟩ = some v → W1.cell? ⟨vb, j, none⟩ = some v := fun j v h => by rw [hW1, World.cell?_alloc_past (w := w.drew) _ vb j hvw]; exact h
  have hcpA : ∀ (W : World), (∀ x, W.cell? x = W1.cell? x) → (∀ x, W.frozen? x = W1.frozen? x) → ∀ ty dc, (Builtin.copy_ #[29, 29] ty #[.slice (some ⟨w.heap.size, i * 2, none⟩) (n + 1 - i) dc, .slice (some ⟨vb, voff, none⟩) 1 vc]).run Try.prog W = .ok (goInt (Nat.min 1 (n + 1 - i))) (W.setCells w.heap.size (i * 2) vs) := fun W hWc hWf ty dc =>
    run_copy_n W _ _ ty 24 2 w.heap.size (i * 2) (n + 1 - i) dc ⟨vb, voff, none⟩ 1 vc vs Try.underlying29 hsz (by rw [hvl]; simp only [Nat.min_def]; split <;> omega)
      (fun j v hj => by rw [Addr.add_lit, hWc]; exact hOv _ v (hvs j v hj))
      (fun j hj => by rw [hWc]; exact hN _ (by omega)) (fun j hj => by rw [hWf]; exact hNf _) h1v
  have hGi : ¬ (G = i) := by omega
  have hGim : ¬ (G = i + 1) := by omega
  have hci : ¬ (n = i) := by omega
  have hbN : b ≠ w.heap.size := by omega
  have hdl : (cs.drop (i * 2)).length = (n - i) * 2 := by rw [List.length_drop, hcl]; omega
  have hcpB : ∀ (W : World), (∀ x, W.cell? x = (W1.setCells w.heap.size (i * 2) vs).cell? x) → (∀ x, W.frozen? x = (W1.setCells w.heap.size (i * 2) vs).frozen? x) → ∀ ty dc sc, (Builtin.copy_ #[29, 29] ty #[.slice (some ⟨w.heap.size, (i + 1) * 2, none⟩) (n - i) dc, .slice (some ⟨b, i * 2, none⟩) (n - i) sc]).run Try.prog W = .ok (goInt (Nat.min (n - i) (n - i))) (W.setCells w.heap.size ((i + 1) * 2) (cs.drop (i * 2))) := fun W hWc hWf ty dc sc =>
    run_copy_n W _ _ ty 24 2 w.heap.size ((i + 1) * 2) (n - i) dc ⟨b, i * 2, none⟩ (n - i) sc (cs.drop (i * 2)) Try.underlying29 hsz (by rw [hdl]; simp only [Nat.min_def]; split <;> omega)
      (fun j v hj => by
        rw [Addr.add_lit, hWc, World.cell?_setCells_out _ _ _ _ _ (fun h _ => absurd h hbN)]
        exact hOb _ v (hcs (i * 2 + j) v (by rwa [List.getElem?_drop] at hj)))
      (fun j hj => by rw [hWc]; exact isSome_setCells w.heap.size vs (i * 2) W1 (fun t ht => hN _ (by omega)) _ (hN _ (by omega)))
      (fun j hj => by rw [hWf, World.frozen?_setCells]; exact hNf _) (fun v hv => h1c v (List.mem_of_mem_drop hv))
  subst hW1
  have hE1 : ∀ x, ((w.alloc (.cells ROW 24)).drew).cell? x = (w.drew.alloc (.cells ROW 24)).cell? x := fun x => rfl
  have hE2 : ∀ x, ((w.alloc (.cells ROW 24)).drew).frozen? x = (w.drew.alloc (.cells ROW 24)).frozen? x := fun x => rfl
  have hF1 : ∀ x, (((w.alloc (.cells ROW 24)).drew.setCells w.heap.size (i * 2) vs).drew).cell? x = ((w.drew.alloc (.cells ROW 24)).setCells w.heap.size (i * 2) vs).cell? x := fun x => rfl
  have hF2 : ∀ x, (((w.alloc (.cells ROW 24)).drew.setCells w.heap.size (i * 2) vs).drew).frozen? x = ((w.drew.alloc (.cells ROW 24)).setCells w.heap.size (i * 2) vs).frozen? x := fun x => rfl
  have hw1 : IntKind.i64.wrap ((i : Int) + 1) = (i : Int) + 1 := by rw [IntKind.wrap_i64]; omega
  have hw2 : IntKind.i64.wrap ((n : Int) + 1) = (n : Int) + 1 := by rw [IntKind.wrap_i64]; omega
  have hw3 : IntKind.i64.wrap ((n : Int) + 1 - (i : Int)) = (n : Int) + 1 - (i : Int) := by rw [IntKind.wrap_i64]; omega
  have hb1 : (0 : Int) ≤ (i : Int) + 1 := by omega
  have hin : i ≤ n := by omega
  have htn : ((i : Int) + 1).toNat = i + 1 := by omega
  have hb3 : (i : Int) ≤ (n : Int) := by omega
  clear hkk hik hold hROW hG hRl
  go_enter Try.func23, Try.ntmps23
  go_wp2_with (first
    | (at_builtin; refine Lib.wpList_append_run _ rfl _ _ _ _ rfl _ _ rfl rfl _ _ (hrz _) ?_)
    | (at_builtin; refine wpList_copy_runN _ rfl _ _ 29 29 rfl _ _ rfl rfl (hcpA _ hE1 hE2 _ _) ?_)
    | (at_builtin; refine wpList_copy_runN _ rfl _ _ 29 29 rfl _ _ rfl rfl (hcpB _ (fun _ => rfl) (fun _ => rfl) _ _ _) ?_))
  go_region_law_o (refine step_copy_runN rfl _ _ 29 29 rfl (.slice (some ⟨w.heap.size, (i + 1) * 2, none⟩) (n - i) (G - (i + 1))) (.slice (some ⟨b, i * 2, none⟩) (n - i) (n - i)) (by simp [Act.eval, Act.put]) (by simp [Act.eval, Act.put]) (hcpB _ hF1 hF2 3 (G - (i + 1)) (n - i)) ?_)
  go_wp2
  go_ret
  exact ⟨rfl, rfl⟩
end Go.Proofs.Ythpndlinlhapgaa
set_option linter.unusedSimpArgs false
set_option linter.unusedVariables false
set_option maxRecDepth 100000
namespace Go.Sx
open Go.RowKit
/-- cells set one by one: the row as it reads then -/
theorem setCells_row (b : Nat) (et : TypeId) : ∀ (vs : List Value) (o : Nat) (c : Array Value) (w : World) (pre mid post : List Value), w.heap[b]? = some (.cells c et (0, 0)) → c.toList = pre ++ (mid ++ post) → pre.length = o → mid.length = vs.length →
    w.setCells b o vs = w.setRow b (pre ++ (vs ++ post)).toArray
  | [], o, c, w, pre, mid, post, hg, hc, h1, h2 => by
    have : mid = [] := List.length_eq_zero_iff.1 h2
    subst this
    have hc' : (pre ++ ([] ++ post)).toArray = c := by rw [← hc]
    rw [hc']
    show w = _
    have hlt : b < w.heap.size := (Array.getElem?_eq_some_iff.1 hg).1
    have hv : w.heap[b] = .cells c et (0, 0) := (Array.getElem?_eq_some_iff.1 hg).2
    unfold World.setRow
    cases w with
    | mk heap tape drawn os output =>
      congr 1
      apply Array.ext
      · simp
      · intro k h1 h2
        simp only [Array.getElem_modify]
        split
        · rename_i hk; subst hk; simp at hv; simp [hv]
        · rfl
  | v :: rest, o, c, w, pre, mid, post, hg, hc, h1, h2 => by
    cases mid with
    | nil => simp at h2
    | cons m mid =>
      have hc2 : (c.setIfInBounds o v).toList = (pre ++ [v]) ++ (mid ++ post) := by
        rw [Array.toList_setIfInBounds, hc, ← h1]; simp
      have ih := setCells_row b et rest (o + 1) (c.setIfInBounds o v) (w.setRow b (c.setIfInBounds o v)) (pre ++ [v]) mid post (setRow_heap w b c _ et _ hg) hc2 (by simp [h1]) (by simpa using h2)
      rw [World.setCells, setCell_eq_setRow w b o c et (0, 0) v hg, ih, setRow_setRow]
      simp
/-- what is known of the world behind an insertion -/
structure InsW (w w' : World) (blk : Option Nat) (b' : Nat) (et : TypeId) (l : List Value) : Prop where
  os : w'.os = w.os
  tape : w'.tape = w.tape
  output : w'.output = w.output
  size : w.heap.size ≤ w'.heap.size
  unch : ∀ k, k < w.heap.size → blk ≠ some k → w'.heap[k]? = w.heap[k]?
  at_ : ∃ c, w'.heap[b']? = some (.cells c et (0, 0)) ∧ c.toList = l
  blk : blk = some b' ∨ w.heap.size ≤ b'
theorem ins_list {l cs spare vs : List Value} {i n sz : Nat} (hl : l = cs ++ spare) (hcs : cs.length = n * sz) (hvs : vs.length = sz) (hi : i < n) (hsp : sz ≤ spare.length) :
    (∃ pre mid, l = pre ++ (mid ++ spare.drop sz) ∧ pre.length = (i + 1) * sz ∧ mid.length = (cs.drop (i * sz)).length ∧
      ∃ mid2, pre = cs.take (i * sz) ++ mid2 ∧ mid2.length = vs.length) := by
  subst hl
  have e1 : i * sz + sz ≤ n * sz := by rw [← Nat.succ_mul]; exact Nat.mul_le_mul_right sz (by omega)
  have e2 : (i + 1) * sz = i * sz + sz := Nat.succ_mul i sz
  refine ⟨(cs ++ spare).take ((i + 1) * sz), ((cs ++ spare).take ((n + 1) * sz)).drop ((i + 1) * sz), ?_, ?_, ?_, (cs.take ((i + 1) * sz)).drop (i * sz), ?_, ?_⟩
  · have h3 : (n + 1) * sz = n * sz + sz := Nat.succ_mul n sz
    have h4 : spare.drop sz = (cs ++ spare).drop ((n + 1) * sz) := by
      have hd : cs.drop ((n + 1) * sz) = [] := List.drop_eq_nil_of_le (by omega)
      rw [List.drop_append, hd, List.nil_append, hcs]; congr 1; omega
    rw [h4]
    have h5 : (cs ++ spare).drop ((i + 1) * sz) = ((cs ++ spare).take ((n + 1) * sz)).drop ((i + 1) * sz) ++ (cs ++ spare).drop ((n + 1) * sz) := by
      conv => lhs; rw [← List.take_append_drop ((n + 1) * sz) (cs ++ spare)]
      rw [List.drop_append_of_le_length (by rw [List.length_take, List.length_append, hcs]; omega)]
    rw [← h5, List.take_append_drop]
  · rw [List.length_take, List.length_append, hcs]; omega
  · rw [List.length_drop, List.length_take, List.length_append, List.length_drop, hcs]
    have h3 : (n + 1) * sz = n * sz + sz := Nat.succ_mul n sz
    omega
  · rw [List.take_append_of_le_length (by omega)]
    conv => lhs; rw [← List.take_append_drop (i * sz) (cs.take ((i + 1) * sz))]
    rw [List.take_take, Nat.min_eq_left (by omega)]
  · rw [List.length_drop, List.length_take, hcs, hvs]; omega
theorem rows_ins {M : Mem} {sz : Nat} {rows : List (List C)} {cs vs : List Value} {x : List C} {i : Nat} (h : repRows M sz rows cs) (hx : repRow M x vs) (hl : x.length = sz) (hi : i ≤ rows.length) :
    repRows M sz (rows.take i ++ x :: rows.drop i) (cs.take (i * sz) ++ (vs ++ cs.drop (i * sz))) := by
  have h0 := h
  rw [← List.take_append_drop i rows] at h
  obtain ⟨v1, v2, e, h1, h2⟩ := repRows_split h
  have hl1 := repRows_length h1
  rw [List.length_take, Nat.min_eq_left hi] at hl1
  subst e
  have hd : v1.drop (i * sz) = [] := List.drop_eq_nil_of_le (by omega)
  have ht : v1.take (i * sz) = v1 := List.take_of_length_le (by omega)
  rw [List.take_append_of_le_length (by omega), ht, List.drop_append_of_le_length (by omega), hd, List.nil_append]
  refine repRows_append h1 ?_
  show repRows M sz ([x] ++ rows.drop i) _
  exact repRows_append (repRows_one hl hx) h2
/-- in place -/
theorem insW_shift {w : World} {b n i sz et : Nat} {c : Array Value} {cs spare vs : List Value} (hg : w.heap[b]? = some (.cells c et (0, 0))) (hc : c.toList = cs ++ spare) (hcs : cs.length = n * sz) (hvs : vs.length = sz) (hi : i < n) (hsp : sz ≤ spare.length) :
    InsW w ((w.drew.setCells b ((i + 1) * sz) (cs.drop (i * sz))).setCells b (i * sz) vs) (some b) b et ((cs.take (i * sz) ++ (vs ++ cs.drop (i * sz))) ++ spare.drop sz) := by
  obtain ⟨pre, mid, e1, l1, l2, mid2, e2, l3⟩ := ins_list hc hcs hvs hi hsp
  have hg1 : w.drew.heap[b]? = some (.cells c et (0, 0)) := hg
  have s1 := setCells_row b et (cs.drop (i * sz)) ((i + 1) * sz) c w.drew pre mid (spare.drop sz) hg1 e1 l1 l2
  have hlen : (cs.take (i * sz)).length = i * sz := by
    rw [List.length_take, hcs]
    have : i * sz ≤ n * sz := Nat.mul_le_mul_right sz (by omega)
    omega
  have s2 := setCells_row b et vs (i * sz) _ (w.drew.setRow b (pre ++ (cs.drop (i * sz) ++ spare.drop sz)).toArray) (cs.take (i * sz)) mid2 (cs.drop (i * sz) ++ spare.drop sz) (setRow_heap _ b c _ et _ hg1) (by rw [e2]; simp) hlen l3
  rw [s1, s2, setRow_setRow]
  refine ⟨rfl, rfl, rfl, by unfold World.setRow; simp only [Array.size_modify]; exact Nat.le_refl _, fun k hk hb => ?_, ⟨_, setRow_heap _ b c _ et _ hg1, by simp⟩, .inl rfl⟩
  rw [setRow_other _ b k _ (fun e => hb (by rw [e]))]; rfl
/-- a new row -/
theorem insW_grow {w : World} {n i sz et : Nat} {ROW : Array Value} {cs zs vs : List Value} {blk : Option Nat} (hR : ROW.toList = cs.take (i * sz) ++ zs) (hzs : (n + 1 - i) * sz ≤ zs.length) (hcs : cs.length = n * sz) (hvs : vs.length = sz) (hi : i < n) :
    InsW w ((((w.alloc (.cells ROW et)).drew.setCells w.heap.size (i * sz) vs).drew).setCells w.heap.size ((i + 1) * sz) (cs.drop (i * sz))) blk w.heap.size et ((cs.take (i * sz) ++ (vs ++ cs.drop (i * sz))) ++ zs.drop ((n + 1 - i) * sz)) := by
  have hg : (w.alloc (.cells ROW et)).drew.heap[w.heap.size]? = some (.cells ROW et (0, 0)) := by
    show (w.alloc (.cells ROW et)).heap[w.heap.size]? = _
    unfold World.alloc; simp
  have e1 : i * sz + sz ≤ n * sz := by rw [← Nat.succ_mul]; exact Nat.mul_le_mul_right sz (by omega)
  have e2 : (i + 1) * sz = i * sz + sz := Nat.succ_mul i sz
  have e3 : (n + 1 - i) * sz = sz + (n - i) * sz := by rw [show n + 1 - i = (n - i) + 1 by omega, Nat.succ_mul]; omega
  have e4 : (n - i) * sz = n * sz - i * sz := Nat.sub_mul n i sz
  have hlen : (cs.take (i * sz)).length = i * sz := by rw [List.length_take, hcs]; omega
  have s1 := setCells_row w.heap.size et vs (i * sz) ROW (w.alloc (.cells ROW et)).drew (cs.take (i * sz)) (zs.take sz) (zs.drop sz) hg (by rw [List.take_append_drop]; exact hR) hlen (by rw [List.length_take]; omega)
  have hg2 := setRow_heap (w.alloc (.cells ROW et)).drew w.heap.size ROW (cs.take (i * sz) ++ (vs ++ zs.drop sz)).toArray et _ hg
  have hz : zs.drop sz = (zs.drop sz).take ((n - i) * sz) ++ zs.drop ((n + 1 - i) * sz) := by
    rw [e3, ← List.drop_drop, List.take_append_drop]
  have s2 := setCells_row w.heap.size et (cs.drop (i * sz)) ((i + 1) * sz) _ (((w.alloc (.cells ROW et)).drew.setRow w.heap.size (cs.take (i * sz) ++ (vs ++ zs.drop sz)).toArray).drew) (cs.take (i * sz) ++ vs) ((zs.drop sz).take ((n - i) * sz)) (zs.drop ((n + 1 - i) * sz)) hg2 (by rw [← hz]; simp) (by rw [List.length_append, hlen, hvs, e2]) (by rw [List.length_take, List.length_drop, List.length_drop, hcs]; omega)
  rw [s1, s2]
  refine ⟨rfl, rfl, rfl, ?_, fun k hk hb => ?_, ⟨_, setRow_heap _ w.heap.size _ _ et _ hg2, by simp⟩, .inr (Nat.le_refl _)⟩
  · unfold World.setRow; simp only [Array.size_modify]
    show w.heap.size ≤ (((w.alloc (.cells ROW et)).drew.setRow w.heap.size (cs.take (i * sz) ++ (vs ++ zs.drop sz)).toArray)).heap.size
    unfold World.setRow; simp only [Array.size_modify]
    show w.heap.size ≤ (w.alloc (.cells ROW et)).heap.size
    unfold World.alloc; simp
  · rw [setRow_other _ w.heap.size k _ (by omega)]
    show (((w.alloc (.cells ROW et)).drew.setRow w.heap.size (cs.take (i * sz) ++ (vs ++ zs.drop sz)).toArray)).heap[k]? = _
    rw [setRow_other _ w.heap.size k _ (by omega)]
    show (w.alloc (.cells ROW et)).heap[k]? = _
    unfold World.alloc; simp [Array.getElem?_push]; omega
theorem insW_sat {M : Mem} {ν : Nu} {w w' : World} {sz : Nat} {rows rows' : List (List C)} {mid post : List Value} {cap b et : Nat} (hs : Sat ⟨w, boxBlocks [(0, .row sz rows)] ν, ν⟩ M ν [(0, .row sz rows)] w)
    (h : InsW w w' (ν 0).blk b et (mid ++ post)) (hr : repRows M sz rows' mid) (hl : (mid ++ post).length = cap * sz) (h1 : rows'.length ≤ cap) (h2 : cap ≤ maxLen) :
    ∃ v M' ν', Ending.returned (.slice (some ⟨b, 0, none⟩) rows'.length cap) = Ending.returned v ∧ Mem.ext ⟨w, boxBlocks [(0, .row sz rows)] ν, ν⟩ M M' ∧ (T.one (.own 1 rows'.length)).rep M' ν' v ∧ Sat ⟨w, boxBlocks [(0, .row sz rows)] ν, ν⟩ M' ν' [(1, .row sz rows')] w' := by
  have hD : ∀ k, boxBlocks [(0, Res.row sz rows)] ν k ↔ (ν 0).blk = some k := fun k => by
    constructor
    · rintro ⟨j, q, hm, hb⟩; simp only [List.mem_singleton] at hm; cases hm; exact hb
    · exact fun e => ⟨0, _, List.mem_singleton.2 rfl, e⟩
  have hMlt : ∀ k o, M k = some o → k < w.heap.size := fun k o e => (Array.getElem?_eq_some_iff.1 (hs.fro k o e)).1
  have hMb : M b = none := by
    rcases h.blk with e | e
    · exact (hs.away 0 _ b (List.mem_singleton.2 rfl) e).1
    · cases hm : M b with
      | none => rfl
      | some o => have := hMlt b o hm; omega
  obtain ⟨c, hc1, hc2⟩ := h.at_
  refine ⟨_, M, fun _ => ⟨some b, cap⟩, rfl, Mem.ext.refl _ M, by simp only [T.rep, Cell.rep]; rfl, ?_⟩
  refine ⟨h.os, h.tape, h.output, Nat.zero_le _, h.size, fun k hk hd => h.unch k hk fun e => hd ((hD k).2 e), fun k o e => ?_, ?_, ?_, ?_, by simp⟩
  · have hne : (ν 0).blk ≠ some k := fun e2 => by
      have := (hs.away 0 _ k (List.mem_singleton.2 rfl) e2).1
      rw [e] at this; cases this
    rw [h.unch k (hMlt k o e) hne]; exact hs.fro k o e
  · intro k q hm
    simp only [List.mem_singleton] at hm
    cases hm
    exact ⟨h1, h2, .inr ⟨b, c, et, mid, post, rfl, hc1, hc2, hr, by rw [← Array.length_toList, hc2]; exact hl⟩⟩
  · intro k q d hm hb
    simp only [List.mem_singleton] at hm
    cases hm; cases hb
    exact ⟨hMb, h.blk.elim (fun e => .inr ((hD _).2 e)) .inl⟩
  · intro k q k' q' d hm hm' _ _
    simp only [List.mem_singleton] at hm hm'
    cases hm; cases hm'; rfl
theorem rows_oneCell {M : Mem} {sz : Nat} : ∀ {rows : List (List C)} {vs : List Value}, repRows M sz rows vs → ∀ v ∈ vs, v.oneCell' = true
  | [], vs, h, v, hv => by simp only [repRows] at h; subst h; cases hv
  | r :: rs, vs, h, v, hv => by
    simp only [repRows] at h
    obtain ⟨v1, v2, rfl, _, h1, h2⟩ := h
    rcases List.mem_append.1 hv with hv | hv
    · exact Cell.reps_oneCell (ν := fun _ => ⟨none, 0⟩) (Cell.reps_map_c.2 h1) v hv
    · exact rows_oneCell h2 v hv
theorem reps3' {M : Mem0} {ν : Nu} {a b c : T} {vs : List Value} (h : T.reps M ν [a, b, c] vs) : ∃ x y z, vs = [x, y, z] ∧ a.rep M ν x ∧ b.rep M ν y ∧ c.rep M ν z := by
  simp only [T.reps] at h
  obtain ⟨x, vs', rfl, h1, y, vs'', rfl, h2, z, vs3, rfl, h3, rfl⟩ := h
  exact ⟨x, y, z, rfl, h1, h2, h3⟩
theorem cell_obj {w : World} {b j : Nat} {c : Array Value} {et : TypeId} {fz : Nat × Nat} (h : w.heap[b]? = some (.cells c et fz)) : w.cell? ⟨b, j, none⟩ = c[j]? := by
  simp [World.cell?, h]
theorem fro_obj {w : World} {b j : Nat} {c : Array Value} {et : TypeId} (h : w.heap[b]? = some (.cells c et (0, 0))) : w.frozen? ⟨b, j, none⟩ = false := by simp [World.frozen?, h]
theorem shape_obj {w : World} {b : Nat} {c : Array Value} {et : TypeId} {fz : Nat × Nat} (h : w.heap[b]? = some (.cells c et fz)) : w.shape? b = some (et, c.size) := by simp [World.shape?, h]
theorem append_ty (ty ty' : TypeId) {ts : Array TypeId} {vs : Array Value} : Builtin.append_ ts ty vs = Builtin.append_ ts ty' vs := rfl
/-- an insertion takes the row for good and gives another -/
theorem PCX.ins {P : Program} {f : FuncId} {sz bt TS et : Nat} {z : Value} (hE : Ent P f) (hsz : 0 < sz) (hbs : bsT P TS = some (et, sz)) (hby : byT P TS = some bt) (hbt : 0 < bt) (hni : notInt P TS = true) (hzs : z.cells.size = sz)
    (shift : ∀ (b n c i vb voff vc : Nat) (cs vs : List Value) (w : World), i < n → n + 1 ≤ c → c ≤ 9223372036854775807 → vb ≠ b → cs.length = n * sz → vs.length = sz → (∀ j v, cs[j]? = some v → w.cell? ⟨b, j, none⟩ = some v) →
      (∀ j, j < (n + 1) * sz → (w.cell? ⟨b, j, none⟩).isSome = true) → (∀ j, j < (n + 1) * sz → w.frozen? ⟨b, j, none⟩ = false) → (∀ j v, vs[j]? = some v → w.cell? ⟨vb, voff + j, none⟩ = some v) → (∀ v ∈ cs, v.oneCell' = true) → (∀ v ∈ vs, v.oneCell' = true) →
      ∀ (tA tB : TypeId) (kA kB : Nat), w.shape? vb = some (tA, kA) → w.shape? b = some (tB, kB) → kA ≠ 0 → (∀ j, w.frozen? ⟨b, j, none⟩ = false) →
      Calls P f #[.slice (some ⟨b, 0, none⟩) n c, .int .i64 i, .slice (some ⟨vb, voff, none⟩) 1 vc] w fun e w' => e = .returned (.slice (some ⟨b, 0, none⟩) (n + 1) c) ∧ w' = (w.drew.setCells b ((i + 1) * sz) (cs.drop (i * sz))).setCells b (i * sz) vs)
    (grow : ∀ (b n i vb voff vc : Nat) (cs vs : List Value) (w : World), i < n → (2 * (n + 1) + 192) * bt ≤ 281474976710656 → cs.length = n * sz → vs.length = sz → (∀ j v, cs[j]? = some v → w.cell? ⟨b, j, none⟩ = some v) →
      (∀ j v, vs[j]? = some v → w.cell? ⟨vb, voff + j, none⟩ = some v) → (∀ v ∈ cs, v.oneCell' = true) → (∀ v ∈ vs, v.oneCell' = true) →
      Calls P f #[.slice (some ⟨b, 0, none⟩) n n, .int .i64 i, .slice (some ⟨vb, voff, none⟩) 1 vc] w fun e w' => e = .returned (.slice (some ⟨w.heap.size, 0, none⟩) (n + 1) (grownCap w (n + 1) n et)) ∧
        w' = (((w.alloc (.cells ((cs.take (i * sz)).toArray ++ Builtin.zeroCells z.cells (n + 1 - i) ++ Builtin.zeroCells z.cells (grownCap w (n + 1) n et - (n + 1))) et)).drew.setCells w.heap.size (i * sz) vs).drew).setCells w.heap.size ((i + 1) * sz) (cs.drop (i * sz)))
    (endd : ∀ (base : Option Addr) (n c : Nat) (b vb voff vc : Nat) (V : Value) (w W' : World), (base = some ⟨b, 0, none⟩ ∨ (base = none ∧ n = 0 ∧ c = 0)) → n ≤ c → c ≤ 9223372036854775807 →
      (∀ ty, (Builtin.append_ #[TS, TS] ty #[.slice base n c, .slice (some ⟨vb, voff, none⟩) 1 vc]).run P w = .ok V W') → Calls P f #[.slice base n c, .int .i64 n, .slice (some ⟨vb, voff, none⟩) 1 vc] w fun e w' => e = .returned V ∧ w' = W')
    (rows : List (List C)) (x : List C) (i : Nat) (hx : x.length = sz) (hi : i ≤ rows.length) (hroom : (2 * (rows.length + 1) + 192) * bt ≤ 281474976710656) :
    PCX P f [.one (.own 0 rows.length), .one (.dat (.int .i64 i)), .one (.dat (.sl sz [x]))] [(0, .row sz rows)] (.one (.own 1 (rows.length + 1))) [(1, .row sz (rows.take i ++ x :: rows.drop i))] := by
  refine ⟨hE, fun M ν w vs hs hv => ?_⟩
  obtain ⟨v1, v2, v3, rfl, h1, h2, h3⟩ := reps3' hv
  simp only [T.rep, Cell.rep, C.rep] at h1 h2 h3
  obtain ⟨a3, cap3, vs, e3, hc31, hc32, hr3, hor⟩ := h3
  subst h1 h2
  have hl' : (rows.take i ++ x :: rows.drop i).length = rows.length + 1 := by simp; omega
  obtain ⟨vb, voff, ea, hat⟩ := hor.resolve_left (by simp)
  subst ea e3
  have hrx : repRow M x vs := by
    simp only [repRows] at hr3
    obtain ⟨u1, u2, e, _, hu, rfl⟩ := hr3
    rw [e, List.append_nil]; exact hu
  have hvl : vs.length = sz := by rw [repRow_length hrx, hx]
  have hv1 : ∀ v ∈ vs, v.oneCell' = true := fun v hv => Cell.reps_oneCell (ν := ν) (Cell.reps_map_c.2 hrx) v hv
  obtain ⟨c3, et3, fz3, pre3, post3, hM3, hc3, hpre3⟩ := hat
  have hg3 := hs.fro _ _ hM3
  have hvs : ∀ j v, vs[j]? = some v → w.cell? ⟨vb, voff + j, none⟩ = some v := fun j v hj => by
    rw [cell_obj hg3, ← Array.getElem?_toList, hc3, ← hpre3, List.getElem?_append_right (by omega), Nat.add_sub_cancel_left, List.getElem?_append_left (List.getElem?_eq_some_iff.1 hj).1]; exact hj
  have hc3s : c3.size ≠ 0 := by
    rw [← Array.length_toList, hc3]; simp only [List.length_append]; omega
  have hres := hs.res 0 _ (List.mem_singleton.2 rfl)
  simp only [Res.ok] at hres
  obtain ⟨hcap1, hcap2, hblk⟩ := hres
  have hcap63 : (ν 0).cap ≤ 9223372036854775807 := by unfold maxLen at hcap2; omega
  obtain ⟨hu, hszT, ⟨z0, hz0, hz0s⟩, hn0⟩ := bsT_spec hbs
  obtain ⟨inf, hinf, hinfb⟩ := byT_spec hby hu
  have hk48 : 2 * (rows.length + 1) + 192 ≤ 281474976710656 := Nat.le_trans (Nat.le_mul_of_pos_right _ hbt) hroom
  have hml : rows.length + 1 ≤ maxLen := by unfold maxLen; omega
  rcases Nat.lt_or_ge i rows.length with hlt | hge
  · -- in the middle
    obtain ⟨b, c, et', mid, post, hb, hg, hc, hrr, hcs⟩ : ∃ b c et' mid post, (ν 0).blk = some b ∧ w.heap[b]? = some (.cells c et' (0, 0)) ∧ c.toList = mid ++ post ∧ repRows M sz rows mid ∧ c.size = (ν 0).cap * sz := by
      rcases hblk with ⟨_, h0⟩ | ⟨b, c, et', mid, post, h⟩
      · omega
      · exact ⟨b, c, et', mid, post, h⟩
    have hml2 := repRows_length hrr
    have hm1 : ∀ v ∈ mid, v.oneCell' = true := fun v hv => rows_oneCell hrr v hv
    have hvb : vb ≠ b := fun e => by
      have := (hs.away 0 _ b (List.mem_singleton.2 rfl) hb).1
      rw [← e, hM3] at this; cases this
    have hcs0 : ∀ j v, mid[j]? = some v → w.cell? ⟨b, j, none⟩ = some v := fun j v hj => by
      rw [cell_obj hg, ← Array.getElem?_toList, hc, List.getElem?_append_left (List.getElem?_eq_some_iff.1 hj).1]; exact hj
    rw [hb]
    simp only [Option.map_some]
    by_cases hroom2 : rows.length + 1 ≤ (ν 0).cap
    · have hsz2 : (rows.length + 1) * sz ≤ c.size := by rw [hcs]; exact Nat.mul_le_mul_right sz hroom2
      have hlen : c.size = mid.length + post.length := by rw [← Array.length_toList, hc, List.length_append]
      have hs1 : (rows.length + 1) * sz = rows.length * sz + sz := Nat.succ_mul _ _
      refine Calls.mono (shift b rows.length (ν 0).cap i vb voff cap3 mid vs w hlt hroom2 hcap63 hvb hml2 hvl hcs0 (fun j hj => by rw [cell_obj hg, Array.getElem?_eq_getElem (by omega)]; rfl) (fun j _ => fro_obj hg) hvs hm1 hv1 et3 et' c3.size c.size (shape_obj hg3) (shape_obj hg) hc3s (fun j => fro_obj hg)) ?_
      rintro e w' ⟨rfl, rfl⟩
      have hW := insW_shift (et := et') (spare := post) (vs := vs) hg hc hml2 hvl hlt (by omega)
      rw [← hb] at hW
      have := insW_sat (cap := (ν 0).cap) hs hW (rows_ins hrr hrx hx hi) (by simp only [List.length_append, List.length_take, List.length_drop, hml2, hvl, ← hcs, hlen]; have : i * sz ≤ rows.length * sz := Nat.mul_le_mul_right sz hi; omega) (by omega) hcap2
      rw [hl'] at this
      exact this
    · have hcn : (ν 0).cap = rows.length := by omega
      rw [hcn]
      refine Calls.mono (grow b rows.length i vb voff cap3 mid vs w hlt hroom hml2 hvl hcs0 hvs hm1 hv1) ?_
      rintro e w' ⟨rfl, rfl⟩
      have hzc : ∀ k, (Builtin.zeroCells z.cells k).size = k * sz := fun k => by rw [zeroCells_size, hzs]
      have hG1 : rows.length + 1 ≤ grownCap w (rows.length + 1) rows.length et := grownCap_ge w _ _ _
      have hG2 : grownCap w (rows.length + 1) rows.length et ≤ maxLen := grownCap_le_maxLen w _ _ et hml
      generalize grownCap w (rows.length + 1) rows.length et = G at hG1 hG2 ⊢
      have hW := insW_grow (w := w) (et := et) (vs := vs) (blk := (ν 0).blk) (n := rows.length) (cs := mid) (i := i) (sz := sz) (ROW := (mid.take (i * sz)).toArray ++ Builtin.zeroCells z.cells (rows.length + 1 - i) ++ Builtin.zeroCells z.cells (G - (rows.length + 1)))
        (zs := (Builtin.zeroCells z.cells (rows.length + 1 - i)).toList ++ (Builtin.zeroCells z.cells (G - (rows.length + 1))).toList) (by simp) (by simp only [List.length_append, Array.length_toList, hzc]; omega) hml2 hvl hlt
      have := insW_sat (cap := G) hs hW (rows_ins hrr hrx hx hi) (by
        simp only [List.length_append, List.length_take, List.length_drop, hml2, hvl, Array.length_toList, hzc]
        have e1 : i * sz ≤ rows.length * sz := Nat.mul_le_mul_right sz hi
        have e2 : (G - (rows.length + 1)) * sz = G * sz - (rows.length + 1) * sz := Nat.sub_mul _ _ _
        have e3 : (rows.length + 1) * sz = rows.length * sz + sz := Nat.succ_mul _ _
        have e4 : (rows.length + 1) * sz ≤ G * sz := Nat.mul_le_mul_right sz hG1
        omega) (by omega) hG2
      rw [hl'] at this
      exact this
  · -- at the end
    have hin : i = rows.length := by omega
    subst hin
    have hrr' : ∀ {mid : List Value}, repRows M sz rows mid → repRows M sz (rows.take rows.length ++ x :: rows.drop rows.length) (mid ++ vs) := fun h => by
      rw [List.take_length, List.drop_length]; exact repRows_append h (repRows_one hx hrx)
    have hlenx : ∀ w : World, (Builtin.lenOf (.slice (some ⟨vb, voff, none⟩) 1 cap3)).run P w = .ok 1 w := fun w => rfl
    have hnew : ∀ d, (Builtin.firstCells sz 1 (.slice (some ⟨vb, voff, none⟩) 1 cap3)).run P { w with drawn := d } = .ok vs.toArray { w with drawn := d } := fun d =>
      firstCells_at (w := { w with drawn := d }) ⟨c3, et3, fz3, pre3, post3, hg3, hc3, hpre3⟩ (by rw [hvl, Nat.one_mul])
    rcases hblk with ⟨hb, h0⟩ | ⟨b, c, et', mid, post, hb, hg, hc, hrr, hcs⟩
    · have hr0 : rows.length = 0 := by omega
      have hrn : rows = [] := List.length_eq_zero_iff.1 hr0
      subst hrn
      rw [hb, h0, Option.map_none]
      obtain ⟨_, _, hout⟩ := append_run (t2 := TS) (ty := TS) hu hszT hinf hinfb hz0 hz0s hni (base := none) (sLen := 0) (sCap := 0) (x := .slice (some ⟨vb, voff, none⟩) 1 cap3) (m := 1) (new := vs) (old := []) (w := w) (hlenx w) (by omega) hroom hnew (fun d => rfl) hbt
      obtain ⟨cap, d, rest, hd, hc1, hc2, hrs, hrun⟩ := hout (by omega)
      refine Calls.mono (endd none 0 0 0 vb voff cap3 _ w _ (.inr ⟨rfl, rfl, rfl⟩) (by omega) (by omega) (fun ty => by rw [append_ty ty TS]; exact hrun)) ?_
      rintro e w' ⟨rfl, rfl⟩
      have hW : InsW w { w with drawn := d, heap := w.heap.push (.cells (([] ++ vs).toArray ++ rest) et) } (ν 0).blk w.heap.size et (vs ++ rest.toList) :=
        ⟨rfl, rfl, rfl, by simp, fun k hk _ => by simp [Array.getElem?_push]; omega, ⟨_, by simp; rfl, by simp⟩, .inr (Nat.le_refl _)⟩
      exact insW_sat (rows' := [x]) (cap := cap) hs hW (repRows_one hx hrx) (by
        simp only [List.length_append, hvl, Array.length_toList, hrs]
        have e1 := Nat.sub_mul cap (0 + 1) sz
        have e2 := Nat.mul_le_mul_right sz hc1
        omega) hc1 hc2
    · have hml2 := repRows_length hrr
      have hold : ∀ d, (Builtin.firstCells sz rows.length (.slice (some ⟨b, 0, none⟩) rows.length (ν 0).cap)).run P { w with drawn := d } = .ok mid.toArray { w with drawn := d } := fun d =>
        firstCells_at (w := { w with drawn := d }) ⟨c, et', (0, 0), [], post, hg, by rw [hc]; rfl, rfl⟩ hml2
      rw [hb]
      simp only [Option.map_some]
      obtain ⟨_, hin, hout⟩ := append_run (t2 := TS) (ty := TS) hu hszT hinf hinfb hz0 hz0s hni (base := some ⟨b, 0, none⟩) (sLen := rows.length) (sCap := (ν 0).cap) (x := .slice (some ⟨vb, voff, none⟩) 1 cap3) (m := 1) (new := vs) (old := mid) (w := w) (hlenx w) hml hroom hnew hold hbt
      by_cases hroom2 : rows.length + 1 ≤ (ν 0).cap
      · have hlen : c.size = mid.length + post.length := by rw [← Array.length_toList, hc, List.length_append]
        have hsz2 : (rows.length + 1) * sz ≤ c.size := by rw [hcs]; exact Nat.mul_le_mul_right sz hroom2
        have hs1 : (rows.length + 1) * sz = rows.length * sz + sz := Nat.succ_mul _ _
        have hst : (storeCells ((⟨b, 0, none⟩ : Addr).add (rows.length * sz)) vs).run P w = .ok () (w.setRow b (mid ++ (vs ++ post.drop sz)).toArray) := by
          rw [addr_add, Nat.zero_add]
          exact run_storeAt b (rows.length * sz) et' vs 0 c w mid (post.take sz) (post.drop sz) hg (by rw [List.take_append_drop]; exact hc) (by rw [Nat.add_zero]; exact hml2) (by rw [List.length_take]; omega) hv1
        refine Calls.mono (endd (some ⟨b, 0, none⟩) rows.length (ν 0).cap b vb voff cap3 _ w _ (.inl rfl) hcap1 hcap63 (fun ty => by rw [append_ty ty TS]; exact hin _ hroom2 hst)) ?_
        rintro e w' ⟨rfl, rfl⟩
        have hW : InsW w (w.setRow b (mid ++ (vs ++ post.drop sz)).toArray) (ν 0).blk b et' ((mid ++ vs) ++ post.drop sz) :=
          ⟨rfl, rfl, rfl, by unfold World.setRow; simp only [Array.size_modify]; exact Nat.le_refl _, fun k hk hn => by rw [setRow_other _ b k _ (fun e => hn (by rw [e, hb]))], ⟨_, setRow_heap _ b c _ et' _ hg, by simp⟩, .inl hb⟩
        have := insW_sat (cap := (ν 0).cap) hs hW (hrr' hrr) (by simp only [List.length_append, List.length_drop, hml2, hvl, ← hcs, hlen]; omega) (by omega) hcap2
        rw [hl'] at this
        exact this
      · obtain ⟨cap, d, rest, hd, hc1, hc2, hrs, hrun⟩ := hout hroom2
        refine Calls.mono (endd (some ⟨b, 0, none⟩) rows.length (ν 0).cap b vb voff cap3 _ w _ (.inl rfl) hcap1 hcap63 (fun ty => by rw [append_ty ty TS]; exact hrun)) ?_
        rintro e w' ⟨rfl, rfl⟩
        have hW : InsW w { w with drawn := d, heap := w.heap.push (.cells ((mid ++ vs).toArray ++ rest) et) } (ν 0).blk w.heap.size et ((mid ++ vs) ++ rest.toList) :=
          ⟨rfl, rfl, rfl, by simp, fun k hk _ => by simp [Array.getElem?_push]; omega, ⟨_, by simp; rfl, by simp⟩, .inr (Nat.le_refl _)⟩
        have := insW_sat (cap := cap) hs hW (hrr' hrr) (by
          simp only [List.length_append, hml2, hvl, Array.length_toList, hrs]
          have e1 := Nat.sub_mul cap (rows.length + 1) sz
          have e2 := Nat.mul_le_mul_right sz hc1
          have e3 : (rows.length + 1) * sz = rows.length * sz + sz := Nat.succ_mul _ _
          omega) (by omega) hc2
        rw [hl'] at this
        exact this
end Go.Sx
set_option linter.unusedSimpArgs false
set_option linter.unusedVariables false
set_option maxRecDepth 100000
set_option maxHeartbeats 6400000
namespace Go.Proofs.Ythpndlinlhapgaa
open Go Go.RowKit Go.Lib
theorem insEnd_key (base : Option Addr) (n c : Nat) (b vb voff vc : Nat) (V : Value) (w W' : World) (hb : base = some ⟨b, 0, none⟩ ∨ (base = none ∧ n = 0 ∧ c = 0)) (hnc : n ≤ c) (hc63 : c ≤ 9223372036854775807)
    (hap : ∀ ty, (Builtin.append_ #[29, 29] ty #[.slice base n c, .slice (some ⟨vb, voff, none⟩) 1 vc]).run Try.prog w = .ok V W') :
    Calls Try.prog 23 #[.slice base n c, .int .i64 n, .slice (some ⟨vb, voff, none⟩) 1 vc] w fun e w' => e = .returned V ∧ w' = W' := by
  have mixed := mixed; have t0 := Try.underlying0; have z0 := Try.sizeOf0; have t3 := Try.underlying3; have t4 := Try.underlying4; have tE := Try.underlying24; have tS := Try.underlying29
  have a3 := Try.isAgg3; have a4 := Try.isAgg4; have aE := Try.isAgg24; have aS := Try.isAgg29
  have z3 := Try.sizeOf3; have z4 := Try.sizeOf4; have zE := Try.sizeOf24; have zS := Try.sizeOf29
  have v3 := Try.zeroValue3; have v4 := Try.zeroValue4; have vE := Try.zeroValue24; have vS := Try.zeroValue29
  have u3 := run_underlying Try.underlying3; have u4 := run_underlying Try.underlying4; have uS := run_underlying Try.underlying29
  have hb0 : (0 : Int) ≤ (n : Int) := by omega
  rcases hb with rfl | ⟨rfl, rfl, rfl⟩
  · by_cases hcn : c = n
    · go_enter Try.func23, Try.ntmps23
      go_wp2_with (at_builtin; refine Lib.wpList_append_run _ rfl _ _ _ _ rfl _ _ rfl rfl _ _ (hap _) ?_)
      go_ret
      exact ⟨rfl, rfl⟩
    · go_enter Try.func23, Try.ntmps23
      go_wp2_with (at_builtin; refine Lib.wpList_append_run _ rfl _ _ _ _ rfl _ _ rfl rfl _ _ (hap _) ?_)
      go_ret
      exact ⟨rfl, rfl⟩
  · go_enter Try.func23, Try.ntmps23
    go_wp2_with (at_builtin; refine Lib.wpList_append_run _ rfl _ _ _ _ rfl _ _ rfl rfl _ _ (hap _) ?_)
    go_ret
    exact ⟨rfl, rfl⟩
theorem ins_key (rows : List (List Sx.C)) (x : List Sx.C) (i : Nat) (hx : x.length = 2) (hi : i ≤ rows.length) (hroom : (2 * (rows.length + 1) + 192) * 24 ≤ 281474976710656) :
    Sx.PCX Try.prog 23 [.one (.own 0 rows.length), Sx.I .i64 i, .one (.dat (.sl 2 [x]))] [(0, .row 2 rows)] (.one (.own 1 (rows.length + 1))) [(1, .row 2 (rows.take i ++ x :: rows.drop i))] :=
  Sx.PCX.ins (z := zval_key) (bt := 24) (TS := 29) (et := 24) ⟨_, Try.func23, by decide, rfl⟩ (by decide) bs29 by29 (by decide) ni29 (by rfl) insShift_key insGrow_key insEnd_key rows x i hx hi hroom
theorem insShift_dat (b n c i vb voff vc : Nat) (cs vs : List Value) (w : World) (hi : i < n) (hroom : n + 1 ≤ c) (hc63 : c ≤ 9223372036854775807) (hvb : vb ≠ b)
    (hcl : cs.length = n * 13) (hvl : vs.length = 13)
    (hcs : ∀ j v, cs[j]? = some v → w.cell? ⟨b, j, none⟩ = some v) (hsp : ∀ j, j < (n + 1) * 13 → (w.cell? ⟨b, j, none⟩).isSome = true) (hfz : ∀ j, j < (n + 1) * 13 → w.frozen? ⟨b, j, none⟩ = false)
    (hvs : ∀ j v, vs[j]? = some v → w.cell? ⟨vb, voff + j, none⟩ = some v) (h1c : ∀ v ∈ cs, v.oneCell' = true) (h1v : ∀ v ∈ vs, v.oneCell' = true)
    (tA tB : TypeId) (kA kB : Nat) (hsa : w.shape? vb = some (tA, kA)) (hsb : w.shape? b = some (tB, kB)) (hkA : kA ≠ 0) (hfb : ∀ j, w.frozen? ⟨b, j, none⟩ = false) :
    Calls Try.prog 24 #[.slice (some ⟨b, 0, none⟩) n c, .int .i64 i, .slice (some ⟨vb, voff, none⟩) 1 vc] w fun e w' =>
      e = .returned (.slice (some ⟨b, 0, none⟩) (n + 1) c) ∧ w' = (w.drew.setCells b ((i + 1) * 13) (cs.drop (i * 13))).setCells b (i * 13) vs := by
  have mixed := mixed; have t0 := Try.underlying0; have z0 := Try.sizeOf0; have t3 := Try.underlying3; have t4 := Try.underlying4; have tE := Try.underlying34; have tS := Try.underlying28
  have a3 := Try.isAgg3; have a4 := Try.isAgg4; have aE := Try.isAgg34; have aS := Try.isAgg28
  have z3 := Try.sizeOf3; have z4 := Try.sizeOf4; have zE := Try.sizeOf34; have zS := Try.sizeOf28
  have v3 := Try.zeroValue3; have v4 := Try.zeroValue4; have vE := Try.zeroValue34; have vS := Try.zeroValue28
  have u3 := run_underlying Try.underlying3; have u4 := run_underlying Try.underlying4; have uS := run_underlying Try.underlying28
  have hz2 : ¬ ((i : Int) = (n : Int)) := by omega
  have hsz : (Try.prog.info? 34).map (·.size) = some 13 := by kernel_rfl
  have hov : ∀ lb cb, (callFunc 38 #[.slice (some ⟨vb, voff, none⟩) 1 vc, .slice (some ⟨b, (i + 1) * 13, none⟩) lb cb]).run Try.prog w = .ok (.value (.bool false)) w := fun lb cb => by
    rw [run_callFunc_extern Try.func38 (by kernel_rfl) (by kernel_rfl) (by kernel_rfl) (e := Extern.SlicesOverlaps.overlaps #[28, 28] #[4]) (by kernel_rfl),
      run_overlaps_own w 28 4 34 Try.underlying28 13 Try.sizeOf34 ⟨vb, voff, none⟩ ⟨b, (i + 1) * 13, none⟩ 1 vc lb cb hvb tA tB kA kB hsa hsb hkA (hfb _) (hfb _)]
    rfl
  have hdl : (cs.drop (i * 13)).length = (n - i) * 13 := by rw [List.length_drop, hcl]; omega
  have hw1 : IntKind.i64.wrap ((i : Int) + 1) = (i : Int) + 1 := by rw [IntKind.wrap_i64]; omega
  have hw2 : IntKind.i64.wrap ((n : Int) + 1) = (n : Int) + 1 := by rw [IntKind.wrap_i64]; omega
  have hb1 : (0 : Int) ≤ (i : Int) + 1 := by omega
  have hin : i ≤ n := by omega
  have htn : ((i : Int) + 1).toNat = i + 1 := by omega
  have htm : ((n : Int) + 1).toNat = n + 1 := by omega
  have hb2 : ¬ (c = i + 1) := by omega
  have hb3 : (i : Int) ≤ (n : Int) + 1 := by omega
  have hb4 : ¬ (c = i) := by omega
  have hb5 : ¬ ((n : Int) + 1 > (c : Int)) := by omega
  have hcp1 : ∀ ty dc sc, (Builtin.copy_ #[28, 28] ty #[.slice (some ⟨b, (i + 1) * 13, none⟩) (n - i) dc, .slice (some ⟨b, i * 13, none⟩) (n + 1 - i) sc]).run Try.prog w.drew = .ok (goInt (Nat.min (n + 1 - i) (n - i))) (w.drew.setCells b ((i + 1) * 13) (cs.drop (i * 13))) := fun ty dc sc =>
    run_copy_n w.drew _ _ ty 34 13 b ((i + 1) * 13) (n - i) dc ⟨b, i * 13, none⟩ (n + 1 - i) sc (cs.drop (i * 13)) Try.underlying28 hsz (by rw [hdl]; simp only [Nat.min_def]; split <;> omega)
      (fun j v hj => by rw [Addr.add_lit]; exact hcs (i * 13 + j) v (by rwa [List.getElem?_drop] at hj))
      (fun j hj => hsp _ (by omega)) (fun j hj => hfz _ (by omega)) (fun v hv => h1c v (List.mem_of_mem_drop hv))
  obtain ⟨W1, hW1⟩ : ∃ W1, W1 = w.drew.setCells b ((i + 1) * 13) (cs.drop (i * 13)) := ⟨_, rfl⟩
  have hsp1 : ∀ k, k < (n + 1) * 13 → (W1.cell? ⟨b, k, none⟩).isSome = true := fun k hk => by
    rw [hW1]
    exact isSome_setCells b (cs.drop (i * 13)) ((i + 1) * 13) w.drew (fun j hj => hsp _ (by omega)) _ (hsp k hk)
  have hcp2 : ∀ (W : World), (∀ x, W.cell? x = W1.cell? x) → (∀ x, W.frozen? x = W1.frozen? x) → ∀ ty dc, (Builtin.copy_ #[28, 28] ty #[.slice (some ⟨b, i * 13, none⟩) (n + 1 - i) dc, .slice (some ⟨vb, voff, none⟩) 1 vc]).run Try.prog W = .ok (goInt (Nat.min 1 (n + 1 - i))) (W.setCells b (i * 13) vs) := fun W hWc hWf ty dc =>
    run_copy_n W _ _ ty 34 13 b (i * 13) (n + 1 - i) dc ⟨vb, voff, none⟩ 1 vc vs Try.underlying28 hsz (by rw [hvl]; simp only [Nat.min_def]; split <;> omega)
      (fun j v hj => by
        rw [Addr.add_lit, hWc, hW1, World.cell?_setCells_out b _ _ _ _ (fun h _ => absurd h hvb)]
        exact hvs j v hj)
      (fun j hj => by rw [hWc]; exact hsp1 _ (by omega)) (fun j hj => by rw [hWf, hW1, World.frozen?_setCells]; exact hfz _ (by omega)) h1v
  rw [← hW1] at hcp1
  go_enter Try.func24, Try.ntmps24
  go_wp2_with (simp only [hov])
  go_region_law_o (refine step_copy_runN rfl _ _ 28 28 rfl _ _ (by simp [Act.eval, Act.put]) (by simp [Act.eval, Act.put]) (hcp1 _ _ _) ?_)
  go_wp2_with (at_builtin; refine wpList_copy_runN _ rfl _ _ 28 28 rfl _ _ rfl rfl (hcp2 _ (fun _ => rfl) (fun _ => rfl) _ _) ?_)
  go_ret
  first | exact ⟨rfl, rfl⟩ | exact ⟨rfl, by rw [hW1]⟩
abbrev zval_dat : Value := Value.agg #[Value.int IntKind.i64 0, Value.int IntKind.i64 0, Value.string ⟨#[]⟩, Value.slice none 0 0, Value.slice none 0 0, Value.string ⟨#[]⟩, Value.int IntKind.i64 0, Value.int IntKind.i64 0, Value.bool false, Value.slice none 0 0, Value.int IntKind.i64 0, Value.string ⟨#[]⟩, Value.string ⟨#[]⟩]
abbrev grown_dat (w : World) (cs : List Value) (n i G : Nat) : Array Value := (cs.take (i * 13)).toArray ++ Builtin.zeroCells zval_dat.cells (n + 1 - i) ++ Builtin.zeroCells zval_dat.cells (G - (n + 1))
theorem insGrow_dat (b n i vb voff vc : Nat) (cs vs : List Value) (w : World) (hi : i < n) (hbig : (2 * (n + 1) + 192) * 184 ≤ 281474976710656)
    (hcl : cs.length = n * 13) (hvl : vs.length = 13)
    (hcs : ∀ j v, cs[j]? = some v → w.cell? ⟨b, j, none⟩ = some v)
    (hvs : ∀ j v, vs[j]? = some v → w.cell? ⟨vb, voff + j, none⟩ = some v) (h1c : ∀ v ∈ cs, v.oneCell' = true) (h1v : ∀ v ∈ vs, v.oneCell' = true) :
    Calls Try.prog 24 #[.slice (some ⟨b, 0, none⟩) n n, .int .i64 i, .slice (some ⟨vb, voff, none⟩) 1 vc] w fun e w' =>
      e = .returned (.slice (some ⟨w.heap.size, 0, none⟩) (n + 1) (grownCap w (n + 1) n 34)) ∧
      w' = (((w.alloc (.cells (grown_dat w cs n i (grownCap w (n + 1) n 34)) 34)).drew.setCells w.heap.size (i * 13) vs).drew).setCells w.heap.size ((i + 1) * 13) (cs.drop (i * 13)) := by
  have mixed := mixed; have t0 := Try.underlying0; have z0 := Try.sizeOf0; have t3 := Try.underlying3; have t4 := Try.underlying4; have tE := Try.underlying34; have tS := Try.underlying28
  have a3 := Try.isAgg3; have a4 := Try.isAgg4; have aE := Try.isAgg34; have aS := Try.isAgg28
  have z3 := Try.sizeOf3; have z4 := Try.sizeOf4; have zE := Try.sizeOf34; have zS := Try.sizeOf28
  have v3 := Try.zeroValue3; have v4 := Try.zeroValue4; have vE := Try.zeroValue34; have vS := Try.zeroValue28
  have u3 := run_underlying Try.underlying3; have u4 := run_underlying Try.underlying4; have uS := run_underlying Try.underlying28
  obtain ⟨i0, hi0, hz0, hzs, hzb⟩ : ∃ i0, Try.prog.info? 34 = some i0 ∧ i0.zero = some zval_dat ∧ i0.size = 13 ∧ i0.bytes = 184 := ⟨Try.t34, by kernel_rfl, by kernel_rfl, by kernel_rfl, by kernel_rfl⟩
  have hz2 : ¬ ((i : Int) = (n : Int)) := by omega
  have hz3 : (n : Int) < (n : Int) + 1 := by omega
  have hsz : (Try.prog.info? 34).map (·.size) = some 13 := by rw [hi0]; simp [hzs]
  have hbw : b < w.heap.size := block_lt_of_cell (hcs 0 _ (List.getElem?_eq_getElem (by omega)))
  have hvw : vb < w.heap.size := block_lt_of_cell (hvs 0 _ (List.getElem?_eq_getElem (by omega)))
  have hkk : (n : Int) + 1 - (i : Int) = ((n + 1 - i : Nat) : Int) := by omega
  have hik : i + (n + 1 - i) = n + 1 := by omega
  have hold : (Builtin.firstCells i0.size i (.slice (some ⟨b, 0, none⟩) i n)).run Try.prog w.drew = .ok (cs.take (i * 13)).toArray w.drew := by
    rw [hzs]
    exact run_firstCells_some w.drew 13 i ⟨b, 0, none⟩ i n (cs.take (i * 13)) (by rw [List.length_take]; omega) (fun j v hj => by
      rw [Addr.add_lit, Nat.zero_add]
      rw [List.getElem?_take] at hj
      split at hj
      · exact hcs j v hj
      · cases hj)
  have hfit : Builtin.nextslicecap (n + 1) n * 184 ≤ 281474976710656 := by
    have := Nat.mul_le_mul_right 184 (Sx.nextcap_le (need := n + 1) (cap := n) (by omega))
    omega
  have hrz : ∀ ty, (Builtin.append_ #[28, 3] ty #[.slice (some ⟨b, 0, none⟩) i n, .int .i64 ((n : Int) + 1 - (i : Int))]).run Try.prog w =
      .ok (.slice (some ⟨w.heap.size, 0, none⟩) (n + 1) (grownCap w (n + 1) n 34)) (w.drew.alloc (.cells (grown_dat w cs n i (grownCap w (n + 1) n 34)) 34)) := fun ty => by
    have h := Lib.run_append_grow_zeros w 28 3 ty 34 i0 _ .i64 .i64 Try.underlying28 Try.underlying3 hi0 hz0 (some ⟨b, 0, none⟩) i n (cs.take (i * 13)) hold (n + 1 - i) (by omega) (by omega) (by omega) (by omega) (by rw [hzb]; omega) (by rw [hzb, hik]; exact hfit)
    rw [hik] at h
    rw [hkk]
    exact h
  have hGn : n + 1 ≤ grownCap w (n + 1) n 34 := grownCap_ge w _ _ _
  have hG63 : grownCap w (n + 1) n 34 ≤ 9223372036854775807 := by
    have := grownCap_le_maxLen w (n + 1) n 34 (by unfold maxLen; omega)
    unfold maxLen at this
    omega
  obtain ⟨G, hG⟩ : ∃ G, G = grownCap w (n + 1) n 34 := ⟨_, rfl⟩
  rw [← hG] at hrz hGn hG63 ⊢
  obtain ⟨ROW, hROW⟩ : ∃ ROW : Array Value, ROW = grown_dat w cs n i G := ⟨_, rfl⟩
  rw [← hROW] at hrz ⊢
  have hRl : (n + 1) * 13 ≤ ROW.size := by
    rw [hROW]
    simp [Builtin.zeroCells, Value.cells]
    omega
  obtain ⟨W1, hW1⟩ : ∃ W1, W1 = w.drew.alloc (.cells ROW 34) := ⟨_, rfl⟩
  rw [← hW1] at hrz
  have hN : ∀ j, j < (n + 1) * 13 → (W1.cell? ⟨w.heap.size, j, none⟩).isSome = true := fun j hj => by
    rw [hW1, World.cell?_alloc_at (w := w.drew) ROW _ w.heap.size j rfl, Array.getElem?_eq_getElem (by omega)]; rfl
  have hNf : ∀ j, W1.frozen? ⟨w.heap.size, j, none⟩ = false := fun j => by rw [hW1]; exact World.frozen?_alloc_at (w := w.drew) ROW _ w.heap.size j rfl
  have hOb : ∀ j v, w.cell? ⟨b, j, none⟩ = some v → W1.cell? ⟨b, j, none⟩ = some v := fun j v h => by rw [hW1, World.cell?_alloc_past (w := w.drew) _ b j hbw]; exact h
  have hOv : ∀ j v, w.cell? ⟨vb, j, none⟩ = some v → W1.cell? ⟨vb, j, none⟩ = some v := fun j v h => by rw [hW1, World.cell?_alloc_past (w := w.drew) _ vb j hvw]; exact h
  have hcpA : ∀ (W : World), (∀ x, W.cell? x = W1.cell? x) → (∀ x, W.frozen? x = W1.frozen? x) → ∀ ty dc, (Builtin.copy_ #[28, 28] ty #[.slice (some ⟨w.heap.size, i * 13, none⟩) (n + 1 - i) dc, .slice (some ⟨vb, voff, none⟩) 1 vc]).run Try.prog W = .ok (goInt (Nat.min 1 (n + 1 - i))) (W.setCells w.heap.size (i * 13) vs) := fun W hWc hWf ty dc =>
    run_copy_n W _ _ ty 34 13 w.heap.size (i * 13) (n + 1 - i) dc ⟨vb, voff, none⟩ 1 vc vs Try.underlying28 hsz (by rw [hvl]; simp only [Nat.min_def]; split <;> omega)
      (fun j v hj => by rw [Addr.add_lit, hWc]; exact hOv _ v (hvs j v hj))
      (fun j hj => by rw [hWc]; exact hN _ (by omega)) (fun j hj => by rw [hWf]; exact hNf _) h1v
  have hGi : ¬ (G = i) := by omega
  have hGim : ¬ (G = i + 1) := by omega
  have hci : ¬ (n = i) := by omega
  have hbN : b ≠ w.heap.size := by omega
  have hdl : (cs.drop (i * 13)).length = (n - i) * 13 := by rw [List.length_drop, hcl]; omega
  have hcpB : ∀ (W : World), (∀ x, W.cell? x = (W1.setCells w.heap.size (i * 13) vs).cell? x) → (∀ x, W.frozen? x = (W1.setCells w.heap.size (i * 13) vs).frozen? x) → ∀ ty dc sc, (Builtin.copy_ #[28, 28] ty #[.slice (some ⟨w.heap.size, (i + 1) * 13, none⟩) (n - i) dc, .slice (some ⟨b, i * 13, none⟩) (n - i) sc]).run Try.prog W = .ok (goInt (Nat.min (n - i) (n - i))) (W.setCells w.heap.size ((i + 1) * 13) (cs.drop (i * 13))) := fun W hWc hWf ty dc sc =>
    run_copy_n W _ _ ty 34 13 w.heap.size ((i + 1) * 13) (n - i) dc ⟨b, i * 13, none⟩ (n - i) sc (cs.drop (i * 13)) Try.underlying28 hsz (by rw [hdl]; simp only [Nat.min_def]; split <;> omega)
      (fun j v hj => by
        rw [Addr.add_lit, hWc, World.cell?_setCells_out _ _ _ _ _ (fun h _ => absurd h hbN)]
        exact hOb _ v (hcs (i * 13 + j) v (by rwa [List.getElem?_drop] at hj)))
      (fun j hj => by rw [hWc]; exact isSome_setCells w.heap.size vs (i * 13) W1 (fun t ht => hN _ (by omega)) _ (hN _ (by omega)))
      (fun j hj => by rw [hWf, World.frozen?_setCells]; exact hNf _) (fun v hv => h1c v (List.mem_of_mem_drop hv))
  subst hW1
  have hE1 : ∀ x, ((w.alloc (.cells ROW 34)).drew).cell? x = (w.drew.alloc (.cells ROW 34)).cell? x := fun x => rfl
  have hE2 : ∀ x, ((w.alloc (.cells ROW 34)).drew).frozen? x = (w.drew.alloc (.cells ROW 34)).frozen? x := fun x => rfl
  have hF1 : ∀ x, (((w.alloc (.cells ROW 34)).drew.setCells w.heap.size (i * 13) vs).drew).cell? x = ((w.drew.alloc (.cells ROW 34)).setCells w.heap.size (i * 13) vs).cell? x := fun x => rfl
  have hF2 : ∀ x, (((w.alloc (.cells ROW 34)).drew.setCells w.heap.size (i * 13) vs).drew).frozen? x = ((w.drew.alloc (.cells ROW 34)).setCells w.heap.size (i * 13) vs).frozen? x := fun x => rfl
  have hw1 : IntKind.i64.wrap ((i : Int) + 1) = (i : Int) + 1 := by rw [IntKind.wrap_i64]; omega
  have hw2 : IntKind.i64.wrap ((n : Int) + 1) = (n : Int) + 1 := by rw [IntKind.wrap_i64]; omega
  have hw3 : IntKind.i64.wrap ((n : Int) + 1 - (i : Int)) = (n : Int) + 1 - (i : Int) := by rw [IntKind.wrap_i64]; omega
  have hb1 : (0 : Int) ≤ (i : Int) + 1 := by omega
  have hin : i ≤ n := by omega
  have htn : ((i : Int) + 1).toNat = i + 1 := by omega
  have hb3 : (i : Int) ≤ (n : Int) := by omega
  clear hkk hik hold hROW hG hRl
  go_enter Try.func24, Try.ntmps24
  go_wp2_with (first
    | (at_builtin; refine Lib.wpList_append_run _ rfl _ _ _ _ rfl _ _ rfl rfl _ _ (hrz _) ?_)
    | (at_builtin; refine wpList_copy_runN _ rfl _ _ 28 28 rfl _ _ rfl rfl (hcpA _ hE1 hE2 _ _) ?_)
    | (at_builtin; refine wpList_copy_runN _ rfl _ _ 28 28 rfl _ _ rfl rfl (hcpB _ (fun _ => rfl) (fun _ => rfl) _ _ _) ?_))
  go_region_law_o (refine step_copy_runN rfl _ _ 28 28 rfl (.slice (some ⟨w.heap.size, (i + 1) * 13, none⟩) (n - i) (G - (i + 1))) (.slice (some ⟨b, i * 13, none⟩) (n - i) (n - i)) (by simp [Act.eval, Act.put]) (by simp [Act.eval, Act.put]) (hcpB _ hF1 hF2 3 (G - (i + 1)) (n - i)) ?_)
  go_wp2
  go_ret
  exact ⟨rfl, rfl⟩
theorem insEnd_dat (base : Option Addr) (n c : Nat) (b vb voff vc : Nat) (V : Value) (w W' : World) (hb : base = some ⟨b, 0, none⟩ ∨ (base = none ∧ n = 0 ∧ c = 0)) (hnc : n ≤ c) (hc63 : c ≤ 9223372036854775807)
    (hap : ∀ ty, (Builtin.append_ #[28, 28] ty #[.slice base n c, .slice (some ⟨vb, voff, none⟩) 1 vc]).run Try.prog w = .ok V W') :
    Calls Try.prog 24 #[.slice base n c, .int .i64 n, .slice (some ⟨vb, voff, none⟩) 1 vc] w fun e w' => e = .returned V ∧ w' = W' := by
  have mixed := mixed; have t0 := Try.underlying0; have z0 := Try.sizeOf0; have t3 := Try.underlying3; have t4 := Try.underlying4; have tE := Try.underlying34; have tS := Try.underlying28
  have a3 := Try.isAgg3; have a4 := Try.isAgg4; have aE := Try.isAgg34; have aS := Try.isAgg28
  have z3 := Try.sizeOf3; have z4 := Try.sizeOf4; have zE := Try.sizeOf34; have zS := Try.sizeOf28
  have v3 := Try.zeroValue3; have v4 := Try.zeroValue4; have vE := Try.zeroValue34; have vS := Try.zeroValue28
  have u3 := run_underlying Try.underlying3; have u4 := run_underlying Try.underlying4; have uS := run_underlying Try.underlying28
  have hb0 : (0 : Int) ≤ (n : Int) := by omega
  rcases hb with rfl | ⟨rfl, rfl, rfl⟩
  · by_cases hcn : c = n
    · go_enter Try.func24, Try.ntmps24
      go_wp2_with (at_builtin; refine Lib.wpList_append_run _ rfl _ _ _ _ rfl _ _ rfl rfl _ _ (hap _) ?_)
      go_ret
      exact ⟨rfl, rfl⟩
    · go_enter Try.func24, Try.ntmps24
      go_wp2_with (at_builtin; refine Lib.wpList_append_run _ rfl _ _ _ _ rfl _ _ rfl rfl _ _ (hap _) ?_)
      go_ret
      exact ⟨rfl, rfl⟩
  · go_enter Try.func24, Try.ntmps24
    go_wp2_with (at_builtin; refine Lib.wpList_append_run _ rfl _ _ _ _ rfl _ _ rfl rfl _ _ (hap _) ?_)
    go_ret
    exact ⟨rfl, rfl⟩
theorem ins_dat (rows : List (List Sx.C)) (x : List Sx.C) (i : Nat) (hx : x.length = 13) (hi : i ≤ rows.length) (hroom : (2 * (rows.length + 1) + 192) * 184 ≤ 281474976710656) :
    Sx.PCX Try.prog 24 [.one (.own 0 rows.length), Sx.I .i64 i, .one (.dat (.sl 13 [x]))] [(0, .row 13 rows)] (.one (.own 1 (rows.length + 1))) [(1, .row 13 (rows.take i ++ x :: rows.drop i))] :=
  Sx.PCX.ins (z := zval_dat) (bt := 184) (TS := 28) (et := 34) ⟨_, Try.func24, by decide, rfl⟩ (by decide) bs28 by28 (by decide) ni28 (by rfl) insShift_dat insGrow_dat insEnd_dat rows x i hx hi hroom
end Go.Proofs.Ythpndlinlhapgaa
set_option linter.unusedSimpArgs false
set_option linter.unusedVariables false
set_option maxRecDepth 20000
set_option maxHeartbeats 16000000
namespace Go.Proofs.Ythpndlinlhapgaa
open Go Go.Sx
open Bool renaming not_eq_true' → zM, not_eq_false' → zN
def sameK (x y : KeyD) : Bool := decide (x.kind = y.kind) && (decide (x.text = y.text) && true)
@[go_sem] theorem eqKeyE (x y : KeyD) : eqStT Try.prog 6 24 (encKey x) (encKey y) = some (sameK x y) := by kernel_rfl
theorem sameK_comm (x y : KeyD) : sameK x y = sameK y x := by unfold sameK; rw [show decide (x.kind = y.kind) = decide (y.kind = x.kind) by simp [eq_comm], show decide (x.text = y.text) = decide (y.text = x.text) by simp [eq_comm]]
end Go.Proofs.Ythpndlinlhapgaa
