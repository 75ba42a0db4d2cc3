/- A part of the proof: lemmas about the walk of the program and about plain integers and lists. No conditions beyond those that each lemma states. -/
import Derived.Test.YthpndlinlhapgaaDq9
import Derived.Test.YthpndlinlhapgaaDq8
import Derived.Test.YthpndlinlhapgaaDq7
import Derived.Test.YthpndlinlhapgaaDq6
set_option linter.unusedSimpArgs false
set_option linter.unusedVariables false
set_option maxRecDepth 20000
set_option maxHeartbeats 16000000
namespace Go.Proofs.Ythpndlinlhapgaa
open Go Go.Sx
open Bool renaming not_eq_true' → zM, not_eq_false' → zN
/-- the map with a datum at a key, as the program makes it -/
def putD (m : Dat) (k : KeyD) (d : Dat) : Dat := bif fndK m.keys k then { m with kids := m.kids.set (posK m.keys k) d } else { m with keys := m.keys.take (posK m.keys k) ++ k :: m.keys.drop (posK m.keys k), kids := m.kids.take (posK m.keys k) ++ d :: m.kids.drop (posK m.keys k) }
theorem dPut_c (m : Dat) (k : KeyD) (d : Dat) (hm : DCl m) (hd : DCl d) (hs : m.kind = 8 → SortK m.keys) (hl : m.keys.length = m.kids.length → m.kids.length ≤ 1000) :
    PC Try.prog 8 [Dt m, .st (encKey k), Dt d] (.tup [Dt (bif putBad m k then zeroDat else putD m k d), Bo (!putBad m k)]) := by
  have cv := identValidKey_c k
  cases hbad : putBad m k with
  | true =>
    cases h8 : decide (m.kind = 8) <;> cases hv : validKeyB k <;> cases hle : decide ((m.keys.length : Int) = (m.kids.length : Int))
    all_goals first
      | (exfalso; simp only [putBad, h8, hv, hle, Bool.not_true, Bool.or_false] at hbad; exact Bool.false_ne_true hbad)
      | skip
    all_goals rw [hv] at cv
    all_goals
      refine PCB.ob Try.func8 Try.ntmps8 Try.results8 ?_
      repeat' (first | (simp only [go_sem, encDat_eq m, List.length_map, h8, hv, hle]; all_goals refine nf ?_) | (refine stp ?_; intro K hK) | (apply hK; clear hK K) | refine stn ?_ | (refine AWP.cnd ?_ ?_ <;> intro h <;> (try simp only [zM, zN] at h)) | (refine ⟨fun h => ?_, fun h => ?_⟩ <;> (try simp only [zM, zN] at h) <;> try simp only [h]) | (with_reducible refine ⟨_, cv, ?_⟩) | (with_reducible refine AWP.segP (id := 6) 6 mixed (by kernel_rfl) fun K hK => ?_; simp only [List.take_succ_cons, List.take_zero, List.drop_succ_cons, List.drop_zero]) | (with_reducible refine AWP.segP (id := 7) 14 mixed (by kernel_rfl) fun K hK => ?_; simp only [List.take_succ_cons, List.take_zero, List.drop_succ_cons, List.drop_zero]) | (refine stp' ?_; intro K hK) | refine stq ?_ | (clear hK K))
      all_goals exact ⟨rfl, fun _ h => absurd h List.not_mem_nil⟩
  | false =>
    simp only [putBad, Bool.or_eq_false_iff, Bool.not_eq_false'] at hbad
    obtain ⟨h8, hv, hle⟩ := hbad
    rw [hv] at cv
    have hlk : m.keys.length = m.kids.length := by have := of_decide_eq_true hle; omega
    have hs := hs (of_decide_eq_true h8)
    have hcl := (cloneDat_x m hm).ren id 1000 (args1 := [.st (encDat m)]) (B1 := []) (r1 := ownDat 1005 1008 m) (B1' := [(1008, .row 2 (m.keys.map encKey)), (1005, .row 13 (m.kids.map encDat))]) rfl rfl rfl rfl rfl
    rw [encDat_eq m] at hcl
    have hbs := PCBk.mk 1008 (bsearch_b m.keys k (by have := hm.keys; omega) hs)
    have hcd := cloneDat_c d hd
    have hpl := posK_le m.keys k
    cases hf : fndK m.keys k with
    | true =>
      rw [hf] at hbs
      have hlt : posK m.keys k < m.keys.length := by
        unfold fndK at hf
        cases hx : m.keys[posK m.keys k]? with
        | none => rw [hx] at hf; cases hf
        | some x => exact (List.getElem?_eq_some_iff.1 hx).1
      obtain ⟨y, hy, hy', _, _⟩ := at_lt (enc := encDat) (show posK m.keys k < m.kids.length by omega)
      refine PCB.ob Try.func8 Try.ntmps8 Try.results8 ?_
      refine AWP.ghQ ?_
      repeat' (first | (simp only [go_sem, encDat_eq m, encDat_eq y, List.length_map, h8, hv, hle]; all_goals refine nf ?_) | (refine stp ?_; intro K hK) | (apply hK; clear hK K) | refine stn ?_ | (refine AWP.cnd ?_ ?_ <;> intro h <;> (try simp only [zM, zN] at h)) | (refine ⟨fun h => ?_, fun h => ?_⟩ <;> (try simp only [zM, zN] at h) <;> try simp only [h]) | (with_reducible first | refine ⟨_, cv, ?_⟩ | refine ⟨_, hcd, ?_⟩ | refine ⟨by omega, ?_⟩ | refine ⟨encDat y, hy', ?_⟩) | (refine Or.inr (Or.inr (vCallX.mk hcl (by repeat (first | exact trivial | refine And.intro rfl ?_)) (by rfl) (by first | rfl | (simp only [newNames, List.all_cons, List.all_nil, go_sem, encDat_eq m, encDat_eq y, List.length_map, h8, hv, hle] <;> rfl)) (by rfl) (by rfl) ?_))) | (apply Or.inr; refine ⟨1008, _, _, _, hbs, rfl, ?_⟩; simp only [go_sem]) | (with_reducible refine AWP.segP (id := 6) 6 mixed (by kernel_rfl) fun K hK => ?_; simp only [List.take_succ_cons, List.take_zero, List.drop_succ_cons, List.drop_zero]) | (with_reducible refine AWP.segP (id := 7) 14 mixed (by kernel_rfl) fun K hK => ?_; simp only [List.take_succ_cons, List.take_zero, List.drop_succ_cons, List.drop_zero]) | (refine stp' ?_; intro K hK) | refine stq ?_ | (clear hK K))
      refine GhQ.step (Gh.freeze 1005 rfl rfl (by simp only [go_sem, List.length_map, List.length_set, setRowAt]) (by simp only [go_sem, List.length_map, List.length_set, setRowAt])) ?_
      simp only [go_sem, List.length_map, List.length_set, setRowAt]
      refine ⟨_, Gh.fz 1008, ?_⟩
      simp only [go_sem, List.length_map]
      all_goals (first | exact fun _ h => absurd h List.not_mem_nil | refine fin0 ?_)
      all_goals (simp only [putD, hf, Bool.not_false, cond_true, cond_false, Dt, encDat_eq, setRowAt, List.map_set]; try rfl)
    | false =>
      rw [hf] at hbs
      have hik := (ins_key (m.keys.map encKey) (encKey k) (posK m.keys k) rfl (by rw [List.length_map]; exact hpl) (by have := hl hlk; rw [List.length_map]; omega)).ren (fun _ => 1008) 49 (args1 := [.one (.own 1008 m.keys.length), .one (.dat (.int .i64 (posK m.keys k))), .one (.dat (.sl 2 [encKey k]))]) (B1 := [(1008, .row 2 (m.keys.map encKey))])
        (r1 := .one (.own 50 (m.keys.length + 1))) (B1' := [(50, .row 2 ((m.keys.map encKey).take (posK m.keys k) ++ encKey k :: (m.keys.map encKey).drop (posK m.keys k)))]) rfl (by rw [List.length_map]; rfl) rfl (by rw [List.length_map]; rfl) rfl
      have hid := (ins_dat (m.kids.map encDat) (encDat d) (posK m.keys k) (by rw [encDat_eq]; rfl) (by rw [List.length_map]; omega) (by have := hl hlk; rw [List.length_map]; omega)).ren (fun _ => 1005) 56 (args1 := [.one (.own 1005 m.kids.length), .one (.dat (.int .i64 (posK m.keys k))), .one (.dat (.sl 13 [encDat d]))]) (B1 := [(1005, .row 13 (m.kids.map encDat))])
        (r1 := .one (.own 57 (m.kids.length + 1))) (B1' := [(57, .row 13 ((m.kids.map encDat).take (posK m.keys k) ++ encDat d :: (m.kids.map encDat).drop (posK m.keys k)))]) rfl (by rw [List.length_map]; rfl) rfl (by rw [List.length_map]; rfl) rfl
      obtain ⟨RK, hRK⟩ : ∃ RK, RK = (m.keys.map encKey).take (posK m.keys k) ++ encKey k :: (m.keys.map encKey).drop (posK m.keys k) := ⟨_, rfl⟩
      obtain ⟨RD, hRD⟩ : ∃ RD, RD = (m.kids.map encDat).take (posK m.keys k) ++ encDat d :: (m.kids.map encDat).drop (posK m.keys k) := ⟨_, rfl⟩
      have lK : RK.length = m.keys.length + 1 := by rw [hRK]; simp; omega
      have lD : RD.length = m.kids.length + 1 := by rw [hRD]; simp; omega
      have eK : RK = (m.keys.take (posK m.keys k) ++ k :: m.keys.drop (posK m.keys k)).map encKey := by rw [hRK]; simp
      have eD : RD = (m.kids.take (posK m.keys k) ++ d :: m.kids.drop (posK m.keys k)).map encDat := by rw [hRD]; simp
      rw [← hRK] at hik
      rw [← hRD] at hid
      refine PCB.ob Try.func8 Try.ntmps8 Try.results8 ?_
      refine AWP.ghQ ?_
      repeat' (first | (simp only [go_sem, encDat_eq m, List.length_map, h8, hv, hle]; all_goals refine nf ?_) | (refine stp ?_; intro K hK) | (apply hK; clear hK K) | refine stn ?_ | (refine AWP.cnd ?_ ?_ <;> intro h <;> (try simp only [zM, zN] at h)) | (refine ⟨fun h => ?_, fun h => ?_⟩ <;> (try simp only [zM, zN] at h) <;> try simp only [h]) | (with_reducible first | refine ⟨_, cv, ?_⟩ | refine ⟨_, hcd, ?_⟩) | (refine Or.inr (Or.inr (vCallX.mk hcl (by repeat (first | exact trivial | refine And.intro rfl ?_)) (by rfl) (by first | rfl | (simp only [newNames, List.all_cons, List.all_nil, go_sem, encDat_eq m, List.length_map, h8, hv, hle] <;> rfl)) (by rfl) (by rfl) ?_))) | (apply Or.inr; refine ⟨1008, _, _, _, hbs, rfl, ?_⟩; simp only [go_sem]) | ( refine vCallI.mk hik (by rfl) (by first | rfl | (simp only [newNames, List.all_cons, List.all_nil, go_sem] <;> rfl)) (by rfl) (by rfl) ?_) | ( refine vCallI.mk hid (by rfl) (by first | rfl | (simp only [newNames, List.all_cons, List.all_nil, go_sem] <;> rfl)) (by rfl) (by rfl) ?_) | (with_reducible refine AWP.genL (id := 7) [5,12,14,16] [5,12] [8,1008,1005] [1,7] 14 [1008,1005] mixed (by kernel_rfl) fun K hK => ?_; simp only [Bx.outs, Bx.drop, cond_true, cond_false, Nat.reduceBEq, go_sem]) | (with_reducible refine AWP.segP (id := 6) 6 mixed (by kernel_rfl) fun K hK => ?_; simp only [List.take_succ_cons, List.take_zero, List.drop_succ_cons, List.drop_zero]) | (with_reducible refine AWP.segP (id := 7) 14 mixed (by kernel_rfl) fun K hK => ?_; simp only [List.take_succ_cons, List.take_zero, List.drop_succ_cons, List.drop_zero]) | (refine stp' ?_; intro K hK) | refine stq ?_ | (clear hK K))
      refine GhQ.step (Gh.freeze 57 rfl rfl (by simp only [go_sem, List.length_map, lD]) (by simp only [go_sem, List.length_map, lD])) ?_
      simp only [go_sem, List.length_map, lD]
      refine ⟨_, Gh.freeze 50 rfl rfl (by simp only [go_sem, List.length_map, lK]) (by simp only [go_sem, List.length_map, lK]), ?_⟩
      simp only [go_sem, List.length_map, lK]
      all_goals (first | exact fun _ h => absurd h List.not_mem_nil | refine fin0 ?_)
      all_goals (simp only [putD, hf, Bool.not_false, cond_true, cond_false, Dt, encDat_eq, eK, eD]; try rfl)
theorem indexKey_c (l : List KeyD) (s : KeyD) : PC Try.prog 18 [.one (.dat (.sl 2 (l.map encKey))), .st (encKey s)] (I .i64 (findI (fun x => sameK s x) 0 l)) := by
  refine PCB.ob Try.func18 Try.ntmps18 Try.results18 ?_
  repeat' (first | (simp only [go_sem, List.length_map]; all_goals refine nf ?_) | (refine stp ?_; intro K hK) | (apply hK; clear hK K) | refine stn ?_ | (refine AWP.cnd ?_ ?_ <;> intro h <;> (try simp only [zM, zN] at h)) | (refine ⟨fun h => ?_, fun h => ?_⟩ <;> (try simp only [zM, zN] at h) <;> try simp only [h]) | (refine stp' ?_; intro K hK) | refine stq ?_ | (clear hK K))
  refine AWP.len 0 rfl fun hlen0 => ?_
  (try rw [List.length_map] at hlen0)
  refine AWP.range (S := Unit) (l) encKey (fun k s => (8, I .i64 (k : Nat)) :: []) (fun k s => []) [0, 3, 7] [3] (fun k u => findI (fun x => sameK s x) 0 l = findI (fun x => sameK s x) k (l.drop k)) (()) (by refine sts ?_; exact Gh.tt []) ?_ ?_ ?_
  · rfl
  · intro k u x hlt hx hx' hb hok
    refine sts ?_
    rw [findI_drop _ l k x hx] at hok
    cases hz : sameK s x <;> simp only [hz, cond_true, cond_false] at hok
    ·
      repeat' (first | (simp only [go_sem, List.length_map, hb, hz]; all_goals refine nf ?_) | (refine stp ?_; intro K hK) | (apply hK; clear hK K) | refine stn ?_ | (refine AWP.cnd ?_ ?_ <;> intro h <;> (try simp only [zM, zN] at h)) | (refine ⟨fun h => ?_, fun h => ?_⟩ <;> (try simp only [zM, zN] at h) <;> try simp only [h]) | (with_reducible refine ⟨by omega, encKey x, hx', ?_⟩) | (refine stp' ?_; intro K hK) | refine stq ?_ | (clear hK K))
      all_goals (rw [wrap_succ hlt hlen0])
      all_goals (refine ⟨(), ?_, Gh.tt []⟩)
      all_goals exact hok
    ·
      repeat' (first | (simp only [go_sem, List.length_map, hb, hz]; all_goals refine nf ?_) | (refine stp ?_; intro K hK) | (apply hK; clear hK K) | refine stn ?_ | (refine AWP.cnd ?_ ?_ <;> intro h <;> (try simp only [zM, zN] at h)) | (refine ⟨fun h => ?_, fun h => ?_⟩ <;> (try simp only [zM, zN] at h) <;> try simp only [h]) | (with_reducible refine ⟨by omega, encKey x, hx', ?_⟩) | (refine stp' ?_; intro K hK) | refine stq ?_ | (clear hK K))
      all_goals (first | exact lf | (refine fin0 ?_; simp only [hok, zb, cond_true, cond_false, decide_true, decide_false] <;> rfl))
  intro s0 hb0 hok0
  refine sts ?_
  rw [List.drop_length] at hok0
  repeat' (first | (simp only [go_sem, List.length_map, hb0]; all_goals refine nf ?_) | (refine stp ?_; intro K hK) | (apply hK; clear hK K) | refine stn ?_ | (refine AWP.cnd ?_ ?_ <;> intro h <;> (try simp only [zM, zN] at h)) | (refine ⟨fun h => ?_, fun h => ?_⟩ <;> (try simp only [zM, zN] at h) <;> try simp only [h]) | (refine stp' ?_; intro K hK) | refine stq ?_ | (clear hK K))
  all_goals (refine fin0 ?_; rw [hok0]; rfl)
abbrev gI (m : Dat) (k : KeyD) : Int := findI (fun x => sameK k x) 0 m.keys
def badG (m : Dat) (k : KeyD) : Bool := !decide (m.kind = 8) || (decide (gI m k < 0) || decide ((m.kids.length : Int) ≤ gI m k))
def getG (m : Dat) (k : KeyD) : Dat := bif badG m k then zeroDat else m.kids.getD (gI m k).toNat zeroDat
theorem dGet_c (m : Dat) (k : KeyD) (hm : DCl m) : PC Try.prog 6 [Dt m, .st (encKey k)] (.tup [Dt (getG m k), Bo (!badG m k)]) := by
  have ci := indexKey_c m.keys k
  unfold getG badG
  generalize hg : gI m k = g at *
  rw [show findI (fun x => sameK k x) 0 m.keys = g from hg] at ci
  cases h8 : decide (m.kind = 8)
  ·
    refine PCB.ob Try.func6 Try.ntmps6 Try.results6 ?_
    repeat' (first | (simp only [go_sem, encDat_eq m, List.length_map, h8]; all_goals refine nf ?_) | (refine stp ?_; intro K hK) | (apply hK; clear hK K) | refine stn ?_ | (refine AWP.cnd ?_ ?_ <;> intro h <;> (try simp only [zM, zN] at h)) | (refine ⟨fun h => ?_, fun h => ?_⟩ <;> (try simp only [zM, zN] at h) <;> try simp only [h]) | (with_reducible refine ⟨_, ci, ?_⟩) | refine stq ?_ | (clear hK K))
    all_goals exact ⟨rfl, fun _ h => absurd h List.not_mem_nil⟩
  cases h0 : decide (g < 0)
  ·
    cases h1 : decide ((m.kids.length : Int) ≤ g)
    ·
      have h0' := of_decide_eq_false h0
      have h1' := of_decide_eq_false h1
      obtain ⟨y, hy, hy', _, _⟩ := at_lt (enc := encDat) (show g.toNat < m.kids.length by omega)
      have hcd := cloneDat_c y (hm.kid y (List.mem_of_getElem? hy))
      refine PCB.ob Try.func6 Try.ntmps6 Try.results6 ?_
      repeat' (first | (simp only [go_sem, encDat_eq m, List.length_map, h8, h0, h1]; all_goals refine nf ?_) | (refine stp ?_; intro K hK) | (apply hK; clear hK K) | refine stn ?_ | (refine AWP.cnd ?_ ?_ <;> intro h <;> (try simp only [zM, zN] at h)) | (refine ⟨fun h => ?_, fun h => ?_⟩ <;> (try simp only [zM, zN] at h) <;> try simp only [h]) | (with_reducible first | refine ⟨_, ci, ?_⟩ | refine ⟨_, hcd, ?_⟩ | refine ⟨by omega, ?_⟩ | refine ⟨by omega, by omega, encDat y, hy', ?_⟩ | refine ⟨encDat y, hy', ?_⟩) | refine stq ?_ | (clear hK K))
      all_goals (refine ⟨?_, fun _ h => absurd h List.not_mem_nil⟩; rw [List.getD_eq_getElem?_getD, hy]; rfl)
    ·
      refine PCB.ob Try.func6 Try.ntmps6 Try.results6 ?_
      repeat' (first | (simp only [go_sem, encDat_eq m, List.length_map, h8, h0, h1]; all_goals refine nf ?_) | (refine stp ?_; intro K hK) | (apply hK; clear hK K) | refine stn ?_ | (refine AWP.cnd ?_ ?_ <;> intro h <;> (try simp only [zM, zN] at h)) | (refine ⟨fun h => ?_, fun h => ?_⟩ <;> (try simp only [zM, zN] at h) <;> try simp only [h]) | (with_reducible refine ⟨_, ci, ?_⟩) | refine stq ?_ | (clear hK K))
      all_goals exact ⟨rfl, fun _ h => absurd h List.not_mem_nil⟩
  ·
    refine PCB.ob Try.func6 Try.ntmps6 Try.results6 ?_
    repeat' (first | (simp only [go_sem, encDat_eq m, List.length_map, h8, h0]; all_goals refine nf ?_) | (refine stp ?_; intro K hK) | (apply hK; clear hK K) | refine stn ?_ | (refine AWP.cnd ?_ ?_ <;> intro h <;> (try simp only [zM, zN] at h)) | (refine ⟨fun h => ?_, fun h => ?_⟩ <;> (try simp only [zM, zN] at h) <;> try simp only [h]) | (with_reducible refine ⟨_, ci, ?_⟩) | refine stq ?_ | (clear hK K))
    all_goals exact ⟨rfl, fun _ h => absurd h List.not_mem_nil⟩
theorem dCons_c (a b : Dat) (ha : DCl a) (hb : DCl b) : PC Try.prog 11 [Dt a, Dt b] (.tup [Dt (bif !decide (b.kind = 5) && !decide (b.kind = 7) then zeroDat else consDat a b), Bo (!(!decide (b.kind = 5) && !decide (b.kind = 7)))]) := by
  have c1 := cloneDat_c a ha
  have c2 := cloneDat_c b hb
  rw [encDat_eq b] at c2
  cases h5 : decide (b.kind = 5) <;> cases h7 : decide (b.kind = 7)
  all_goals
    refine PCB.ob Try.func11 Try.ntmps11 Try.results11 ?_
    repeat' (first | (simp only [go_sem, encDat_eq b, List.length_map, h5, h7]; all_goals refine nf ?_) | (refine stp ?_; intro K hK) | (apply hK; clear hK K) | refine stn ?_ | (refine AWP.cnd ?_ ?_ <;> intro h <;> (try simp only [zM, zN] at h)) | (refine ⟨fun h => ?_, fun h => ?_⟩ <;> (try simp only [zM, zN] at h) <;> try simp only [h]) | (with_reducible first | refine ⟨_, c1, ?_⟩ | refine ⟨_, c2, ?_⟩) | (with_reducible refine AWP.segP (id := 3) 6 mixed (by kernel_rfl) fun K hK => ?_; simp only [List.take_succ_cons, List.take_zero, List.drop_succ_cons, List.drop_zero]) | (refine stp' ?_; intro K hK) | refine stq ?_ | (clear hK K))
  all_goals (refine ⟨?_, fun _ h => absurd h List.not_mem_nil⟩; first | rfl | (rw [← encDat_eq b]; exact congrArg (fun r => T.tup [T.st r, Bo true]) (encDat_eq (consDat a b)).symm))
theorem rCons_c (a b : Dat) : PC Try.prog 12 [Dt a, Dt b] (.tup [Dt (bif !decide (b.kind = 5) && !decide (b.kind = 7) then zeroDat else consDat a b), Bo (!(!decide (b.kind = 5) && !decide (b.kind = 7)))]) := by
  cases h5 : decide (b.kind = 5) <;> cases h7 : decide (b.kind = 7)
  all_goals
    refine PCB.ob Try.func12 Try.ntmps12 Try.results12 ?_
    repeat' (first | (simp only [go_sem, encDat_eq b, List.length_map, h5, h7]; all_goals refine nf ?_) | (refine stp ?_; intro K hK) | (apply hK; clear hK K) | refine stn ?_ | (refine AWP.cnd ?_ ?_ <;> intro h <;> (try simp only [zM, zN] at h)) | (refine ⟨fun h => ?_, fun h => ?_⟩ <;> (try simp only [zM, zN] at h) <;> try simp only [h]) | refine stq ?_ | (clear hK K))
  all_goals (refine ⟨?_, fun _ h => absurd h List.not_mem_nil⟩; first | rfl | (rw [← encDat_eq b]; exact congrArg (fun r => T.tup [T.st r, Bo true]) (encDat_eq (consDat a b)).symm))
theorem rGet_c (m : Dat) (k0 : KeyD) (hl : m.kind = 8 → m.keys.length = m.kids.length) (hm : m.kids.length ≤ 1000000) : PC Try.prog 7 [Dt m, .st (encKey k0)] (.tup [Dt (getG m k0), Bo (!badG m k0)]) := by
  have hz : encDat zeroDat = [.int .i64 0, .int .i64 0, .str [], .sl 13 [], .sl 2 [], .str [], .int .i64 0, .int .i64 0, .bool false, .sl 8 [], .int .i64 0, .str [], .str []] := by rw [encDat_eq]; rfl
  unfold getG badG
  cases h8 : decide (m.kind = 8)
  ·
    refine PCB.ob Try.func7 Try.ntmps7 Try.results7 ?_
    repeat' (first | (simp only [go_sem, encDat_eq m, List.length_map, h8]; all_goals refine nf ?_) | (refine stp ?_; intro K hK) | (apply hK; clear hK K) | refine stn ?_ | (refine AWP.cnd ?_ ?_ <;> intro h <;> (try simp only [zM, zN] at h)) | (refine ⟨fun h => ?_, fun h => ?_⟩ <;> (try simp only [zM, zN] at h) <;> try simp only [h]) | refine stq ?_ | (clear hK K))
    all_goals exact ⟨rfl, fun _ h => absurd h List.not_mem_nil⟩
  have hlk := hl (of_decide_eq_true h8)
  refine PCB.ob Try.func7 Try.ntmps7 Try.results7 ?_
  repeat' (first | (simp only [go_sem, encDat_eq m, List.length_map, h8]; all_goals refine nf ?_) | (refine stp ?_; intro K hK) | (apply hK; clear hK K) | refine stn ?_ | (refine AWP.cnd ?_ ?_ <;> intro h <;> (try simp only [zM, zN] at h)) | (refine ⟨fun h => ?_, fun h => ?_⟩ <;> (try simp only [zM, zN] at h) <;> try simp only [h]) | refine stq ?_ | (clear hK K))
  refine AWP.len 13 rfl fun hlen0 => ?_
  (try rw [List.length_map] at hlen0)
  refine AWP.range (S := Unit) (m.keys) encKey (fun k s => (15, I .i64 (k : Nat)) :: []) (fun k s => []) [2, 3, 4, 13, 14] [2, 3, 4] (fun k u => gI m k0 = findI (fun x => sameK k0 x) k (m.keys.drop k)) (()) (by simp only [go_sem, encDat_eq m]; exact Gh.tt []) ?_ ?_ ?_
  · rfl
  · intro k u x hlt hx hx' hb hok
    refine sts ?_
    rw [findI_drop _ m.keys k x hx] at hok
    have hkd : k < m.kids.length := by omega
    obtain ⟨y, hy, hy', hb2, _⟩ := at_lt (enc := encDat) hkd
    have hsy := sameK_comm k0 x
    cases hz : sameK k0 x <;> rw [hz] at hsy hok <;> simp only [cond_true, cond_false] at hok
    ·
      repeat' (first | (simp only [go_sem, encDat_eq m, List.length_map, hb, ← hsy, hb2]; all_goals refine nf ?_) | (refine stp ?_; intro K hK) | (apply hK; clear hK K) | refine stn ?_ | (refine AWP.cnd ?_ ?_ <;> intro h <;> (try simp only [zM, zN] at h)) | (refine ⟨fun h => ?_, fun h => ?_⟩ <;> (try simp only [zM, zN] at h) <;> try simp only [h]) | (with_reducible refine ⟨by omega, encKey x, hx', ?_⟩) | refine stq ?_ | (clear hK K))
      all_goals (rw [wrap_succ hlt hlen0])
      all_goals (refine ⟨(), ?_, Gh.tt []⟩)
      all_goals exact hok
    ·
      repeat' (first | (simp only [go_sem, encDat_eq m, List.length_map, hb, ← hsy, hb2]; all_goals refine nf ?_) | (refine stp ?_; intro K hK) | (apply hK; clear hK K) | refine stn ?_ | (refine AWP.cnd ?_ ?_ <;> intro h <;> (try simp only [zM, zN] at h)) | (refine ⟨fun h => ?_, fun h => ?_⟩ <;> (try simp only [zM, zN] at h) <;> try simp only [h]) | (with_reducible first | refine ⟨by omega, encKey x, hx', ?_⟩ | refine ⟨by omega, encDat y, hy', ?_⟩) | refine stq ?_ | (clear hK K))
      all_goals (
        have e1 : decide ((k : Int) < 0) = false := by simp
        have e2 : decide ((m.kids.length : Int) ≤ (k : Int)) = false := by simp; omega
        refine ⟨?_, fun _ h => absurd h List.not_mem_nil⟩
        rw [hok, e1, e2, Int.toNat_natCast, List.getD_eq_getElem?_getD, hy]
        rfl)
  intro s0 hb0 hok0
  refine sts ?_
  rw [List.drop_length] at hok0
  repeat' (first | (simp only [go_sem, encDat_eq m, List.length_map, hb0]; all_goals refine nf ?_) | (refine stp ?_; intro K hK) | (apply hK; clear hK K) | refine stn ?_ | (refine AWP.cnd ?_ ?_ <;> intro h <;> (try simp only [zM, zN] at h)) | (refine ⟨fun h => ?_, fun h => ?_⟩ <;> (try simp only [zM, zN] at h) <;> try simp only [h]) | refine stq ?_ | (clear hK K))
  all_goals (
    have e0 : gI m k0 = -1 := hok0
    have e1 : decide ((-1 : Int) < 0) = true := rfl
    refine ⟨?_, fun _ h => absurd h List.not_mem_nil⟩
    rw [e0, e1]
    rfl)
end Go.Proofs.Ythpndlinlhapgaa

set_option linter.unusedSimpArgs false
set_option linter.unusedVariables false
set_option maxRecDepth 20000
set_option maxHeartbeats 16000000
namespace Go.Proofs.Ythpndlinlhapgaa
open Go Go.Sx
open Bool renaming not_eq_true' → zM, not_eq_false' → zN
/-- the numbers left -/
def rem (s : Src) : Nat := s.l.length - s.pos
mutual
/-- the parts and keys of a datum -/
def bulkD : Dat → Nat
  | ⟨_, _, _, kids, keys, _, _, _, _, _, _, _, _⟩ => 1 + keys.length + bulkDs kids
def bulkDs : List Dat → Nat
  | [] => 0
  | d :: l => bulkD d + bulkDs l
end
theorem bulkD_eq (d : Dat) : bulkD d = 1 + d.keys.length + bulkDs d.kids := by cases d; rw [bulkD]
theorem bulkDs_app : ∀ a b : List Dat, bulkDs (a ++ b) = bulkDs a + bulkDs b
  | [], b => by simp [bulkDs]
  | d :: a, b => by simp only [List.cons_append, bulkDs, bulkDs_app a b]; omega
theorem bulkDs_mem {d : Dat} : ∀ {l : List Dat}, d ∈ l → bulkD d ≤ bulkDs l
  | x :: l, h => by
    rw [bulkDs]
    rcases List.mem_cons.1 h with rfl | h
    · omega
    · have := bulkDs_mem h; omega
theorem bulkDs_len : ∀ l : List Dat, l.length ≤ bulkDs l
  | [] => by simp
  | d :: l => by have := bulkDs_len l; have := bulkD_eq d; rw [bulkDs, List.length_cons]; omega
theorem bulkD_kid {d k : Dat} (h : k ∈ d.kids) : bulkD k < bulkD d := by have := bulkDs_mem h; have := bulkD_eq d; omega
/-- the contracts in it are small -/
inductive NdG : Dat → Prop
  | mk (d : Dat) (h1 : d.nodes.length ≤ 2) (h2 : ∀ x ∈ d.nodes, x.kids.length ≤ 10 ∧ x.fields = []) (h : ∀ k ∈ d.kids, NdG k) : NdG d
theorem NdG.n {d : Dat} (h : NdG d) : d.nodes.length ≤ 2 := by cases h; assumption
theorem NdG.x {d : Dat} (h : NdG d) : ∀ x ∈ d.nodes, x.kids.length ≤ 10 ∧ x.fields = [] := by cases h; assumption
theorem NdG.kid {d : Dat} (h : NdG d) : ∀ k ∈ d.kids, NdG k := by cases h; assumption
theorem cl_of (d : Dat) (h : NdG d) (hb : bulkD d ≤ 1000000) : DCl d := by
  have e := bulkD_eq d
  have hl := bulkDs_len d.kids
  refine DCl.mk d (by omega) (by omega) (by have := h.n; omega) (fun x hx => by have := h.x x hx; exact ⟨by omega, by rw [this.2]; simp⟩) fun k hk => cl_of k (h.kid k hk) (by have := bulkD_kid hk; omega)
termination_by bulkD d
decreasing_by exact bulkD_kid hk
theorem NdG.leaf {d : Dat} (h1 : d.nodes = []) (h2 : d.kids = []) : NdG d := NdG.mk d (by rw [h1]; simp) (fun x hx => by rw [h1] at hx; cases hx) fun k hk => by rw [h2] at hk; cases hk
theorem foldK (k : KeyD) (d : Dat) : ∀ (l : List (KeyD × Dat)) (a : PutA), bulkDs (l.foldl (putStep k d) a).kids + (bif (l.foldl (putStep k d) a).placed then 0 else bulkD d) ≤ bulkDs a.kids + (bif a.placed then 0 else bulkD d) + bulkDs (l.map (·.2)) ∧
    (l.foldl (putStep k d) a).keys.length + (bif (l.foldl (putStep k d) a).placed then 0 else 1) ≤ a.keys.length + (bif a.placed then 0 else 1) + l.length ∧ ∀ x ∈ (l.foldl (putStep k d) a).kids, x ∈ a.kids ∨ x = d ∨ x ∈ l.map (·.2)
  | [], a => ⟨by simp [bulkDs], by simp, fun x hx => .inl hx⟩
  | x :: l, a => by
    rw [List.foldl_cons]
    obtain ⟨h1, h2, h3⟩ := foldK k d l (putStep k d a x)
    have hs : bulkDs (putStep k d a x).kids + (bif (putStep k d a x).placed then 0 else bulkD d) ≤ bulkDs a.kids + (bif a.placed then 0 else bulkD d) + bulkD x.2 ∧
        (putStep k d a x).keys.length + (bif (putStep k d a x).placed then 0 else 1) ≤ a.keys.length + (bif a.placed then 0 else 1) + 1 ∧ ∀ y ∈ (putStep k d a x).kids, y ∈ a.kids ∨ y = d ∨ y = x.2 := by
      obtain ⟨ak, ad, ap⟩ := a
      unfold putStep
      cases decide (keyCmp k x.1 ≤ 0) <;> cases decide (keyCmp k x.1 = 0) <;> cases ap <;> simp only [Bool.not_true, Bool.not_false, Bool.and_true, Bool.and_false, Bool.and_self, cond_true, cond_false, bulkDs_app, bulkDs, List.length_append, List.length_cons, List.length_nil]
      all_goals (refine ⟨by omega, by omega, fun y hy => ?_⟩)
      all_goals first
        | exact .inl hy
        | (rcases List.mem_append.1 hy with h | h
           · first
             | exact .inl h
             | (rcases List.mem_append.1 h with h | h
                · exact .inl h
                · exact .inr (.inl (List.mem_singleton.1 h)))
           · first
             | exact .inr (.inr (List.mem_singleton.1 h))
             | exact .inr (.inl (List.mem_singleton.1 h)))
    refine ⟨?_, ?_, fun y hy => ?_⟩
    · rw [List.map_cons, bulkDs]; omega
    · rw [List.length_cons]; omega
    · rcases h3 y hy with h | h | h
      · rcases hs.2.2 y h with h | h | h
        · exact .inl h
        · exact .inr (.inl h)
        · exact .inr (.inr (by rw [h]; simp))
      · exact .inr (.inl h)
      · exact .inr (.inr (by rw [List.map_cons]; exact List.mem_cons_of_mem _ h))
theorem bulkDs_zip : ∀ (a : List KeyD) (b : List Dat), bulkDs ((a.zip b).map (·.2)) ≤ bulkDs b
  | [], b => by simp [bulkDs]
  | _ :: _, [] => by simp
  | x :: a, d :: b => by have := bulkDs_zip a b; simp only [List.zip_cons_cons, List.map_cons, bulkDs]; omega
theorem zip_snd {a : List KeyD} {b : List Dat} {x : Dat} (h : x ∈ (a.zip b).map (·.2)) : x ∈ b := by
  obtain ⟨p, hp, rfl⟩ := List.mem_map.1 h
  exact (List.of_mem_zip hp).2
theorem put_bulk (m : Dat) (k : KeyD) (d : Dat) : bulkD (putR m k d).1 ≤ bulkD m + bulkD d + 1 := by
  unfold putR
  cases putBad m k
  · simp only [cond_false, mapDat, bulkD_eq]
    obtain ⟨h1, h2, _⟩ := foldK k d (m.keys.zip m.kids) ⟨[], [], false⟩
    generalize (m.keys.zip m.kids).foldl (putStep k d) ⟨[], [], false⟩ = a at *
    have h3 := bulkDs_zip m.keys m.kids
    have h4 : (m.keys.zip m.kids).length ≤ m.keys.length := by simp; omega
    have e := bulkD_eq d
    simp only [bulkDs, cond_false, List.length_nil] at h1 h2
    unfold putEnd
    cases hp : a.placed <;> rw [hp] at h1 h2 <;> simp only [Bool.not_false, Bool.not_true, cond_true, cond_false, List.length_append, List.length_cons, List.length_nil, bulkDs_app, bulkDs] at * <;> omega
  · show bulkD zeroDat ≤ _
    rw [bulkD_eq]; simp [zeroDat, bulkDs]
    try omega
theorem put_ndg {m : Dat} {k : KeyD} {d : Dat} (hm : NdG m) (hd : NdG d) : NdG (putR m k d).1 := by
  unfold putR
  cases putBad m k
  · obtain ⟨_, _, h3⟩ := foldK k d (m.keys.zip m.kids) ⟨[], [], false⟩
    refine NdG.mk _ (by simp [mapDat, zeroDat]) (fun x hx => by cases hx) fun x hx => ?_
    have hx' : x ∈ ((m.keys.zip m.kids).foldl (putStep k d) ⟨[], [], false⟩).kids ∨ x = d := by
      have hx2 : x ∈ (putEnd k d ((m.keys.zip m.kids).foldl (putStep k d) ⟨[], [], false⟩)).kids := hx
      unfold putEnd at hx2
      cases hp : ((m.keys.zip m.kids).foldl (putStep k d) ⟨[], [], false⟩).placed <;> rw [hp] at hx2
      · rcases List.mem_append.1 hx2 with h | h
        · exact .inl h
        · exact .inr (by simpa using h)
      · exact .inl hx2
    rcases hx' with h | rfl
    · rcases h3 x h with h | h | h
      · cases h
      · exact h ▸ hd
      · exact hm.kid x (zip_snd h)
    · exact hd
  · exact NdG.leaf rfl rfl
theorem base_bulk (k : Int) (s : Src) : bulkD (madeBase k s).1 = 1 ∧ NdG (madeBase k s).1 := by
  unfold madeBase
  cases decide (k = 1) <;> cases decide (k = 2) <;> cases decide (k = 3) <;> cases decide (k = 4) <;> cases decide (k = 5) <;> cases decide (k = 6) <;> exact ⟨by rw [bulkD_eq]; rfl, NdG.leaf rfl rfl⟩
theorem base_fun (k : Int) (s : Src) (h : (madeBase k s).1.kind = 9) : (madeBase k s).1.num < 3 := by
  have hv := nextV_in s (n := 3) (by omega)
  unfold madeBase at *
  cases h1 : decide (k = 1) <;> cases h2 : decide (k = 2) <;> cases h3 : decide (k = 3) <;> cases h4 : decide (k = 4) <;> cases h5 : decide (k = 5) <;> cases h6 : decide (k = 6) <;> rw [h1, h2, h3, h4, h5, h6] at h <;> simp only [cond_true, cond_false] at h ⊢ <;> first
    | exact absurd h (by simp [atomDat, intDat, zeroDat]; done)
    | exact hv.2
def MB (B : Nat) (d : Dat) : Prop := bulkD d ≤ B ∧ NdG d
theorem madeN_mb {f : Src → Dat × Src} {B : Nat} (hf : ∀ s, MB B (f s).1) : ∀ (n : Nat) (s : Src) (acc : List Dat), bulkDs (madeN f n s acc).1 ≤ bulkDs acc + n * B ∧ ((∀ x ∈ acc, NdG x) → ∀ x ∈ (madeN f n s acc).1, NdG x)
  | 0, s, acc => ⟨by simp [madeN], fun h => h⟩
  | n + 1, s, acc => by
    obtain ⟨h1, h2⟩ := madeN_mb hf n (f s).2 (acc ++ [(f s).1])
    have h3 := (hf s).1
    rw [madeN]
    refine ⟨?_, fun h => h2 fun x hx => ?_⟩
    · rw [bulkDs_app, bulkDs, bulkDs] at h1; rw [Nat.add_mul]; omega
    · rcases List.mem_append.1 hx with hx | hx
      · exact h x hx
      · rw [List.mem_singleton.1 hx]; exact (hf s).2
theorem listN_mb {f : Src → Dat × Src} {B : Nat} (hf : ∀ s, MB B (f s).1) : ∀ (n : Nat) (s : Src) (t : Dat), NdG t → MB (bulkD t + n * (B + 1)) (listN f n s t).1
  | 0, s, t, h => ⟨by simp [listN], h⟩
  | n + 1, s, t, h => by
    have h3 := hf s
    obtain ⟨h1, h2⟩ := listN_mb hf n (f s).2 (consDat (f s).1 t) (NdG.mk _ (by simp [consDat, zeroDat]) (fun x hx => by cases hx) fun k hk => by
      have hk' : k ∈ [(f s).1, t] := hk
      rcases List.mem_cons.1 hk' with rfl | hk'
      · exact h3.2
      · rw [List.mem_singleton.1 hk']; exact h)
    rw [listN]
    refine ⟨?_, h2⟩
    have e : bulkD (consDat (f s).1 t) = 1 + (bulkD (f s).1 + bulkD t) := by rw [bulkD_eq]; simp [consDat, zeroDat, bulkDs]
    have := h3.1
    rw [e] at h1; rw [Nat.add_mul]; omega
theorem mapN_mb {f : Src → Dat × Src} {B : Nat} (hf : ∀ s, MB B (f s).1) : ∀ (n : Nat) (s : Src) (t : Dat), NdG t → MB (bulkD t + n * (B + 1)) (mapN f n s t).1
  | 0, s, t, h => ⟨by simp [mapN], h⟩
  | n + 1, s, t, h => by
    have h3 := hf (keyV s).2
    obtain ⟨h1, h2⟩ := mapN_mb hf n (f (keyV s).2).2 (putR t (keyV s).1 (f (keyV s).2).1).1 (put_ndg h h3.2)
    rw [mapN]
    refine ⟨?_, h2⟩
    have e := put_bulk t (keyV s).1 (f (keyV s).2).1
    have := h3.1
    rw [Nat.add_mul]; omega
/-- how much a made datum may hold -/
def mbB : Nat → Nat
  | 0 => 2
  | d + 1 => 4 * mbB d + 4
theorem mbB_two : ∀ d, 2 ≤ mbB d
  | 0 => Nat.le_refl _
  | d + 1 => by rw [mbB]; omega
theorem made_mb : ∀ (d : Nat) (s : Src), MB (mbB d) (made d s).1
  | 0, s => by
    have := base_bulk (bif decide (6 < nextV s 12) then 0 else nextV s 12) (nextS s 12)
    exact ⟨by show bulkD (madeBase _ _).1 ≤ 2; omega, this.2⟩
  | d + 1, s => by
    have ih := made_mb d
    have hB := mbB_two d
    have hB1 : mbB (d + 1) = 4 * mbB d + 4 := rfl
    have hz : ∀ k : Int, bulkD { zeroDat with kind := k } = 1 := fun k => by rw [bulkD_eq]; rfl
    unfold made
    cases decide (nextV s 12 ≤ 6)
    · cases decide (nextV s 12 = 7)
      · cases decide (nextV s 12 ≤ 9)
        · cases decide (nextV s 12 = 10)
          · have h1 := nextV_in (nextS s 12) (n := 3) (by omega)
            have h := mapN_mb ih (nextV (nextS s 12) 3).toNat (nextS (nextS s 12) 3) { zeroDat with kind := 8 } (NdG.leaf rfl rfl)
            refine ⟨Nat.le_trans h.1 ?_, h.2⟩
            rw [hz]
            have h2 : (nextV (nextS s 12) 3).toNat ≤ 2 := by omega
            have := Nat.mul_le_mul_right (mbB d + 1) h2
            omega
          · have h1 := nextV_in (nextS s 12) (n := 2) (by omega)
            have h := listN_mb ih (1 + nextV (nextS s 12) 2).toNat (nextS (nextS s 12) 2) { zeroDat with kind := 5 } (NdG.leaf rfl rfl)
            refine ⟨Nat.le_trans h.1 ?_, h.2⟩
            rw [hz]
            have h2 : (1 + nextV (nextS s 12) 2).toNat ≤ 2 := by omega
            have := Nat.mul_le_mul_right (mbB d + 1) h2
            omega
        · have h1 := nextV_in (nextS s 12) (n := 4) (by omega)
          have h := madeN_mb ih (nextV (nextS s 12) 4).toNat (nextS (nextS s 12) 4) []
          refine ⟨?_, NdG.mk _ (by simp [zeroDat]) (fun x hx => by cases hx) (h.2 fun x hx => by cases hx)⟩
          have h2 : (nextV (nextS s 12) 4).toNat ≤ 3 := by omega
          have h3 := Nat.mul_le_mul_right (mbB d) h2
          have h4 := h.1
          have e : bulkD { zeroDat with kind := 6, kids := (madeN (made d) (nextV (nextS s 12) 4).toNat (nextS (nextS s 12) 4) []).1 } = 1 + bulkDs (madeN (made d) (nextV (nextS s 12) 4).toNat (nextS (nextS s 12) 4) []).1 := by rw [bulkD_eq]; rfl
          simp only [cond_true, cond_false]
          rw [e]
          rw [bulkDs] at h4
          omega
      · have h0 := base_bulk (bif decide (6 < nextV (nextS s 12) 12) then 0 else nextV (nextS s 12) 12) (nextS (nextS s 12) 12)
        have h0' : bulkD (made0 (nextS s 12)).1 = 1 ∧ NdG (made0 (nextS s 12)).1 := h0
        have h9 : (made0 (nextS s 12)).1.kind = 9 → (made0 (nextS s 12)).1.num < 3 := base_fun _ _
        generalize made0 (nextS s 12) = r at *
        cases hz9 : decide (r.1.kind = 9)
        · exact ⟨by simp only [cond_true, cond_false]; omega, h0'.2⟩
        · refine ⟨?_, NdG.mk _ (by simp [wrapD]) (fun x hx => ?_) (fun k hk => ?_)⟩
          · have e : bulkD (wrapD r.1) = 1 + bulkD r.1 := by rw [bulkD_eq]; simp [wrapD, zeroDat, bulkDs]
            simp only [cond_true, cond_false]; rw [e]; omega
          · have hx' : x ∈ [node14 (r.1.num + 1).toNat, node2] := hx
            have := h9 (of_decide_eq_true hz9)
            rcases List.mem_cons.1 hx' with rfl | hx'
            · exact ⟨by show (List.replicate (r.1.num + 1).toNat 1).length ≤ 10; rw [List.length_replicate]; omega, rfl⟩
            · rw [List.mem_singleton.1 hx']; exact ⟨Nat.zero_le _, rfl⟩
          · have hk' : k ∈ [r.1] := hk
            rw [List.mem_singleton.1 hk']; exact h0'.2
    · have := base_bulk (nextV s 12) (nextS s 12)
      exact ⟨by simp only [cond_true, cond_false]; omega, this.2⟩
end Go.Proofs.Ythpndlinlhapgaa
set_option linter.unusedSimpArgs false
set_option linter.unusedVariables false
set_option maxRecDepth 20000
namespace Go.Proofs.Ythpndlinlhapgaa
open Go Go.Sx
open Bool renaming not_eq_true' → zM, not_eq_false' → zN
def MapG (m : Dat) : Prop := m.kind = 8 → m = { zeroDat with kind := 8, kids := m.kids, keys := m.keys } ∧ m.keys.length = m.kids.length ∧ SortK m.keys
theorem zip_fst {a : List KeyD} {b : List Dat} (h : a.length = b.length) : (a.zip b).map (·.1) = a := by rw [List.map_fst_zip]; omega
theorem zip_snd' {a : List KeyD} {b : List Dat} (h : a.length = b.length) : (a.zip b).map (·.2) = b := by rw [List.map_snd_zip]; omega
theorem putBad_kind {m : Dat} {k : KeyD} (h : putBad m k = false) : m.kind = 8 := by
  simp only [putBad, Bool.or_eq_false_iff, Bool.not_eq_false'] at h
  exact of_decide_eq_true h.1
theorem putR_eq {m : Dat} (k : KeyD) (d : Dat) (hm : MapG m) : putR m k d = (bif putBad m k then zeroDat else putD m k d, !putBad m k) := by
  unfold putR
  cases hb : putBad m k
  · obtain ⟨e, hl, hs⟩ := hm (putBad_kind hb)
    have hf := fold_ins k d (m.keys.zip m.kids) [] [] (by rw [zip_fst hl]; exact hs)
    have hp := ins_pos k d (m.keys.zip m.kids)
    rw [zip_fst hl, zip_snd' hl] at hp
    simp only [cond_false, hf, List.nil_append, hp.1, hp.2]
    have hm' : ∀ (K : List KeyD) (D : List Dat), mapDat ⟨K, D, true⟩ = { m with keys := K, kids := D } := fun K D => by rw [e]; rfl
    rw [hm']
    unfold putD
    cases fndK m.keys k <;> rfl
  · rfl
theorem insM_mem {k : KeyD} {d : Dat} : ∀ {z : List (KeyD × Dat)} {y : KeyD}, y ∈ (insM k d z).map (·.1) → y = k ∨ y ∈ z.map (·.1)
  | [], y, h => by simp [insM] at h; exact .inl h
  | (x, dx) :: z, y, h => by
    unfold insM at h
    by_cases h1 : keyC x k < 0
    · simp only [decide_eq_true h1, cond_true, List.map_cons, List.mem_cons] at h
      rcases h with rfl | h
      · exact .inr (by simp)
      · rcases insM_mem h with h | h
        · exact .inl h
        · exact .inr (by simp only [List.map_cons, List.mem_cons]; exact .inr h)
    · by_cases h2 : keyC x k = 0
      · simp only [decide_eq_false h1, decide_eq_true h2, cond_true, cond_false, List.map_cons, List.mem_cons] at h
        rcases h with h | h
        · exact .inl h
        · exact .inr (by simp only [List.map_cons, List.mem_cons]; exact .inr h)
      · simp only [decide_eq_false h1, decide_eq_false h2, cond_false, List.map_cons, List.mem_cons] at h
        rcases h with h | h
        · exact .inl h
        · exact .inr (by simp only [List.map_cons, List.mem_cons]; exact h)
theorem insM_sorted {k : KeyD} {d : Dat} : ∀ {z : List (KeyD × Dat)}, SortK (z.map (·.1)) → SortK ((insM k d z).map (·.1))
  | [], _ => by unfold SortK; simp [insM]
  | (x, dx) :: z, h => by
    have hx := (List.pairwise_cons.1 h).1
    have hz := (List.pairwise_cons.1 h).2
    have hanti := keyC_anti x k
    unfold insM
    by_cases h1 : keyC x k < 0
    · simp only [decide_eq_true h1, cond_true, List.map_cons]
      refine List.pairwise_cons.2 ⟨fun y hy => ?_, insM_sorted hz⟩
      rcases insM_mem hy with rfl | hy
      · exact h1
      · exact hx y hy
    · by_cases h2 : keyC x k = 0
      · have := keyC_zero.1 h2
        subst this
        simp only [decide_eq_false h1, decide_eq_true h2, cond_true, cond_false, List.map_cons]
        exact h
      · simp only [decide_eq_false h1, decide_eq_false h2, cond_false, List.map_cons]
        have hkx : keyC k x < 0 := by omega
        refine List.pairwise_cons.2 ⟨fun y hy => ?_, h⟩
        rcases List.mem_cons.1 hy with rfl | hy
        · exact hkx
        · exact keyC_trans hkx (hx y hy)
theorem putR_map {m : Dat} (k : KeyD) (d : Dat) (hm : MapG m) : MapG (putR m k d).1 := by
  unfold putR
  cases hb : putBad m k
  · obtain ⟨e, hl, hs⟩ := hm (putBad_kind hb)
    have hf := fold_ins k d (m.keys.zip m.kids) [] [] (by rw [zip_fst hl]; exact hs)
    simp only [cond_false, hf, List.nil_append]
    intro _
    refine ⟨rfl, by simp [mapDat], ?_⟩
    exact insM_sorted (by rw [zip_fst hl]; exact hs)
  · intro h; cases h
theorem mapN_map {f : Src → Dat × Src} : ∀ (n : Nat) (s : Src) (m : Dat), MapG m → MapG (mapN f n s m).1
  | 0, _, _, h => h
  | n + 1, s, m, h => mapN_map n _ _ (putR_map _ _ h)
theorem listN_kind {f : Src → Dat × Src} : ∀ (n : Nat) (s : Src) (m : Dat), m.kind ≠ 8 → (listN f n s m).1.kind ≠ 8
  | 0, _, _, h => h
  | n + 1, s, m, h => listN_kind n _ _ (by simp [consDat])
theorem base_kind (k : Int) (s : Src) : (madeBase k s).1.kind ≠ 8 := by
  unfold madeBase
  cases decide (k = 1) <;> cases decide (k = 2) <;> cases decide (k = 3) <;> cases decide (k = 4) <;> cases decide (k = 5) <;> cases decide (k = 6) <;> simp [cond_true, cond_false, atomDat, funDat, intDat, zeroDat]
theorem made_map (d : Nat) (s : Src) : MapG (made d s).1 := by
  cases d with
  | zero => exact fun h => absurd h (base_kind _ _)
  | succ d =>
    unfold made
    cases decide (nextV s 12 ≤ 6)
    · cases decide (nextV s 12 = 7)
      · cases decide (nextV s 12 ≤ 9)
        · cases decide (nextV s 12 = 10)
          · exact mapN_map _ _ _ fun _ => ⟨rfl, rfl, List.Pairwise.nil⟩
          · exact fun h => absurd h (listN_kind _ _ _ (by simp))
        · exact fun h => by simp at h
      · cases decide ((made0 (nextS s 12)).1.kind = 9)
        · exact fun h => absurd h (base_kind _ _)
        · exact fun h => by simp [wrapD] at h
    · exact fun h => absurd h (base_kind _ _)
/-- what was put is there -/
theorem insM_get {k : KeyD} {d : Dat} : ∀ {z : List (KeyD × Dat)}, SortK (z.map (·.1)) → ∃ i : Nat, findI (fun x => sameK k x) 0 ((insM k d z).map (·.1)) = i ∧ ((insM k d z).map (·.2))[i]? = some d := by
  have hsame : ∀ x : KeyD, sameK k x = true ↔ k = x := fun x => by unfold sameK; cases k; cases x; simp
  have hsh : ∀ (l : List KeyD) (j : Nat), findI (fun x => sameK k x) (j + 1) l = bif decide (findI (fun x => sameK k x) j l < 0) then -1 else findI (fun x => sameK k x) j l + 1 := by
    intro l
    induction l with
    | nil => intro j; rfl
    | cons x l ih =>
      intro j
      unfold findI
      cases sameK k x
      · simp only [cond_false]; exact ih (j + 1)
      · have : decide ((j : Int) < 0) = false := by simp
        simp only [cond_true, this, cond_false]; omega
  intro z
  induction z with
  | nil => intro _; exact ⟨0, by simp [insM, findI, (hsame k).2 rfl], by simp [insM]⟩
  | cons p z ih =>
    obtain ⟨x, dx⟩ := p
    intro h
    obtain ⟨i, i1, i2⟩ := ih (List.pairwise_cons.1 h).2
    have h0 : findI (fun x => sameK k x) 0 (k :: (z.map (·.1))) = 0 := by unfold findI; rw [(hsame k).2 rfl]; rfl
    unfold insM
    by_cases h1 : keyC x k < 0
    · have hne : sameK k x = false := by
        cases hs : sameK k x with
        | false => rfl
        | true => have e := (hsame x).1 hs; rw [← e] at h1; have := (keyC_zero (a := k) (b := k)).2 rfl; omega
      refine ⟨i + 1, ?_, ?_⟩
      · simp only [decide_eq_true h1, cond_true, List.map_cons]
        unfold findI
        rw [hne, cond_false, hsh, i1]
        have : decide ((i : Int) < 0) = false := by simp
        rw [this]; rfl
      · simp only [decide_eq_true h1, cond_true, List.map_cons, List.getElem?_cons_succ]; exact i2
    · refine ⟨0, ?_, ?_⟩
      · by_cases h2 : keyC x k = 0
        · simp only [decide_eq_false h1, decide_eq_true h2, cond_true, cond_false, List.map_cons]; unfold findI; rw [(hsame k).2 rfl]; rfl
        · simp only [decide_eq_false h1, decide_eq_false h2, cond_false, List.map_cons]; unfold findI; rw [(hsame k).2 rfl]; rfl
      · by_cases h2 : keyC x k = 0
        · simp only [decide_eq_false h1, decide_eq_true h2, cond_true, cond_false, List.map_cons]; rfl
        · simp only [decide_eq_false h1, decide_eq_false h2, cond_false, List.map_cons]; rfl
theorem put_get {m : Dat} (k : KeyD) (d : Dat) (hm : MapG m) (hb : putBad m k = false) : badG (putR m k d).1 k = false ∧ getG (putR m k d).1 k = d := by
  obtain ⟨e, hl, hs⟩ := hm (putBad_kind hb)
  have hf := fold_ins k d (m.keys.zip m.kids) [] [] (by rw [zip_fst hl]; exact hs)
  have he : (putR m k d).1 = mapDat ⟨(insM k d (m.keys.zip m.kids)).map (·.1), (insM k d (m.keys.zip m.kids)).map (·.2), true⟩ := by
    unfold putR; rw [hb]; simp only [cond_false, hf, List.nil_append]
  obtain ⟨i, i1, i2⟩ := insM_get (k := k) (d := d) (z := m.keys.zip m.kids) (by rw [zip_fst hl]; exact hs)
  have hlt := (List.getElem?_eq_some_iff.1 i2).1
  have hbad : badG (putR m k d).1 k = false := by
    rw [he]
    unfold badG gI
    simp only [mapDat, i1]
    simp
    simpa using hlt
  refine ⟨hbad, ?_⟩
  unfold getG
  rw [hbad, he]
  unfold gI
  simp only [mapDat, i1, cond_false, Int.toNat_natCast, List.getD_eq_getElem?_getD, i2, Option.getD_some]
end Go.Proofs.Ythpndlinlhapgaa
set_option linter.unusedSimpArgs false
set_option linter.unusedVariables false
set_option maxRecDepth 20000
set_option maxHeartbeats 16000000
namespace Go.Proofs.Ythpndlinlhapgaa
open Go Go.Sx
open Bool renaming not_eq_true' → zM, not_eq_false' → zN
@[go_sem] theorem eqArrE (a b c d : Int) : eqStT Try.prog 6 49 [.int .i64 a, .int .i64 b] [.int .i64 c, .int .i64 d] = some (decide (a = c) && decide (b = d)) := by kernel_rfl
@[go_sem] theorem eqArrG : Go.Program.eqGuardType Try.prog (Go.Program.depth Try.prog) 49 = false := by kernel_rfl
theorem sameNodes_s (l : List NodeD) (r : Int) (hf : ∀ x ∈ l, x.fields = []) : PC Try.prog 27 [.st [.sl 8 (l.map encNode), .int .i64 r], .st [.sl 8 (l.map encNode), .int .i64 r]] (Bo true) := by
  refine PCB.ob Try.func27 Try.ntmps27 Try.results27 ?_
  repeat' (first | (simp only [go_sem, List.length_map, decide_true]; all_goals refine nf ?_) | (refine stp ?_; intro K hK) | (apply hK; clear hK K) | refine stn ?_ | (refine AWP.cnd ?_ ?_ <;> intro h <;> (try simp only [zM, zN] at h)) | (refine ⟨fun h => ?_, fun h => ?_⟩ <;> (try simp only [zM, zN] at h) <;> try simp only [h]) | (refine stp' ?_; intro K hK) | refine stq ?_ | (clear hK K))
  refine AWP.lenB 2 0 rfl rfl fun hlen0 => ?_
  (try rw [List.length_map] at hlen0)
  refine AWP.range (S := Unit) (l) encNode (fun k s => (27, I .i64 (k : Nat)) :: []) (fun k s => []) [3, 25, 26] [3] (fun k u => Is (0 : Nat) 0) (()) (by refine sts ?_; exact Gh.tt []) ?_ ?_ ?_
  · rfl
  · intro k u x hlt hx hx' hb hok
    refine sts ?_
    have hxf := hf x (List.mem_of_getElem? hx)
    repeat' (first | (simp only [go_sem, List.length_map, decide_true, encNode, hb, hxf, List.map_nil, Bool.and_self, Bool.not_true]; all_goals refine nf ?_) | (refine stp ?_; intro K hK) | (apply hK; clear hK K) | refine stn ?_ | (refine AWP.cnd ?_ ?_ <;> intro h <;> (try simp only [zM, zN] at h)) | (refine ⟨fun h => ?_, fun h => ?_⟩ <;> (try simp only [zM, zN] at h) <;> try simp only [h]) | (with_reducible refine ⟨by omega, _, hx', ?_⟩) | (refine stp' ?_; intro K hK) | refine stq ?_ | (clear hK K))
    refine AWP.lenB 6 4 rfl rfl fun hlen1 => ?_
    (try rw [List.length_map] at hlen1)
    refine AWP.range (S := Unit) (x.kids) encInt (fun k s => (91, I .i64 (k : Nat)) :: []) (fun k s => []) [3, 6, 7, 25, 26, 27, 90] [3, 6, 7] (fun j u => Is (0 : Nat) 0) (()) (by refine sts ?_; exact Gh.tt []) ?_ ?_ ?_
    · rfl
    · intro j u y hlt hy hy' hby hoky
      refine sts ?_
      repeat' (first | (simp only [go_sem, List.length_map, decide_true, encInt, hby]; all_goals refine nf ?_) | (refine stp ?_; intro K hK) | (apply hK; clear hK K) | refine stn ?_ | (refine AWP.cnd ?_ ?_ <;> intro h <;> (try simp only [zM, zN] at h)) | (refine ⟨fun h => ?_, fun h => ?_⟩ <;> (try simp only [zM, zN] at h) <;> try simp only [h]) | (with_reducible refine ⟨by omega, _, hy', ?_⟩) | (refine stp' ?_; intro K hK) | refine stq ?_ | (clear hK K))
      all_goals (rw [wrap_succ hlt hlen1])
      all_goals (refine ⟨(), ?_, Gh.tt []⟩)
      all_goals rfl
    · intro u2 hb2 hok2
      refine sts ?_
      repeat' (first | (simp only [go_sem, List.length_map, hb2]; all_goals refine nf ?_) | (refine stp ?_; intro K hK) | (apply hK; clear hK K) | refine stn ?_ | (refine AWP.cnd ?_ ?_ <;> intro h <;> (try simp only [zM, zN] at h)) | (refine ⟨fun h => ?_, fun h => ?_⟩ <;> (try simp only [zM, zN] at h) <;> try simp only [h]) | (refine stp' ?_; intro K hK) | refine stq ?_ | (clear hK K))
      refine AWP.lenB 6 5 rfl rfl fun hlen2 => ?_
      (try rw [List.length_map] at hlen2)
      refine AWP.range (S := Unit) (([] : List FieldD)) encField (fun k s => (109, I .i64 (k : Nat)) :: []) (fun k s => []) [3, 6, 7, 25, 26, 27, 108] [3, 6, 7] (fun j u => Is (0 : Nat) 0) (()) (by refine sts ?_; exact Gh.tt []) ?_ ?_ ?_
      · rfl
      · intro j u y hlt hy hy' hby hoky
        exact absurd hlt (Nat.not_lt_zero _)
      · intro u3 hb3 hok3
        refine sts ?_
        repeat' (first | (simp only [go_sem, List.length_map, hb3]; all_goals refine nf ?_) | (refine stp ?_; intro K hK) | (apply hK; clear hK K) | refine stn ?_ | (refine AWP.cnd ?_ ?_ <;> intro h <;> (try simp only [zM, zN] at h)) | (refine ⟨fun h => ?_, fun h => ?_⟩ <;> (try simp only [zM, zN] at h) <;> try simp only [h]) | (refine stp' ?_; intro K hK) | refine stq ?_ | (clear hK K))
        all_goals (rw [wrap_succ hlt hlen0])
        all_goals (refine ⟨(), ?_, Gh.tt []⟩)
        all_goals rfl
  · intro u hb hok
    refine sts ?_
    repeat' (first | (simp only [go_sem, List.length_map, hb]; all_goals refine nf ?_) | (refine stp ?_; intro K hK) | (apply hK; clear hK K) | refine stn ?_ | (refine AWP.cnd ?_ ?_ <;> intro h <;> (try simp only [zM, zN] at h)) | (refine ⟨fun h => ?_, fun h => ?_⟩ <;> (try simp only [zM, zN] at h) <;> try simp only [h]) | (refine stp' ?_; intro K hK) | refine stq ?_ | (clear hK K))
    all_goals (first | exact fun _ h => absurd h List.not_mem_nil | refine fin0 ?_)
theorem sameDat_s (d : Dat) (h : NdG d) : PC Try.prog 10 [.st (encDat d), .st (encDat d)] (Bo true) := by
  have ih : ∀ x ∈ d.kids, PC Try.prog 10 [.st (encDat x), .st (encDat x)] (Bo true) := fun x hx => sameDat_s x (h.kid x hx)
  have hn := sameNodes_s d.nodes d.root fun x hx => (h.x x hx).2
  have hkk : ∀ x : KeyD, sameK x x = true := fun x => by unfold sameK; simp
  rw [encDat_eq d]
  refine PCB.ob Try.func10 Try.ntmps10 Try.results10 ?_
  simp only [List.append_eq, List.cons_append, List.nil_append]
  repeat' (first | (simp only [go_sem, List.length_map, decide_true, BEq.rfl]; all_goals refine nf ?_) | (refine stp ?_; intro K hK) | (apply hK; clear hK K) | refine stn ?_ | (refine AWP.cnd ?_ ?_ <;> intro h <;> (try simp only [zM, zN] at h)) | (refine ⟨fun h => ?_, fun h => ?_⟩ <;> (try simp only [zM, zN] at h) <;> try simp only [h]) | (with_reducible refine ⟨_, hn, ?_⟩) | (refine stp' ?_; intro K hK) | refine stq ?_ | (clear hK K))
  refine AWP.lenB 2 4 rfl rfl fun hlen0 => ?_
  (try rw [List.length_map] at hlen0)
  refine AWP.range (S := Unit) (d.keys) encKey (fun k s => (97, I .i64 (k : Nat)) :: []) (fun k s => []) [2, 3, 96] [2, 3] (fun k u => Is (0 : Nat) 0) (()) (by refine sts ?_; exact Gh.tt []) ?_ ?_ ?_
  · rfl
  · intro k u x hlt hx hx' hb hok
    refine sts ?_
    repeat' (first | (simp only [go_sem, List.length_map, hkk, hb]; all_goals refine nf ?_) | (refine stp ?_; intro K hK) | (apply hK; clear hK K) | refine stn ?_ | (refine AWP.cnd ?_ ?_ <;> intro h <;> (try simp only [zM, zN] at h)) | (refine ⟨fun h => ?_, fun h => ?_⟩ <;> (try simp only [zM, zN] at h) <;> try simp only [h]) | (with_reducible refine ⟨by omega, encKey x, hx', ?_⟩) | (refine stp' ?_; intro K hK) | refine stq ?_ | (clear hK K))
    all_goals (rw [wrap_succ hlt hlen0])
    all_goals (refine ⟨(), ?_, Gh.tt []⟩)
    all_goals rfl
  · intro u hb hok
    refine sts ?_
    repeat' (first | (simp only [go_sem, List.length_map, hb]; all_goals refine nf ?_) | (refine stp ?_; intro K hK) | (apply hK; clear hK K) | refine stn ?_ | (refine AWP.cnd ?_ ?_ <;> intro h <;> (try simp only [zM, zN] at h)) | (refine ⟨fun h => ?_, fun h => ?_⟩ <;> (try simp only [zM, zN] at h) <;> try simp only [h]) | (refine stp' ?_; intro K hK) | refine stq ?_ | (clear hK K))
    refine AWP.lenB 2 3 rfl rfl fun hlen1 => ?_
    (try rw [List.length_map] at hlen1)
    refine AWP.range (S := Unit) (d.kids) encDat (fun k s => (115, I .i64 (k : Nat)) :: []) (fun k s => []) [2, 3, 114] [2, 3] (fun k u => Is (0 : Nat) 0) (()) (by refine sts ?_; exact Gh.tt []) ?_ ?_ ?_
    · rfl
    · intro k u x hlt hx hx' hb2 hok
      refine sts ?_
      have hix := ih x (List.mem_of_getElem? hx)
      repeat' (first | (simp only [go_sem, List.length_map, hb2]; all_goals refine nf ?_) | (refine stp ?_; intro K hK) | (apply hK; clear hK K) | refine stn ?_ | (refine AWP.cnd ?_ ?_ <;> intro h <;> (try simp only [zM, zN] at h)) | (refine ⟨fun h => ?_, fun h => ?_⟩ <;> (try simp only [zM, zN] at h) <;> try simp only [h]) | (with_reducible first | refine ⟨_, hix, ?_⟩ | refine ⟨by omega, encDat x, hx', ?_⟩) | (refine stp' ?_; intro K hK) | refine stq ?_ | (clear hK K))
      all_goals (rw [wrap_succ hlt hlen1])
      all_goals (refine ⟨(), ?_, Gh.tt []⟩)
      all_goals rfl
    · intro u hb2 hok
      refine sts ?_
      repeat' (first | (simp only [go_sem, List.length_map, hb2]; all_goals refine nf ?_) | (refine stp ?_; intro K hK) | (apply hK; clear hK K) | refine stn ?_ | (refine AWP.cnd ?_ ?_ <;> intro h <;> (try simp only [zM, zN] at h)) | (refine ⟨fun h => ?_, fun h => ?_⟩ <;> (try simp only [zM, zN] at h) <;> try simp only [h]) | (refine stp' ?_; intro K hK) | refine stq ?_ | (clear hK K))
      all_goals (first | exact fun _ h => absurd h List.not_mem_nil | refine fin0 ?_)
termination_by SizeOf.sizeOf d
decreasing_by
  cases d; simp only at hx; have := List.sizeOf_lt_of_mem hx; simp; omega
end Go.Proofs.Ythpndlinlhapgaa
set_option linter.unusedSimpArgs false
set_option linter.unusedVariables false
set_option maxRecDepth 20000
set_option maxHeartbeats 4000000
namespace Go.Proofs.Ythpndlinlhapgaa
open Go Go.Sx
open Bool renaming not_eq_true' → zM, not_eq_false' → zN
theorem made_k (k : Nat) (d : Nat) (hd : d ≤ 1000) (s : Src) (hs : s.ok) : PCBk Try.prog 4 [Sp k, I .i64 d] k (srcB s) (Dt (made d s).1) (srcB (made d s).2) := (made_c d hd).k k s hs
theorem cut_eq {α : Type} (f : α → List C) (l : List α) (k : Nat) : (List.take (if ((k : Nat) : Int) < (l.length : Int) then ((k : Nat) : Int) else (l.length : Int)).toNat (List.map f l)) = (l.take k).map f := by
  rw [List.map_take]
  split
  · rfl
  · rw [Int.toNat_natCast, List.take_of_length_le (by simp), List.take_of_length_le (by simp; omega)]
theorem cut60 {α : Type} (f : α → List C) (l : List α) : (List.take (if (60 : Int) < (l.length : Int) then (60 : Int) else (l.length : Int)).toNat (List.map f l)) = (l.take 60).map f := cut_eq f l 60
end Go.Proofs.Ythpndlinlhapgaa
set_option linter.unusedSimpArgs false
set_option linter.unusedVariables false
set_option maxRecDepth 20000
namespace Go.Proofs.Ythpndlinlhapgaa
open Go Go.Sx
open Bool renaming not_eq_true' → zM, not_eq_false' → zN
def intC (a : Int) : List C := [.int .i64 1, .int .i64 a, .str [], .sl 13 [], .sl 2 [], .str [], .int .i64 0, .int .i64 0, .bool false, .sl 8 [], .int .i64 0, .str [], .str []]
theorem encInt_eq (a : Int) : encDat (intDat a) = intC a := by rw [encDat_eq]; rfl
abbrev ints (a b : Int) : T := .one (.dat (.sl 13 [encDat (intDat a), encDat (intDat b)]))
abbrev IsOp (op : List UInt8) : Prop := op = [43] ∨ op = [45] ∨ op = [100, 105, 118] ∨ op = [114, 101, 109]
theorem operInt_c (op : List UInt8) (hop : IsOp op) (a b : Int) :
    PC Try.prog 28 [S op, ints a b] (.tup [Dt (intRes op a b).1, I .i64 0, S (intRes op a b).2]) := by
  have hk : ∀ a : Int, (intDat a).kind = 1 := fun _ => rfl
  have hn : ∀ a : Int, (intDat a).num = a := fun _ => rfl
  rcases hop with h | h | h | h
  all_goals subst h
  all_goals (refine PCB.of_body Try.func28 rfl (by decide) Try.ntmps28 Try.results28 rfl rfl rfl ?_ rfl rfl)
  repeat' (first | (simp only [go_sem, hk, hn]; all_goals fail_if_success guard_target =ₛ False) | (with_reducible first | ((first | refine seqVC_stepN rfl ?_ | refine seqVC_stepG rfl (by with_unfolding_all rfl) ?_ | refine AWP.seq ?_ | refine AWP.seqR (by kernel_rfl) ?_ | refine parVC_stepN rfl ?_ | refine parVC_stepG rfl (by with_unfolding_all rfl) ?_ | refine parEVC_stepN rfl ?_ | refine parEVC_stepG rfl (by with_unfolding_all rfl) ?_ | refine genVC_stepN rfl ?_ | refine genVC_stepG rfl (by with_unfolding_all rfl) ?_); intro K hK) | ((first | refine hK _ _ _ ?_ | refine hK _ _ ?_ | refine hK _ ?_); clear hK K) | refine seqVC_nil ?_ | refine parVC_nil ?_ | refine parEVC_nil ?_ | refine genVC_nil ?_ | refine AWP.block ?_ | (refine AWP.cond (by with_unfolding_all rfl) ?_ ?_ <;> intro h <;> (try simp only [zM, zN] at h) <;> try exact absurd h (by decide)) | refine AWP.skip ?_ | refine AWP.ret ?_ | refine AWP.exit ?_ | (refine ⟨fun h => ?_, fun h => ?_⟩ <;> (try simp only [zM, zN] at h) <;> try simp only [h]) | refine ⟨_, integers_c _ _ _, ?_⟩ | (refine AWP.parE1 4 mixed (by kernel_rfl) fun K hK => ?_; simp only [Bx.drop, cond_true, cond_false, Nat.reduceBEq]) | refine AWP.parR mixed (by kernel_rfl) fun K hK => ?_ | refine ⟨(by kernel_rfl : depB _ _ _ = true), ?_⟩ | refine Or.inl ?_) | (clear hK K))
  all_goals exact fun _ h => absurd h List.not_mem_nil
theorem ints_lit (a b : Int) : (T.one (.dat (.sl 13 [[.int .i64 1, .int .i64 a, .str [], .sl 13 [], .sl 2 [], .str [], .int .i64 0, .int .i64 0, .bool false, .sl 8 [], .int .i64 0, .str [], .str []],
    [.int .i64 1, .int .i64 b, .str [], .sl 13 [], .sl 2 [], .str [], .int .i64 0, .int .i64 0, .bool false, .sl 8 [], .int .i64 0, .str [], .str []]])) : T) = ints a b := by
  show _ = T.one (.dat (.sl 13 [encDat (intDat a), encDat (intDat b)]))
  rw [encInt_eq, encInt_eq]; rfl
theorem r1 : intRes [100, 105, 118] (-7) 2 = (intDat (-3), []) := by rfl
theorem r2 : intRes [114, 101, 109] (-7) 2 = (intDat (-1), []) := by rfl
theorem r3 : (intDat (-3)).num = -3 := rfl
theorem r4 : (intDat (-1)).num = -1 := rfl
theorem awake_c : PC Try.prog 13 [] (Bo true) := by
  refine PCB.of_body Try.func13 rfl (by decide) Try.ntmps13 Try.results13 rfl rfl rfl ?_ rfl rfl
  repeat' (first | (simp only [go_sem, ints_lit, r1, r2, r3, r4]; all_goals fail_if_success guard_target =ₛ False) | (with_reducible first | ((first | refine seqVC_stepN rfl ?_ | refine seqVC_stepG rfl (by with_unfolding_all rfl) ?_ | refine AWP.seq ?_ | refine AWP.seqR (by kernel_rfl) ?_); intro K hK) | ((first | refine hK _ _ _ ?_ | refine hK _ _ ?_ | refine hK _ ?_); clear hK K) | refine seqVC_nil ?_ | refine AWP.block ?_ | (refine AWP.cond (by with_unfolding_all rfl) ?_ ?_ <;> intro h <;> (try simp only [zM, zN] at h) <;> try exact absurd h (by decide)) | refine AWP.skip ?_ | refine AWP.ret ?_ | refine AWP.exit ?_ | (refine ⟨fun h => ?_, fun h => ?_⟩ <;> (try simp only [zM, zN] at h) <;> try simp only [h]) | refine ⟨_, operInt_c _ (by decide) _ _, ?_⟩) | (refine ⟨_, hasFunction_c ⟨9, 0, [], [], [], [], 0, 0, false, [], 0, [], []⟩, ?_⟩) | (with_reducible first | refine Or.inl ?_) | (clear hK K))
  all_goals exact ⟨rfl, fun _ h => by cases h⟩
end Go.Proofs.Ythpndlinlhapgaa
set_option linter.unusedSimpArgs false
set_option linter.unusedVariables false
set_option maxRecDepth 20000
set_option maxHeartbeats 16000000
namespace Go.Proofs.Ythpndlinlhapgaa
open Go Go.Sx
open Bool renaming not_eq_true' → zM, not_eq_false' → zN
theorem parts_law (l : List Int) (hl : ∀ x ∈ l, In64 x) (k0 : KeyD) : PC Try.prog 3 [.one (.dat (.sl 1 (l.map encInt))), .st (encKey k0)] (Bo true) := by
  have hs0 : (Src.mk (l.take 60) 0).ok := ⟨fun x hx => hl x (List.mem_of_mem_take hx), by simp; omega⟩
  have hm1 := made_k 31 3 (by omega) ⟨l.take 60, 0⟩ hs0
  have hs1 := ok_made 3 hs0
  have hb1 := made_mb 3 ⟨l.take 60, 0⟩
  have hg1 := made_map 3 ⟨l.take 60, 0⟩
  generalize (made 3 ⟨l.take 60, 0⟩).1 = m at *
  generalize (made 3 ⟨l.take 60, 0⟩).2 = s1 at *
  have hm2 := made_k 31 2 (by omega) s1 hs1
  have hs2 := ok_made 2 hs1
  have hb2 := made_mb 2 s1
  generalize (made 2 s1).1 = d at *
  generalize (made 2 s1).2 = s2 at *
  have hm3 := made_k 31 2 (by omega) s2 hs2
  have hs3 := ok_made 2 hs2
  have hb3 := made_mb 2 s2
  generalize (made 2 s2).1 = x at *
  generalize (made 2 s2).2 = s3 at *
  have hk := key_k 31 s3 hs3
  generalize (keyV s3).1 = k1 at *
  generalize (keyV s3).2 = s4 at *
  have e3 : mbB 3 = 212 := rfl
  have e2 : mbB 2 = 52 := rfl
  unfold MB at hb1 hb2 hb3
  rw [e3] at hb1
  rw [e2] at hb2 hb3
  have clm : DCl m := cl_of m hb1.2 (by omega)
  have cld : DCl d := cl_of d hb2.2 (by omega)
  have clx : DCl x := cl_of x hb3.2 (by omega)
  have hml : m.kids.length ≤ 1000 := by have := bulkDs_len m.kids; have := bulkD_eq m; omega
  have hsame : ∀ y : Dat, NdG y → PC Try.prog 10 [.st (encDat y), .st (encDat y)] (Bo true) := fun y hy => sameDat_s y hy
  have hget : ∀ (y : Dat) (k : KeyD), NdG y → NdG (getG y k) := fun y k hy => by
    unfold getG
    cases badG y k
    · simp only [cond_false]
      rw [List.getD_eq_getElem?_getD]
      cases h : y.kids[(gI y k).toNat]? with
      | none => exact NdG.leaf rfl rfl
      | some z => exact hy.kid z (List.mem_of_getElem? h)
    · exact NdG.leaf rfl rfl
  -- what is known for every key
  have key : ∀ k : KeyD, ∃ (a c : Dat) (p q : Bool), PC Try.prog 6 [.st (encDat m), .st (encKey k)] (.tup [.st (encDat a), Bo q]) ∧ PC Try.prog 7 [.st (encDat m), .st (encKey k)] (.tup [.st (encDat a), Bo q]) ∧
      PC Try.prog 8 [.st (encDat m), .st (encKey k), .st (encDat d)] (.tup [.st (encDat c), Bo p]) ∧ PC Try.prog 9 [.st (encDat m), .st (encKey k), .st (encDat d)] (.tup [.st (encDat c), Bo p]) ∧
      NdG a ∧ NdG c ∧ (p = true → PC Try.prog 6 [.st (encDat c), .st (encKey k)] (.tup [.st (encDat d), Bo true])) := fun k => by
    have hp := dPut_c m k d clm cld (fun h => (hg1 h).2.2) (fun _ => hml)
    have hr := put_c m k d (by omega)
    have he := putR_eq k d hg1
    have hnd := put_ndg (k := k) hb1.2 hb2.2
    have hbk := put_bulk m k d
    refine ⟨getG m k, (putR m k d).1, !putBad m k, !badG m k, dGet_c m k clm, rGet_c m k (fun h => (hg1 h).2.1) (by omega), ?_, ?_, hget m k hb1.2, hnd, fun hpt => ?_⟩
    · rw [he]; exact hp
    · have := hr; rw [show (putR m k d).2 = !putBad m k by rw [he]] at this; exact this
    · obtain ⟨h1, h2⟩ := put_get k d hg1 (by simpa using hpt)
      have := dGet_c (putR m k d).1 k (cl_of _ hnd (by omega))
      rw [h1, h2] at this; exact this
  have c5 := dCons_c d x cld clx
  have c6 := rCons_c d x
  have hcn : NdG (bif !decide (x.kind = 5) && !decide (x.kind = 7) then zeroDat else consDat d x) := by
    cases !decide (x.kind = 5) && !decide (x.kind = 7)
    · exact NdG.mk _ (by simp [consDat, zeroDat]) (fun y hy => by simp [consDat, zeroDat] at hy) (fun y hy => by
        simp only [cond_false, consDat, List.mem_cons, List.not_mem_nil, or_false] at hy
        rcases hy with rfl | rfl
        · exact hb2.2
        · exact hb3.2)
    · exact NdG.leaf rfl rfl
  have c7 := hsame _ hcn
  have c8 := hsame d hb2.2
  generalize (bif !decide (x.kind = 5) && !decide (x.kind = 7) then zeroDat else consDat d x) = cx at *
  generalize (!(!decide (x.kind = 5) && !decide (x.kind = 7))) = bx at *
  refine PCB.ob Try.func3 Try.ntmps3 Try.results3 ?_
  repeat' (first | (simp only [go_sem, List.length_map, List.drop_zero, cut60]; all_goals refine nf ?_) | (refine stp ?_; intro K hK) | (apply hK; clear hK K) | refine stn ?_ | (refine AWP.cnd ?_ ?_ <;> intro h <;> (try simp only [zM, zN] at h)) | (refine ⟨fun h => ?_, fun h => ?_⟩ <;> (try simp only [zM, zN] at h) <;> try simp only [h]) | (with_reducible (refine ⟨by split <;> omega, by split <;> omega, ?_⟩)) | (refine ⟨31, _, _, _, hm1, rfl, ?_⟩) | (refine ⟨31, _, _, _, hm2, rfl, ?_⟩) | (refine ⟨31, _, _, _, hm3, rfl, ?_⟩) | (refine ⟨31, _, _, _, hk, rfl, ?_⟩) | (with_reducible refine AWP.genR (id := 3) [1] [31] mixed (by kernel_rfl) fun K hK => ?_; simp only [Bx.outs, Bx.drop, cond_true, cond_false, Nat.reduceBEq, go_sem]) | (refine stp' ?_; intro K hK) | refine stq ?_ | (clear hK K))
  refine AWP.len 42 rfl fun hlen0 => ?_
  (try rw [List.length_map] at hlen0)
  refine AWP.range (S := Unit) ([k1, k0, ⟨0, [97]⟩]) encKey (fun k s => (44, I .i64 (k : Nat)) :: []) (fun k s => []) [6, 7, 8, 42, 43] [6, 7, 8] (fun k u => True) (()) (by refine sts ?_; exact Gh.tt []) ?_ ?_ ?_
  · trivial
  · intro k u y hlt hy hy' hb hok
    refine sts ?_
    obtain ⟨a, c, p, q, g1, g2, g3, g4, na, nc, g5⟩ := key y
    have hb3' : decide ((k : Int) < 3) = true := hb
    have hy3 : [encKey k1, encKey k0, [C.int .i64 0, C.str [97]]][k]? = some (encKey y) := hy'
    have sa := hsame a na
    have sc := hsame c nc
    cases p
    ·
      repeat' (first | (simp only [go_sem, hb3', beq_self_eq_true]; all_goals refine nf ?_) | (refine stp ?_; intro K hK) | (apply hK; clear hK K) | refine stn ?_ | (refine AWP.cnd ?_ ?_ <;> intro h <;> (try simp only [zM, zN] at h)) | (refine ⟨fun h => ?_, fun h => ?_⟩ <;> (try simp only [zM, zN] at h) <;> try simp only [h]) | (with_reducible first | refine ⟨by omega, encKey y, hy3, ?_⟩ | refine ⟨_, g1, ?_⟩ | refine ⟨_, g2, ?_⟩ | refine ⟨_, g3, ?_⟩ | refine ⟨_, g4, ?_⟩ | refine ⟨_, sa, ?_⟩ | refine ⟨_, sc, ?_⟩) | (refine stp' ?_; intro K hK) | refine stq ?_ | (clear hK K))
      all_goals (rw [wrap_succ hlt hlen0])
      all_goals (refine ⟨(), Gh.tt []⟩)
    · have g5 := g5 rfl
      repeat' (first | (simp only [go_sem, hb3', beq_self_eq_true]; all_goals refine nf ?_) | (refine stp ?_; intro K hK) | (apply hK; clear hK K) | refine stn ?_ | (refine AWP.cnd ?_ ?_ <;> intro h <;> (try simp only [zM, zN] at h)) | (refine ⟨fun h => ?_, fun h => ?_⟩ <;> (try simp only [zM, zN] at h) <;> try simp only [h]) | (with_reducible first | refine ⟨by omega, encKey y, hy3, ?_⟩ | refine ⟨_, g1, ?_⟩ | refine ⟨_, g2, ?_⟩ | refine ⟨_, g3, ?_⟩ | refine ⟨_, g4, ?_⟩ | refine ⟨_, sa, ?_⟩ | refine ⟨_, sc, ?_⟩ | refine ⟨_, g5, ?_⟩ | refine ⟨_, c8, ?_⟩) | (refine stp' ?_; intro K hK) | refine stq ?_ | (clear hK K))
      all_goals (rw [wrap_succ hlt hlen0])
      all_goals (refine ⟨(), Gh.tt []⟩)
  intro s0 hb0 hok0
  refine sts ?_
  repeat' (first | (simp only [go_sem, hb0, beq_self_eq_true]; all_goals refine nf ?_) | (refine stp ?_; intro K hK) | (apply hK; clear hK K) | refine stn ?_ | (refine AWP.cnd ?_ ?_ <;> intro h <;> (try simp only [zM, zN] at h)) | (refine ⟨fun h => ?_, fun h => ?_⟩ <;> (try simp only [zM, zN] at h) <;> try simp only [h]) | (with_reducible first | refine ⟨_, c5, ?_⟩ | refine ⟨_, c6, ?_⟩ | refine ⟨_, c7, ?_⟩ | refine ⟨_, awake_c, ?_⟩) | (refine stp' ?_; intro K hK) | refine stq ?_ | (clear hK K))
  all_goals exact fun _ h => absurd h List.not_mem_nil
end Go.Proofs.Ythpndlinlhapgaa
set_option linter.unusedSimpArgs false
set_option linter.unusedVariables false
set_option maxRecDepth 20000
set_option maxHeartbeats 4000000
namespace Go.Proofs.Ythpndlinlhapgaa
open Go Go.Sx
open Bool renaming not_eq_true' → zM, not_eq_false' → zN
theorem cells_key {n : Nat} {row : List C} (h : hasT Try.prog n 24 row) : ∃ k : KeyD, row = encKey k := by
  obtain ⟨m, parts, rfl, rfl, hl, hf⟩ := cells_st Try.underlying24 h
  match parts, hl with
  | [p0, p1], _ =>
    obtain ⟨a, rfl⟩ := cells_i64 Try.underlying3 (hf 0 _ p0 rfl rfl)
    obtain ⟨b, rfl⟩ := cells_text Try.underlying9 (hf 1 _ p1 rfl rfl)
    exact ⟨⟨a, b⟩, rfl⟩
end Go.Proofs.Ythpndlinlhapgaa
