/- Lemmas of the proof. -/
import Derived.Test.YthbcdhfiibpeaaaGreatTy8
import Derived.Shelf.SortM.Plain
import Derived.Shelf.SortM.SortNone
import Derived.Shelf.SlicesG.CompactS
import Derived.Shelf.SlSortCmp.NoneTotal
set_option linter.unusedSimpArgs false
set_option linter.unusedVariables false
namespace Go.Sx
open Go.Proofs Go.Sort
variable {P : Program}
theorem repRows_str {M : Mem} : ∀ {l : List (List UInt8)} {vs : List Value}, repRows M 1 (l.map Sx.encStr) vs ↔ vs = l.map Go.Proofs.encStr
 | [], vs => by simp [repRows]
 | x :: l, vs => by
  simp only [List.map_cons, repRows, repRows_str (l := l)]
  constructor
  ·rintro ⟨v1, v2, e, _, h1, h2⟩
   simp only [Sx.encStr, repRow, C.rep] at h1
   obtain ⟨v, vs', e1, e2, e3⟩ := h1
   subst e1; subst e2; subst e3; subst h2
   exact e
  ·intro e
   refine ⟨[Go.Proofs.encStr x], _, e, rfl, ?_, rfl⟩
   simp only [Sx.encStr, repRow, C.rep]
   exact ⟨_, [], rfl, rfl, rfl⟩
theorem onCells_atS {w : World} {b : Nat} {c : Array Value} {et : TypeId} {fz : Nat × Nat} (f : Array Value → Array Value) (h : w.heap[b]? = some (.cells c et fz)) : (mapBlock w b f).heap[b]? = some (.cells (f c) et fz) := by
  unfold mapBlock
  simp [Array.getElem?_modify, h, onCells]
theorem onCells_otherS {w : World} {b i : Nat} (f : Array Value → Array Value) (h : i ≠ b) : (mapBlock w b f).heap[i]? = w.heap[i]? := by
  unfold mapBlock
  simp [Array.getElem?_modify, Ne.symm h]
theorem str_row_c {f : FuncId} (hent : Ent P f) (l l' tail : List (List UInt8)) (hlen : l'.length + tail.length = l.length) (r : T) (R : Option Addr → Nat → Value)
  (hrep : ∀ M ν, r.rep M ν (R ((ν pin).blk.map fun b => ⟨b, 0, none⟩) (ν pin).cap))
  (hcall : ∀ b cap w, Holds Go.Proofs.encStr w b 0 l.toArray → b < w.heap.size → l.length ≤ cap → cap ≤ maxLen →
   Calls P f #[.slice (some ⟨b, 0, none⟩) l.length cap] w fun e w' => e = .returned (R (some ⟨b, 0, none⟩) cap) ∧ ∃ n os, w' = grow (putRow Go.Proofs.encStr (Sort.ahead w n) b 0 (l' ++ tail).toArray) os)
  (hnone : l = [] → ∀ cap w, Calls P f #[.slice none 0 cap] w fun e w' => e = .returned (R none cap) ∧ w' = w) :
  PCB P f [.one (.own pin l.length)] [(pin, .row 1 (l.map Sx.encStr))] r [(pin, .row 1 (l'.map Sx.encStr))] := by
 refine ⟨hent, ?_⟩
 intro M ν w vs hs hreps
 simp only [T.reps, T.rep, Cell.rep] at hreps
 obtain ⟨v1, vs1, rfl, rfl, rfl⟩ := hreps
 have hr := hs.res pin (.row 1 (l.map Sx.encStr)) (by simp)
 simp only [Res.ok, List.length_map] at hr
 obtain ⟨hc1, hc2, hr⟩ := hr
 have hrp := hrep M ν
 rcases hr with ⟨hn, hc0⟩ | ⟨b, c, et, mid, post, hb, hheap, htl, hrows, hcs⟩
 ·have hl0 : l = [] := List.length_eq_zero_iff.1 (by omega)
  have hl1 : l' = [] := List.length_eq_zero_iff.1 (by rw [hl0] at hlen; simp at hlen; exact List.length_eq_zero_iff.2 hlen.1)
  have := hnone hl0 (ν pin).cap w
  rw [hl0] at hs ⊢
  rw [hl1]
  rw [hn] at hrp ⊢
  refine Calls.mono this ?_
  rintro e w' ⟨rfl, rfl⟩
  exact ⟨_, M, rfl, Mem.ext.refl _ M, hrp, hs⟩
 ·have hrow : mid = l.map Go.Proofs.encStr := repRows_str.1 hrows
  have hblt : b < w.heap.size := (Array.getElem?_eq_some_iff.1 hheap).1
  have hH : Holds Go.Proofs.encStr w b 0 l.toArray := by
   intro j hj
   have hj1 : j < l.length := by simpa using hj
   have hj2 : j < mid.length := by rw [hrow]; simpa using hj1
   refine ⟨?_, by simp [World.frozen?, hheap]⟩
   simp only [World.cell?, hheap, Nat.zero_add, Option.isSome_none, Bool.false_eq_true, if_false]
   rw [← Array.getElem?_toList, htl, List.getElem?_append_left hj2, hrow, List.getElem?_map, List.getElem?_eq_getElem hj1]
   simp [hj1]
  have hcl := hcall b (ν pin).cap w hH hblt hc1 hc2
  rw [hb] at hrp ⊢
  refine Calls.mono hcl ?_
  rintro e w' ⟨rfl, n, os, rfl⟩
  have hDne : ∀ i, i < w.heap.size → i ≠ b → (grow (putRow Go.Proofs.encStr (Sort.ahead w n) b 0 (l' ++ tail).toArray) os).heap[i]? = w.heap[i]? := by
   intro i hi hne
   rw [heap_grow_old _ _ (by show i < (mapBlock _ _ _).heap.size; simp [mapBlock, ahead]; exact hi)]
   exact onCells_otherS _ hne
  have hDb : (grow (putRow Go.Proofs.encStr (Sort.ahead w n) b 0 (l' ++ tail).toArray) os).heap[b]? = some (.cells (putCells Go.Proofs.encStr 0 (l' ++ tail).toArray c) et (0, 0)) := by
   rw [heap_grow_old _ _ (by show b < (mapBlock _ _ _).heap.size; simp [mapBlock, ahead]; exact hblt)]
   exact onCells_atS _ hheap
  have hnew : (putCells Go.Proofs.encStr 0 (l' ++ tail).toArray c).toList = l'.map Go.Proofs.encStr ++ (tail.map Go.Proofs.encStr ++ post) := by
   rw [← List.append_assoc, ← List.map_append]
   have hfs : ((l' ++ tail).map Go.Proofs.encStr).length = mid.length := by rw [hrow]; simp [hlen]
   apply List.ext_getElem?
   intro t
   rw [Array.getElem?_toList]
   unfold putCells
   rw [Array.getElem?_mapIdx]
   have hsz : (l' ++ tail).toArray.size = mid.length := by rw [hrow]; simp [hlen]
   by_cases ht : t < mid.length
   ·rw [List.getElem?_append_left (by rw [hfs]; exact ht)]
    have hct : t < c.size := by rw [← Array.length_toList, htl, List.length_append]; omega
    have hta : t < (l' ++ tail).length := by rw [← List.size_toArray, hsz]; exact ht
    rw [Array.getElem?_eq_getElem hct, Option.map_some, if_pos ⟨Nat.zero_le _, by omega⟩, Nat.sub_zero, List.getElem?_map, List.getElem?_eq_getElem hta, getElem!_pos _ t (by simpa using hta)]
    simp
   ·rw [List.getElem?_append_right (by rw [hfs]; omega), hfs]
    have : c[t]? = post[t - mid.length]? := by rw [← Array.getElem?_toList, htl, List.getElem?_append_right (by omega)]
    rw [this]
    cases post[t - mid.length]? with
    | none => rfl
    | some y => rw [Option.map_some, if_neg (by omega)]
  have haway := hs.away pin (.row 1 (l.map Sx.encStr)) b (by simp) hb
  have hDin : boxBlocks [(pin, Res.row 1 (l.map Sx.encStr))] ν b := ⟨pin, .row 1 (l.map Sx.encStr), by simp, hb⟩
  refine ⟨_, M, rfl, Mem.ext.refl _ M, hrp, ⟨rfl, rfl, rfl, ?_, ?_, ?_, ?_, ?_, ?_, ?_, by simp⟩⟩
  ·exact Nat.zero_le _
  ·show w.heap.size ≤ (grow (putRow Go.Proofs.encStr (Sort.ahead w n) b 0 (l' ++ tail).toArray) os).heap.size
   simp [grow, putRow, mapBlock, ahead]
  ·intro i hi hD
   exact hDne i hi (fun e => hD (by rw [e]; exact hDin))
  ·intro i o ho
   have h1 := hs.fro i o ho
   have hi : i < w.heap.size := (Array.getElem?_eq_some_iff.1 h1).1
   have hne : i ≠ b := by intro e; subst e; rw [haway.1] at ho; cases ho
   rw [hDne i hi hne]; exact h1
  ·intro j r hm
   simp only [List.mem_singleton, Prod.mk.injEq] at hm
   obtain ⟨rfl, rfl⟩ := hm
   simp only [Res.ok, List.length_map]
   refine ⟨by omega, hc2, .inr ⟨b, _, et, l'.map Go.Proofs.encStr, _, hb, hDb, hnew, repRows_str.2 rfl, ?_⟩⟩
   rw [← hcs]; simp [putCells]
  ·intro j r i hm hi
   simp only [List.mem_singleton, Prod.mk.injEq] at hm
   obtain ⟨rfl, rfl⟩ := hm
   exact hs.away pin (.row 1 (l.map Sx.encStr)) i (by simp) hi
  ·intro j r j' r' i hm hm' _ _
   simp only [List.mem_singleton, Prod.mk.injEq] at hm hm'
   rw [hm.1, hm'.1]
theorem sortStr_c {ρ : Go.Shelf.Ren} (L : SlLaysM.n6 P ρ) (l : List (List UInt8)) (hsz : l.length < 4611686018427387904) :
  PCB P (ρ.f 6) [.one (.own pin l.length)] [(pin, .row 1 (l.map Sx.encStr))] (.tup []) [(pin, .row 1 ((l.mergeSort fun x y => decide (x ≤ y)).map Sx.encStr))] := by
 have hent : Ent P (ρ.f 6) := by
  obtain ⟨nm, hn, hf⟩ := L.f6
  exact ⟨_, hf, hn, rfl⟩
 refine str_row_c hent l _ [] (by simp [List.length_mergeSort]) _ (fun _ _ => .tuple #[]) (fun M ν => by simp [T.rep, T.reps]) (fun b cap w hH hb _ _ => ?_) (fun hl cap w => ?_)
 ·rw [List.append_nil]
  exact AnyM.slices_Sort_string L b 0 cap l w hH hb hsz
 ·exact AnyM.slices_Sort_string_none L none cap w
theorem comp_len (zs : List (List UInt8)) : (Lib.compact zs).length ≤ zs.length := by
  unfold Lib.compact Lib.compactUpTo
  rw [List.length_map]
  exact Nat.le_trans (List.length_filter_le _ _) (by simp)
theorem compactStr_c {ρ : Go.Shelf.Ren} (L : SlLaysN.n44 P ρ) (l : List (List UInt8)) :
  PCB P (ρ.f 44) [.one (.own pin l.length)] [(pin, .row 1 (l.map Sx.encStr))] (.one (.own pin (Lib.compact l).length)) [(pin, .row 1 ((Lib.compact l).map Sx.encStr))] := by
 have hent : Ent P (ρ.f 44) := by
  obtain ⟨nm, hn, hf⟩ := L.f44
  exact ⟨_, hf, hn, rfl⟩
 have hle := comp_len l
 refine str_row_c hent l _ (List.replicate (l.length - (Lib.compact l).length) []) (by simp; omega) _ (fun a cap => .slice a (Lib.compact l).length cap) (fun M ν => by simp only [T.rep, Cell.rep]) (fun b cap w hH hb hc hm => ?_) (fun hl cap w => ?_)
 ·refine Calls.mono (AnyG.slices_Compact_string L b 0 cap l w hH (Nat.le_trans hc hm) hc) ?_
  rintro e w' ⟨rfl, q, rfl⟩
  exact ⟨rfl, q, #[], by simp⟩
 ·subst hl
  exact AnyG.slices_Compact_string_empty L none cap w
theorem PCBk.own1 {f : FuncId} {sz : Nat} {rows rows' : List (List C)} {m : Nat} (k : Nat) (h : PCB P f [.one (.own pin m)] [(pin, .row sz rows)] (.tup []) [(pin, .row sz rows')]) :
  PCBk P f [.one (.own k m)] k (.row sz rows) (.tup []) (.row sz rows') := PCBk.mk k h
theorem PCBk.own2 {f : FuncId} {sz : Nat} {rows rows' : List (List C)} {m m' : Nat} (k : Nat) (h : PCB P f [.one (.own pin m)] [(pin, .row sz rows)] (.one (.own pin m')) [(pin, .row sz rows')]) :
  PCBk P f [.one (.own k m)] k (.row sz rows) (.one (.own k m')) (.row sz rows') := PCBk.mk k h
def valC : C → Value
  | .int k n => .int k n
  | .bool b => .bool b
  | .str l => .string ⟨l.toArray⟩
  | .fn f => .func (.func f) #[] #[]
  | .fnc _ _ => undef
  | .fnil => .nilFunc
  | .err _ => undef
  | .sl _ _ => undef
  | .nil _ => .slice none 0 0
def flatC : C → Bool
  | .sl _ _ => false
  | .fnc _ _ => false
  | .err _ => false
  | _ => true
theorem rep_flat {M : Mem} {c : C} {v : Value} (h : flatC c = true) : C.rep M c v ↔ v = valC c := by
  cases c <;> simp_all [flatC, C.rep, valC]
theorem repRow_flat {M : Mem} : ∀ {r : List C} {vs : List Value}, r.all flatC = true → (repRow M r vs ↔ vs = r.map valC)
 | [], vs, _ => by simp [repRow]
 | c :: r, vs, h => by
  simp only [List.all_cons, Bool.and_eq_true] at h
  simp only [repRow, rep_flat h.1, repRow_flat h.2, List.map_cons]
  constructor
  ·rintro ⟨v, vs', e, rfl, rfl⟩; exact e
  ·rintro e; exact ⟨_, _, e, rfl, rfl⟩
theorem repRows_flat {M : Mem} {sz : Nat} : ∀ {rows : List (List C)} {vs : List Value}, (∀ r ∈ rows, r.all flatC = true ∧ r.length = sz) → (repRows M sz rows vs ↔ vs = (rows.map (·.map valC)).flatten)
 | [], vs, _ => by simp [repRows]
 | r :: rows, vs, h => by
  have h1 := h r (by simp)
  have ih := fun vs => repRows_flat (M := M) (sz := sz) (rows := rows) (vs := vs) (fun r hr => h r (List.mem_cons_of_mem _ hr))
  simp only [repRows, repRow_flat h1.1, ih, List.map_cons, List.flatten_cons]
  constructor
  ·rintro ⟨v1, v2, e, _, rfl, rfl⟩; exact e
  ·rintro e; exact ⟨_, _, e, h1.2, rfl, rfl⟩
theorem flatten_at {α : Type} {enc : α → List Value} {k : Nat} (hk : ∀ x, (enc x).length = k) : ∀ (l : List α) (t : Nat), t < l.length * k → ∃ x v, l[t / k]? = some x ∧ (enc x)[t % k]? = some v ∧ ((l.map enc).flatten)[t]? = some v
 | [], t, h => by simp at h
 | x :: l, t, h => by
  have hk0 : 0 < k := by
   rcases Nat.eq_zero_or_pos k with e | e
   ·subst e; simp at h
   ·exact e
  simp only [List.length_cons, Nat.add_mul, Nat.one_mul] at h
  by_cases ht : t < k
  ·have hv : t < (enc x).length := by rw [hk]; exact ht
   refine ⟨x, (enc x)[t], by rw [Nat.div_eq_of_lt ht]; rfl, by rw [Nat.mod_eq_of_lt ht, List.getElem?_eq_getElem hv], ?_⟩
   rw [List.map_cons, List.flatten_cons, List.getElem?_append_left hv, List.getElem?_eq_getElem hv]
  ·obtain ⟨y, v, h1, h2, h3⟩ := flatten_at hk l (t - k) (by omega)
   have e1 : t / k = (t - k) / k + 1 := by rw [Nat.sub_eq_of_eq_add (show t = (t - k) + k by omega)]; conv => lhs; rw [show t = (t - k) + k by omega]; rw [Nat.add_div_right _ hk0]
   have e2 : t % k = (t - k) % k := by conv => lhs; rw [show t = (t - k) + k by omega]; rw [Nat.add_mod_right]
   refine ⟨y, v, by rw [e1]; simpa using h1, by rw [e2]; exact h2, ?_⟩
   rw [List.map_cons, List.flatten_cons, List.getElem?_append_right (by rw [hk]; omega), hk]
   exact h3
theorem flatK_list {α : Type} [Inhabited α] {enc : α → List Value} {k : Nat} (hk : ∀ x, (enc x).length = k) (d : Array α) : (flatK enc k d).toList = (d.toList.map enc).flatten := by
 apply List.ext_getElem?
 intro t
 have hlen : ((d.toList.map enc).flatten).length = d.size * k := by
  rw [List.length_flatten, List.map_map]
  have : (List.length ∘ enc) = fun _ => k := by funext x; exact hk x
  rw [this, List.map_const', List.sum_replicate_nat, Array.length_toList]
 by_cases ht : t < d.size * k
 ·obtain ⟨x, v, h1, h2, h3⟩ := flatten_at hk d.toList t (by simpa using ht)
  rw [h3]
  have h4 := get_flatK enc k d t ht
  have hsz : t < (flatK enc k d).size := by simpa using ht
  rw [Array.getElem?_toList, Array.getElem?_eq_getElem hsz, ← getElem!_pos _ t hsz, h4]
  congr 1
  have hx : d[t / k]! = x := by
   have : d[t / k]? = some x := by simpa using h1
   simp [Array.getElem!_eq_getD, Array.getD_eq_getD_getElem?, this]
  rw [hx]
  simp [h2]
 ·rw [List.getElem?_eq_none (by simp; omega), List.getElem?_eq_none (by omega)]
theorem onCells_at {w : World} {b : Nat} {c : Array Value} {et : TypeId} {fz : Nat × Nat} (f : Array Value → Array Value) (h : w.heap[b]? = some (.cells c et fz)) : (mapBlock w b f).heap[b]? = some (.cells (f c) et fz) := by
  unfold mapBlock
  simp [Array.getElem?_modify, h, onCells]
theorem onCells_other {w : World} {b i : Nat} (f : Array Value → Array Value) (h : i ≠ b) : (mapBlock w b f).heap[i]? = w.heap[i]? := by
  unfold mapBlock
  simp [Array.getElem?_modify, Ne.symm h]
theorem sortFunc_c {ρ : Go.Shelf.Ren} {α : Type} [Inhabited α] (L : SlLaysF0.n6 P ρ) {k : Nat} (aE : ∀ w, (isAgg (ρ.t 24)).run P w = .ok true w) (zE : ∀ w, (Go.sizeOf (ρ.t 24)).run P w = .ok k w)
  (encC : α → List C) (hflat : ∀ x, (encC x).all flatC = true) (hk : ∀ x, (encC x).length = k) (hone : ∀ x, ∀ v ∈ (encC x).map valC, v.oneCell' = true) (cf : α → α → Int) (hO : SWO (ltOf cf)) (g : FuncId)
  (hge : Ent P g) (hg : ∀ (x y : α) (W : World), Calls P g #[.agg ((encC x).map valC).toArray, .agg ((encC y).map valC).toArray] W fun e w' => e = .returned (.int .i64 (cf x y)) ∧ ∃ q os', w' = grow (W.drewN q) os') (l : List α) (hsz : l.length < 4611686018427387904) :
  ∃ s : List α, s.Perm l ∧ s.Pairwise (fun x y => ltOf cf y x = false) ∧
   PCB P (ρ.f 6) [.one (.own pin l.length), .one (.dat (.fn g))] [(pin, .row k (l.map encC))] (.tup []) [(pin, .row k (s.map encC))] := by
 obtain ⟨enc, henc⟩ : ∃ enc : α → List Value, enc = fun x => (encC x).map valC := ⟨_, rfl⟩
 have hk' : ∀ x, (enc x).length = k := fun x => by simp [henc, hk]
 obtain ⟨d, hd⟩ : ∃ d : Array α, d = l.toArray := ⟨_, rfl⟩
 have hsort := pdq_sorts (ltOf cf) hO d 0 d.size (Lib.bitLen d.size) true true (Nat.zero_le _) (Nat.le_refl _) (Or.inl rfl)
 obtain ⟨d', hd'⟩ : ∃ d', d' = pdq (ltOf cf) d 0 d.size (Lib.bitLen d.size) true true := ⟨_, rfl⟩
 rw [← hd'] at hsort
 have hds : d.size = l.length := by simp [hd]
 have hsize : d'.size = l.length := by rw [hsort.1.1, hds]
 have hent : Ent P (ρ.f 6) := by
  obtain ⟨nm, hn, hf⟩ := L.f6
  exact ⟨_, hf, hn, rfl⟩
 refine ⟨d'.toList, ?_, ?_, hent, ?_⟩
 ·have := hsort.1.2.2
  rw [Array.extract_size, Array.extract_eq_self_of_le (by omega)] at this
  simpa [hd] using this
 ·rw [List.pairwise_iff_getElem]
  intro i j hi hj hij
  have h1 : i < d'.size := by simpa using hi
  have h2 : j < d'.size := by simpa using hj
  have := hsort.2 i j (Nat.zero_le _) hij (by omega)
  rw [getElem!_pos _ i h1, getElem!_pos _ j h2] at this
  simpa using this
 intro M ν w vs hs hreps
 simp only [T.reps, T.rep, Cell.rep, C.rep] at hreps
 obtain ⟨v1, vs1, rfl, rfl, v2, vs2, rfl, rfl, rfl⟩ := hreps
 have hr := hs.res pin (.row k (l.map encC)) (by simp)
 simp only [Res.ok, List.length_map] at hr
 obtain ⟨hc1, hc2, hr⟩ := hr
 rcases hr with ⟨hn, hc0⟩ | ⟨b, c, et, mid, post, hb, hheap, htl, hrows, hcs⟩
 ·have hl0 : l = [] := List.length_eq_zero_iff.1 (by omega)
  have hd0 : d'.toList = [] := List.length_eq_zero_iff.1 (by simp [hsize, hl0])
  rw [hd0, hl0]
  rw [hl0] at hs
  have := AnyF.slices_SortFunc_none L none (ν pin).cap (.func (.func g) #[] #[]) w
  rw [hn]
  refine Calls.mono this ?_
  rintro e w' ⟨rfl, rfl⟩
  exact ⟨_, M, rfl, Mem.ext.refl _ M, by simp [T.rep, T.reps], hs⟩
 ·have hrow : mid = (flatK enc k d).toList := by
   rw [flatK_list hk']
   have := (repRows_flat (M := M) (sz := k) (rows := l.map encC) (vs := mid) (fun r hr => by
    obtain ⟨x, _, rfl⟩ := List.mem_map.1 hr
    exact ⟨hflat x, hk x⟩)).1 hrows
   rw [this]; simp [henc, hd, List.map_map, Function.comp_def]
  have hblt : b < w.heap.size := (Array.getElem?_eq_some_iff.1 hheap).1
  have hH : HoldsK enc k w b 0 d := by
   intro j hj
   have hj2 : j < mid.length := by rw [hrow]; simpa using hj
   refine ⟨?_, by simp [World.frozen?, hheap]⟩
   simp only [World.cell?, hheap, Nat.zero_add, Option.isSome_none, Bool.false_eq_true, if_false]
   rw [← Array.getElem?_toList, htl, List.getElem?_append_left hj2]
   have : mid[j]? = (flatK enc k d)[j]? := by rw [hrow, Array.getElem?_toList]
   rw [this, getElem!_pos _ j hj, Array.getElem?_eq_getElem hj]; rfl
  have eg : ∀ args w, (callFunc g args).run P w = .ok (.enter g args) w := by
   intro args w
   obtain ⟨fn, e1, e2, e3⟩ := hge
   cases hbd : fn.body with
   | none => rw [hbd] at e3; cases e3
   | some cd => exact enters_of e1 e2 hbd args w
  have hcmp : CmpLays P g #[] enc k cf b 0 d.size w := by
   intro m os dk hdk x y
   have h0 := hg x y (sortWorldK enc k w b 0 m dk os)
   rw [henc]
   rw [henc] at h0
   exact h0
  have hcall := AnyQ.slices_SortFunc_eq L k aE zE enc hk' (by rw [henc]; exact hone) cf hO g #[] b 0 (ν pin).cap d w eg hcmp hH hblt (by omega)
  rw [hb]
  rw [← hd', hds] at hcall
  refine Calls.mono hcall ?_
  rintro e w' ⟨rfl, n, os, rfl⟩
  have hDne : ∀ i, i < w.heap.size → i ≠ b → (sortWorldK enc k w b 0 n d' os).heap[i]? = w.heap[i]? := by
   intro i hi hne
   unfold sortWorldK
   rw [heap_grow_old _ _ (by show i < (mapBlock _ _ _).heap.size; simp [mapBlock, ahead]; exact hi)]
   exact onCells_other _ hne
  have hDb : (sortWorldK enc k w b 0 n d' os).heap[b]? = some (.cells (putCells id 0 (flatK enc k d') c) et (0, 0)) := by
   unfold sortWorldK
   rw [heap_grow_old _ _ (by show b < (mapBlock _ _ _).heap.size; simp [mapBlock, ahead]; exact hblt)]
   exact onCells_at _ hheap
  have hnew : (putCells id 0 (flatK enc k d') c).toList = (flatK enc k d').toList ++ post := by
   have hfs : (flatK enc k d').size = mid.length := by rw [hrow]; simp [hsize, hds]
   apply List.ext_getElem?
   intro t
   rw [Array.getElem?_toList]
   unfold putCells
   rw [Array.getElem?_mapIdx]
   by_cases ht : t < mid.length
   ·rw [List.getElem?_append_left (by rw [Array.length_toList, hfs]; exact ht), Array.getElem?_toList]
    have hct : t < c.size := by rw [← Array.length_toList, htl, List.length_append]; omega
    rw [Array.getElem?_eq_getElem hct, Option.map_some, if_pos ⟨Nat.zero_le _, by omega⟩, Nat.sub_zero, getElem!_pos _ t (by omega), Array.getElem?_eq_getElem (by omega)]
    rfl
   ·rw [List.getElem?_append_right (by rw [Array.length_toList, hfs]; omega), Array.length_toList, hfs]
    have : c[t]? = post[t - mid.length]? := by rw [← Array.getElem?_toList, htl, List.getElem?_append_right (by omega)]
    rw [this]
    cases post[t - mid.length]? with
    | none => rfl
    | some y => rw [Option.map_some, if_neg (by omega)]
  have haway := hs.away pin (.row k (l.map encC)) b (by simp) hb
  have hDin : boxBlocks [(pin, Res.row k (l.map encC))] ν b := ⟨pin, .row k (l.map encC), by simp, hb⟩
  refine ⟨_, M, rfl, Mem.ext.refl _ M, by simp [T.rep, T.reps], ⟨rfl, rfl, rfl, ?_, ?_, ?_, ?_, ?_, ?_, ?_, by simp⟩⟩
  ·exact Nat.zero_le _
  ·show w.heap.size ≤ (sortWorldK enc k w b 0 n d' os).heap.size
   simp [sortWorldK, grow, putRowK, putRow, mapBlock, ahead]
  ·intro i hi hD
   exact hDne i hi (fun e => hD (by rw [e]; exact hDin))
  ·intro i o ho
   have h1 := hs.fro i o ho
   have hi : i < w.heap.size := (Array.getElem?_eq_some_iff.1 h1).1
   have hne : i ≠ b := by intro e; subst e; rw [haway.1] at ho; cases ho
   rw [hDne i hi hne]; exact h1
  ·intro j r hm
   simp only [List.mem_singleton, Prod.mk.injEq] at hm
   obtain ⟨rfl, rfl⟩ := hm
   simp only [Res.ok, List.length_map, Array.length_toList]
   refine ⟨by omega, hc2, .inr ⟨b, _, et, _, post, hb, hDb, hnew, ?_, ?_⟩⟩
   ·rw [flatK_list hk']
    refine (repRows_flat (fun r hr => by
     obtain ⟨x, _, rfl⟩ := List.mem_map.1 hr
     exact ⟨hflat x, hk x⟩)).2 ?_
    simp [henc, List.map_map, Function.comp_def]
   ·rw [← hcs]; simp [putCells]
  ·intro j r i hm hi
   simp only [List.mem_singleton, Prod.mk.injEq] at hm
   obtain ⟨rfl, rfl⟩ := hm
   exact hs.away pin (.row k (l.map encC)) i (by simp) hi
  ·intro j r j' r' i hm hm' _ _
   simp only [List.mem_singleton, Prod.mk.injEq] at hm hm'
   rw [hm.1, hm'.1]
end Go.Sx

