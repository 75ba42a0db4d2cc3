/- A part of the proof: lemmas about the walk of the program and about plain integers and lists. No conditions beyond those that each lemma states. -/
import Derived.Test.YtmpfdejckbceiaaOp2
/-! What each operation does to abstract values: operations that turn no box. -/
set_option linter.unusedVariables false
set_option linter.unusedSimpArgs false
namespace Go.Sx
variable {P : Program}

abbrev I (k : IntKind) (n : Int) : T := .one (.dat (.int k n))
abbrev Bo (b : Bool) : T := .one (.dat (.bool b))
abbrev S (l : List UInt8) : T := .one (.dat (.str l))

/-! ### tables -/
def isAggD : TypeDesc → Bool
  | .struct _ | .array _ _ => true
  | _ => false
def szT (P : Program) (t : TypeId) : Option Nat := (P.info? t).map (·.size)
def aggT (P : Program) (t : TypeId) : Option Bool := (P.underlying t).map isAggD
/-- place, size and form of a field -/
def fldT (P : Program) (s f : Nat) : Option (Nat × Nat × Bool) :=
  match P.underlying s with
  | some (.struct fs) => match fs[f]? with
    | some fd => match szT P fd.type, aggT P fd.type with
      | some (n + 1), some b => some (fd.offset, n + 1, b)
      | _, _ => none
    | none => none
  | _ => none
/-- size and form of a slice's element -/
def elT (P : Program) (t : TypeId) : Option (Nat × Bool) :=
  match P.underlying t with
  | some (.slice e) => match szT P e, aggT P e with
    | some n, some b => some (n, b)
    | _, _ => none
  | _ => none
/-- length of an array, size and form of its element -/
def arT (P : Program) (t : TypeId) : Option (Nat × Nat × Bool) :=
  match P.underlying t with
  | some (.array len e) => match szT P e, aggT P e with
    | some n, some b => some (len, n, b)
    | _, _ => none
  | _ => none
inductive Kd where
  | int (k : IntKind) | bool | str | other
  deriving DecidableEq
def kdT (P : Program) (t : TypeId) : Option Kd :=
  match P.underlying t with
  | some (.int k) => some (.int k)
  | some .bool => some .bool
  | some .string => some .str
  | some _ => some .other
  | none => none

theorem run_sz {t s : Nat} (h : szT P t = some s) (w : World) : (sizeOf t).run P w = .ok s w := by
  unfold szT at h
  cases hi : P.info? t with
  | none => simp [hi] at h
  | some i =>
    simp only [hi, Option.map_some, Option.some.injEq] at h
    simp [sizeOf, typeInfo, hi, h]
theorem run_agg {t : Nat} {b : Bool} (h : aggT P t = some b) (w : World) : (isAgg t).run P w = .ok b w := by
  unfold aggT at h
  cases hi : P.underlying t with
  | none => simp [hi] at h
  | some d =>
    simp only [hi, Option.map_some, Option.some.injEq] at h
    subst h
    simp only [isAgg, Sem.run_bind, run_underlying hi, Result.andThen_ok]
    cases d <;> rfl

theorem fldT_spec {s f off n : Nat} {b : Bool} (h : fldT P s f = some (off, n, b)) : ∃ fs fd, P.underlying s = some (.struct fs) ∧ fs[f]? = some fd ∧ fd.offset = off ∧ szT P fd.type = some n ∧ aggT P fd.type = some b ∧ n ≠ 0 := by
  unfold fldT at h
  split at h
  · rename_i fs hu
    split at h
    · rename_i fd hf
      split at h
      · rename_i n' b' h1 h2
        simp only [Option.some.injEq, Prod.mk.injEq] at h
        exact ⟨fs, fd, hu, hf, h.1, by rw [h1]; exact congrArg some h.2.1, by rw [h2, h.2.2], by omega⟩
      · cases h
    · cases h
  · cases h
theorem elT_spec {t n : Nat} {b : Bool} (h : elT P t = some (n, b)) : ∃ e, P.underlying t = some (.slice e) ∧ szT P e = some n ∧ aggT P e = some b := by
  unfold elT at h
  split at h
  · rename_i e hu
    split at h
    · rename_i n' b' h1 h2
      simp only [Option.some.injEq, Prod.mk.injEq] at h
      exact ⟨e, hu, by rw [h1, h.1], by rw [h2, h.2]⟩
    · cases h
  · cases h
theorem arT_spec {t len n : Nat} {b : Bool} (h : arT P t = some (len, n, b)) : ∃ e, P.underlying t = some (.array len e) ∧ szT P e = some n ∧ aggT P e = some b := by
  unfold arT at h
  split at h
  · rename_i len' e hu
    split at h
    · rename_i n' b' h1 h2
      simp only [Option.some.injEq, Prod.mk.injEq] at h
      exact ⟨e, by rw [hu, h.1], by rw [h1, h.2.1], by rw [h2, h.2.2]⟩
    · cases h
  · cases h

/-! ### operands -/
def constT (P : Program) (ty : TypeId) : Value → Option T
  | .int k n => some (I k n)
  | .bool b => some (Bo b)
  | .string s => some (S s.data.toList)
  | .slice none 0 0 => match elT P ty with | some (n, _) => some (.one (.dat (.nil n))) | none => none
  | _ => none

def ev (P : Program) (env : Env) (ty : TypeId) : Operand → Option T
  | .tmp d => env.lookup d
  | .const v => constT P ty v
  | .func f => some (.one (.dat (.fn f)))
  | .global _ => none

theorem constT_rep {M : Mem} {ν : Nu} {ty : TypeId} {v : Value} {t : T} (h : constT P ty v = some t) : t.rep M ν v := by
  unfold constT at h
  split at h <;> try (cases h; done)
  · cases h; simp only [T.rep, Cell.rep, C.rep]
  · cases h; simp only [T.rep, Cell.rep, C.rep]
  · rename_i s
    cases h; simp only [T.rep, Cell.rep, C.rep, Array.toArray_toList]
  · split at h
    · cases h
      simp only [T.rep, Cell.rep, C.rep]
    · cases h

theorem ev_rep {M : Mem} {ν : Nu} {a : Act} {env : Env} {o : Oper} {ty : TypeId} {x : Operand} {t : T} (he : EnvOn M ν a env o) (hx : x ∈ o.op.operands) (h : ev P env ty x = some t) :
    t.rep M ν (a.eval x) := by
  cases x with
  | tmp d => exact he d t hx h
  | const v => exact constT_rep h
  | func f => simp only [ev, Option.some.injEq] at h; subst h; simp only [T.rep, Cell.rep, C.rep, Act.eval]
  | global g => cases h

/-! ### frames of proofs -/
theorem OpP.of_run {o : Oper} {env : Env} {B : Bx} {t : T}
    (h : ∀ κ M ν a w B', (∀ x ∈ B, x ∈ B') → EnvOn M ν a env o → Sat κ M ν B' w →
      ∃ v w' M', (execOp a.eval o).run P w = .ok (.value v) w' ∧ M.ext κ M' ∧ t.rep M' ν v ∧ Sat κ M' ν B' w') : OpP P o env B t := by
  intro κ M ν a w B' hB he hs
  obtain ⟨v, w', M', hr, hle, ht, hs'⟩ := h κ M ν a w B' hB he hs
  unfold Oper.wp
  rw [hr]
  exact ⟨v, M', rfl, hle, ht, hs'⟩

theorem OpP.of_val {o : Oper} {env : Env} {B : Bx} {t : T}
    (h : ∀ κ M ν a w B', (∀ x ∈ B, x ∈ B') → EnvOn M ν a env o → Sat κ M ν B' w → ∃ v, (execOp a.eval o).run P w = .ok (.value v) w ∧ t.rep M ν v) : OpP P o env B t :=
  OpP.of_run fun κ M ν a w B' hB he hs => let ⟨v, hr, ht⟩ := h κ M ν a w B' hB he hs; ⟨v, w, M, hr, Mem.ext.refl κ M, ht, hs⟩

theorem rep_int {M : Mem} {ν : Nu} {k : IntKind} {n : Int} {v : Value} : (I k n).rep M ν v ↔ v = .int k n := by simp only [T.rep, Cell.rep, C.rep]
theorem rep_bool {M : Mem} {ν : Nu} {b : Bool} {v : Value} : (Bo b).rep M ν v ↔ v = .bool b := by simp only [T.rep, Cell.rep, C.rep]
theorem rep_str {M : Mem} {ν : Nu} {l : List UInt8} {v : Value} : (S l).rep M ν v ↔ v = .string ⟨l.toArray⟩ := by simp only [T.rep, Cell.rep, C.rep]

/-! ### move, assign, pick -/
def vMove (t : Option T) (K : T → Prop) : Prop :=
  match t with
  | some t => K t
  | none => False
def vPick (c a b : Option T) (K : T → Prop) : Prop :=
  match c with
  | some (.one (.dat (.bool c))) => bif c then vMove a K else vMove b K
  | _ => False

theorem vMove_some {t : Option T} {K : T → Prop} (h : vMove t K) : ∃ u, t = some u ∧ K u := by
  unfold vMove at h
  split at h
  · exact ⟨_, rfl, h⟩
  · exact h.elim

/-! ### integers, strings, bools -/
def vInt (op : BinOp) (k k' : IntKind) (a b : Int) (K : T → Prop) : Prop :=
  match op with
  | .shl => 0 ≤ b ∧ K (I k (k.wrap (a * 2 ^ (min b.toNat k.bits))))
  | .shr => 0 ≤ b ∧ K (I k (a.fdiv (2 ^ (min b.toNat k.bits))))
  | .add => k = k' ∧ K (I k (k.wrap (a + b)))
  | .sub => k = k' ∧ K (I k (k.wrap (a - b)))
  | .mul => k = k' ∧ K (I k (k.wrap (a * b)))
  | .quo => k = k' ∧ b ≠ 0 ∧ K (I k (k.wrap (a.tdiv b)))
  | .rem => k = k' ∧ b ≠ 0 ∧ K (I k (a.tmod b))
  | .and => k = k' ∧ K (I k (k.wrap (BitVec.ofInt k.bits a &&& BitVec.ofInt k.bits b).toNat))
  | .or => k = k' ∧ K (I k (k.wrap (BitVec.ofInt k.bits a ||| BitVec.ofInt k.bits b).toNat))
  | .xor => k = k' ∧ K (I k (k.wrap (BitVec.ofInt k.bits a ^^^ BitVec.ofInt k.bits b).toNat))
  | .andNot => k = k' ∧ K (I k (k.wrap (BitVec.ofInt k.bits a &&& ~~~ BitVec.ofInt k.bits b).toNat))
  | .eql => k = k' ∧ K (Bo (decide (a = b)))
  | .neq => k = k' ∧ K (Bo (!decide (a = b)))
  | .lss => k = k' ∧ K (Bo (decide (a < b)))
  | .leq => k = k' ∧ K (Bo (decide (a ≤ b)))
  | .gtr => k = k' ∧ K (Bo (decide (b < a)))
  | .geq => k = k' ∧ K (Bo (decide (b ≤ a)))

def vStr (op : BinOp) (a b : List UInt8) (K : T → Prop) : Prop :=
  match op with
  | .add => a.length + b.length ≤ maxLen ∧ K (S (a ++ b))
  | .eql => K (Bo (decide (a = b)))
  | .neq => K (Bo (!decide (a = b)))
  | .lss => K (Bo (Op.bytesLess a b))
  | .leq => K (Bo (Op.bytesLess a b || decide (a = b)))
  | .gtr => K (Bo (!(Op.bytesLess a b || decide (a = b))))
  | .geq => K (Bo (!Op.bytesLess a b))
  | _ => False

theorem run_guard (op : BinOp) (t : TypeId) (x y : Operand) {a b : Value} (w : World) (ha : a ≠ .nilIface) (hb : ∀ c, a ≠ .agg c) : (eqGuard op t x y a b).run P w = .ok () w := by
  unfold eqGuard
  cases op <;> cases a <;> first | rfl | (exact absurd rfl ha) | (exact absurd rfl (hb _))

theorem beq_int (a b : Int) : (a == b) = decide (a = b) := rfl
theorem bne_int (a b : Int) : (a != b) = !decide (a = b) := rfl

theorem vInt_run {op : BinOp} {k k' : IntKind} {a b : Int} {K : T → Prop} (ty : TypeId) (h : vInt op k k' a b K) :
    ∃ (t : T) (v : Value), K t ∧ (∀ M ν, t.rep M ν v) ∧ ∀ w, (binOp op ty (.int k a) (.int k' b)).run P w = .ok v w := by
  cases op <;> simp only [vInt] at h
  case shl => exact ⟨_, _, h.2, fun M ν => rep_int.2 rfl, fun w => by simp [binOp, Op.shift, Int.not_lt.2 h.1]⟩
  case shr => exact ⟨_, _, h.2, fun M ν => rep_int.2 rfl, fun w => by simp [binOp, Op.shift, Int.not_lt.2 h.1]⟩
  case quo => obtain ⟨rfl, h0, h⟩ := h; exact ⟨_, _, h, fun M ν => rep_int.2 rfl, fun w => by simp [binOp, Op.intDiv, h0]⟩
  case rem => obtain ⟨rfl, h0, h⟩ := h; exact ⟨_, _, h, fun M ν => rep_int.2 rfl, fun w => by simp [binOp, Op.intDiv, h0]⟩
  case add => obtain ⟨rfl, h⟩ := h; exact ⟨_, _, h, fun M ν => rep_int.2 rfl, fun w => by simp [binOp, Op.intArith]⟩
  case sub => obtain ⟨rfl, h⟩ := h; exact ⟨_, _, h, fun M ν => rep_int.2 rfl, fun w => by simp [binOp, Op.intArith]⟩
  case mul => obtain ⟨rfl, h⟩ := h; exact ⟨_, _, h, fun M ν => rep_int.2 rfl, fun w => by simp [binOp, Op.intArith]⟩
  case and => obtain ⟨rfl, h⟩ := h; exact ⟨_, _, h, fun M ν => rep_int.2 rfl, fun w => by simp only [binOp, Op.intBits, ne_eq, not_true_eq_false, if_false, Sem.run_pure]⟩
  case or => obtain ⟨rfl, h⟩ := h; exact ⟨_, _, h, fun M ν => rep_int.2 rfl, fun w => by simp only [binOp, Op.intBits, ne_eq, not_true_eq_false, if_false, Sem.run_pure]⟩
  case xor => obtain ⟨rfl, h⟩ := h; exact ⟨_, _, h, fun M ν => rep_int.2 rfl, fun w => by simp only [binOp, Op.intBits, ne_eq, not_true_eq_false, if_false, Sem.run_pure]⟩
  case andNot => obtain ⟨rfl, h⟩ := h; exact ⟨_, _, h, fun M ν => rep_int.2 rfl, fun w => by simp only [binOp, Op.intBits, ne_eq, not_true_eq_false, if_false, Sem.run_pure]⟩
  case eql => obtain ⟨rfl, h⟩ := h; exact ⟨_, _, h, fun M ν => rep_bool.2 rfl, fun w => by simp only [binOp, Op.intCmp, ne_eq, not_true_eq_false, if_false, Sem.run_pure, beq_int]⟩
  case neq => obtain ⟨rfl, h⟩ := h; exact ⟨_, _, h, fun M ν => rep_bool.2 rfl, fun w => by simp only [binOp, Op.intCmp, ne_eq, not_true_eq_false, if_false, Sem.run_pure, bne_int]⟩
  case lss => obtain ⟨rfl, h⟩ := h; exact ⟨_, _, h, fun M ν => rep_bool.2 rfl, fun w => by simp only [binOp, Op.intCmp, ne_eq, not_true_eq_false, if_false, Sem.run_pure]⟩
  case leq => obtain ⟨rfl, h⟩ := h; exact ⟨_, _, h, fun M ν => rep_bool.2 rfl, fun w => by simp only [binOp, Op.intCmp, ne_eq, not_true_eq_false, if_false, Sem.run_pure]⟩
  case gtr => obtain ⟨rfl, h⟩ := h; exact ⟨_, _, h, fun M ν => rep_bool.2 rfl, fun w => by simp only [binOp, Op.intCmp, ne_eq, not_true_eq_false, if_false, Sem.run_pure]⟩
  case geq => obtain ⟨rfl, h⟩ := h; exact ⟨_, _, h, fun M ν => rep_bool.2 rfl, fun w => by simp only [binOp, Op.intCmp, ne_eq, not_true_eq_false, if_false, Sem.run_pure]⟩

theorem size_mk (l : List UInt8) : (ByteArray.mk l.toArray).size = l.length := by simp [ByteArray.size]
theorem append_mk (a b : List UInt8) : (ByteArray.mk a.toArray) ++ (ByteArray.mk b.toArray) = ByteArray.mk (a ++ b).toArray := by
  apply ByteArray.ext
  simp [ByteArray.data_append]

theorem list_beq (a b : List UInt8) : (a == b) = decide (a = b) := by
  by_cases h : a = b <;> simp [h]

theorem vStr_run {op : BinOp} {a b : List UInt8} {K : T → Prop} (ty : TypeId) (h : vStr op a b K) :
    ∃ (t : T) (v : Value), K t ∧ (∀ M ν, t.rep M ν v) ∧ ∀ w, (binOp op ty (.string ⟨a.toArray⟩) (.string ⟨b.toArray⟩)).run P w = .ok v w := by
  cases op <;> simp only [vStr] at h <;> try exact h.elim
  case add =>
    refine ⟨_, _, h.2, fun M ν => rep_str.2 rfl, fun w => ?_⟩
    have h1 := h.1
    unfold maxLen at h1
    have : ¬ (((ByteArray.mk a.toArray).size + (ByteArray.mk b.toArray).size : Nat) : Int) > IntKind.i64.max := by
      rw [size_mk, size_mk]
      show ¬ _ > (2 ^ 63 - 1 : Int)
      omega
    simp only [binOp, Op.stringOp, this, if_false, Sem.run_pure, append_mk]
  case eql => exact ⟨_, _, h, fun M ν => rep_bool.2 rfl, fun w => by simp [binOp, Op.stringOp, list_beq]⟩
  case neq => exact ⟨_, _, h, fun M ν => rep_bool.2 rfl, fun w => by simp [binOp, Op.stringOp, list_beq]⟩
  case lss => exact ⟨_, _, h, fun M ν => rep_bool.2 rfl, fun w => by simp [binOp, Op.stringOp]⟩
  case leq => exact ⟨_, _, h, fun M ν => rep_bool.2 rfl, fun w => by simp [binOp, Op.stringOp, list_beq]⟩
  case gtr => exact ⟨_, _, h, fun M ν => rep_bool.2 rfl, fun w => by simp only [binOp, Op.stringOp, list_beq, ByteArray.toList_mk, Sem.run_pure]⟩
  case geq => exact ⟨_, _, h, fun M ν => rep_bool.2 rfl, fun w => by simp [binOp, Op.stringOp]⟩

/-! ### structs of plain cells, compared -/
/-- the kinds of the cells of a type that is compared cell by cell -/
def eqT (P : Program) : Nat → TypeId → Option (List Kd)
  | 0, _ => none
  | d + 1, t =>
    match P.underlying t with
    | some (.int k) => some [.int k]
    | some .bool => some [.bool]
    | some .string => some [.str]
    | _ => none

def vBin (P : Program) (op : BinOp) (ty : TypeId) (x y : Option T) (K : T → Prop) : Prop :=
  match x, y with
  | some (.one (.dat (.int k a))), some (.one (.dat (.int k' b))) => vInt op k k' a b K
  | some (.one (.dat (.str a))), some (.one (.dat (.str b))) => vStr op a b K
  | some (.one (.dat (.bool a))), some (.one (.dat (.bool b))) => match op with
    | .eql => kdT P ty = some .bool ∧ K (Bo (a == b))
    | .neq => kdT P ty = some .bool ∧ K (Bo (!(a == b)))
    | _ => False
  | _, _ => False

theorem kdT_bool {ty : TypeId} (h : kdT P ty = some .bool) : P.underlying ty = some .bool := by
  unfold kdT at h; split at h <;> first | assumption | cases h
theorem kdT_int {ty : TypeId} {k : IntKind} (h : kdT P ty = some (.int k)) : P.underlying ty = some (.int k) := by
  unfold kdT at h; split at h <;> first | (cases h; done) | (simp only [Option.some.injEq, Kd.int.injEq] at h; subst h; assumption)
theorem kdT_str {ty : TypeId} (h : kdT P ty = some .str) : P.underlying ty = some .string := by
  unfold kdT at h; split at h <;> first | assumption | cases h

theorem run_equalIn_bool (d : Nat) {ty : TypeId} (hu : P.underlying ty = some .bool) (a b : Bool) (w : World) : (Op.equalIn (d + 1) ty (.bool a) (.bool b)).run P w = .ok (a == b) w := by
  simp only [Op.equalIn, Sem.run_bind, run_underlying hu, Result.andThen_ok]
  rfl
theorem run_equalIn_int (d : Nat) {ty : TypeId} {k : IntKind} (hu : P.underlying ty = some (.int k)) (a b : Int) (w : World) : (Op.equalIn (d + 1) ty (.int k a) (.int k b)).run P w = .ok (a == b) w := by
  simp only [Op.equalIn, Sem.run_bind, run_underlying hu, Result.andThen_ok, if_true, Sem.run_pure]
theorem run_equalIn_str (d : Nat) {ty : TypeId} (hu : P.underlying ty = some .string) (a b : List UInt8) (w : World) : (Op.equalIn (d + 1) ty (.string ⟨a.toArray⟩) (.string ⟨b.toArray⟩)).run P w = .ok (decide (a = b)) w := by
  simp only [Op.equalIn, Sem.run_bind, run_underlying hu, Result.andThen_ok, Sem.run_pure, beq_toListBytes, ByteArray.toList_mk, list_beq]
theorem run_equal_bool {ty : TypeId} (hu : P.underlying ty = some .bool) (a b : Bool) (w : World) : (Op.equal ty (.bool a) (.bool b)).run P w = .ok (a == b) w := run_equalIn_bool 9999 hu a b w

theorem vBin_sound {op : BinOp} {ty : TypeId} {x y : Operand} {yt : TypeId} {env : Env} {B : Bx} {o : Oper} {K : T → Prop} (ho : o.op = .binOp op ty x y yt)
    (h : vBin P op ty (ev P env ty x) (ev P env yt y) K) : ∃ t, OpP P o env B t ∧ K t := by
  have hx : x ∈ o.op.operands := by rw [ho]; simp [Op.operands]
  have hy : y ∈ o.op.operands := by rw [ho]; simp [Op.operands]
  have hrun : ∀ (a : Act) (w : World), (execOp a.eval o).run P w = ((eqGuard op ty x y (a.eval x) (a.eval y)).run P w).andThen fun _ w => ((binOp op ty (a.eval x) (a.eval y)).run P w).andThen fun v w => .ok (.value v) w := by
    intro a w
    unfold execOp
    rw [ho]
    simp only [Sem.run_bind, Sem.run_pure]
    cases (eqGuard op ty x y (a.eval x) (a.eval y)).run P w <;> rfl
  unfold vBin at h
  split at h
  · rename_i k a k' b ex ey
    obtain ⟨t, v, hk, hrep, hr⟩ := vInt_run (P := P) ty h
    refine ⟨t, OpP.of_val fun κ M ν ac w B' hB he hs => ⟨v, ?_, hrep M ν⟩, hk⟩
    have e1 := rep_int.1 (ev_rep he hx ex)
    have e2 := rep_int.1 (ev_rep he hy ey)
    rw [hrun, run_guard op ty x y w (by rw [e1]; simp) (by intro c; rw [e1]; simp), e1, e2]
    simp only [Result.andThen_ok, hr]
  · rename_i a b ex ey
    obtain ⟨t, v, hk, hrep, hr⟩ := vStr_run (P := P) ty h
    refine ⟨t, OpP.of_val fun κ M ν ac w B' hB he hs => ⟨v, ?_, hrep M ν⟩, hk⟩
    have e1 := rep_str.1 (ev_rep he hx ex)
    have e2 := rep_str.1 (ev_rep he hy ey)
    rw [hrun, run_guard op ty x y w (by rw [e1]; simp) (by intro c; rw [e1]; simp), e1, e2]
    simp only [Result.andThen_ok, hr]
  · rename_i a b ex ey
    cases op <;> simp only [] at h <;> try exact h.elim
    all_goals
      refine ⟨_, OpP.of_val fun κ M ν ac w B' hB he hs => ⟨_, ?_, rep_bool.2 rfl⟩, h.2⟩
      have e1 := rep_bool.1 (ev_rep he hx ex)
      have e2 := rep_bool.1 (ev_rep he hy ey)
      rw [hrun, run_guard _ ty x y w (by rw [e1]; simp) (by intro c; rw [e1]; simp), e1, e2]
      have hu := kdT_bool h.1
      simp only [Result.andThen_ok, binOp, Sem.run_bind, run_equal_bool hu, Sem.run_pure]
  · exact h.elim

def vUn (op : UnOp) (x : Option T) (K : T → Prop) : Prop :=
  match op, x with
  | .neg, some (.one (.dat (.int k a))) => K (I k (k.wrap (0 - a)))
  | .not, some (.one (.dat (.bool a))) => K (Bo (!a))
  | _, _ => False

theorem vUn_sound {op : UnOp} {ty : TypeId} {x : Operand} {env : Env} {B : Bx} {o : Oper} {K : T → Prop} (ho : o.op = .unOp op ty x)
    (h : vUn op (ev P env ty x) K) : ∃ t, OpP P o env B t ∧ K t := by
  have hx : x ∈ o.op.operands := by rw [ho]; simp [Op.operands]
  unfold vUn at h
  split at h
  · rename_i k a ex
    refine ⟨_, OpP.of_val fun κ M ν ac w B' hB he hs => ⟨_, ?_, rep_int.2 rfl⟩, h⟩
    have e1 := rep_int.1 (ev_rep he hx ex)
    unfold execOp
    rw [ho]
    simp [e1, Op.unary, Op.intArith]
  · rename_i a ex
    refine ⟨_, OpP.of_val fun κ M ν ac w B' hB he hs => ⟨_, ?_, rep_bool.2 rfl⟩, h⟩
    have e1 := rep_bool.1 (ev_rep he hx ex)
    unfold execOp
    rw [ho]
    simp [e1, Op.unary]
  · exact h.elim

end Go.Sx
