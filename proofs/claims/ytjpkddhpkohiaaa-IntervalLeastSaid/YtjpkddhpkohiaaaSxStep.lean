/- A part of the proof: lemmas about the walk of the program and about plain integers and lists. No conditions beyond those that each lemma states. -/
import Derived.Test.YtjpkddhpkohiaaaSxVc
/-! One operation of a region at a time: what comes after stays folded up. -/
set_option linter.unusedVariables false
namespace Go.Sx
variable {P : Program}

def guardE (x : Option T) (want : Bool) (X Y : Prop) : Prop := match x with
  | some (.one (.dat (.bool b))) => bif b == want then X else Y
  | some .un => Y
  | _ => False
theorem guardT_none {all : List Oper} {env : Env} {o : Oper} {X Y : Prop} (hg : o.guard = none) (h : X) : guardT all env o X Y := by
  unfold guardT; rw [hg]; exact h
theorem guardT_some {all : List Oper} {env : Env} {o : Oper} {X Y : Prop} {j d : Nat} {want : Bool} (hg : o.guard = some (j, want)) (hd : (all[j]?).bind (·.dst) = some d)
    (h : guardE (env.lookup d) want X Y) : guardT all env o X Y := by
  unfold guardT; rw [hg]; simp only [hd, Option.bind_some]; exact h

theorem seqVC_nil {all : List Oper} {env : Env} {B : Bx} {K : Env → Bx → Prop} (h : K env B) : seqVC P all [] env B K := h
theorem seqVC_stepN {all os : List Oper} {o : Oper} {env : Env} {B : Bx} {K : Env → Bx → Prop} (hg : o.guard = none)
    (h : ∀ K' : Env → Bx → Prop, (∀ e b, seqVC P all os e b K → K' e b) → effVC P o env B (fun t B' => K' (putE env o.dst t) B')) : seqVC P all (o :: os) env B K :=
  guardT_none hg (h (fun e b => seqVC P all os e b K) fun _ _ q => q)
theorem seqVC_stepG {all os : List Oper} {o : Oper} {env : Env} {B : Bx} {K : Env → Bx → Prop} {j d : Nat} {want : Bool} (hg : o.guard = some (j, want)) (hd : (all[j]?).bind (·.dst) = some d)
    (h : ∀ K' : Env → Bx → Prop, (∀ e b, seqVC P all os e b K → K' e b) → guardE (env.lookup d) want (effVC P o env B (fun t B' => K' (putE env o.dst t) B')) (K' (putE env o.dst undefT) B)) : seqVC P all (o :: os) env B K :=
  guardT_some hg hd (h (fun e b => seqVC P all os e b K) fun _ _ q => q)

theorem parVC_nil {all : List Oper} {env : Env} {B : Bx} {K : Env → Prop} (h : K env) : parVC P all B [] env K := h
theorem parVC_stepN {all os : List Oper} {o : Oper} {env : Env} {B : Bx} {K : Env → Prop} (hg : o.guard = none)
    (h : ∀ K' : Env → Prop, (∀ e, parVC P all B os e K → K' e) → pureVC P o env B (fun t => K' (putE env o.dst t))) : parVC P all B (o :: os) env K :=
  guardT_none hg (h (fun e => parVC P all B os e K) fun _ q => q)
theorem parVC_stepG {all os : List Oper} {o : Oper} {env : Env} {B : Bx} {K : Env → Prop} {j d : Nat} {want : Bool} (hg : o.guard = some (j, want)) (hd : (all[j]?).bind (·.dst) = some d)
    (h : ∀ K' : Env → Prop, (∀ e, parVC P all B os e K → K' e) → guardE (env.lookup d) want (pureVC P o env B (fun t => K' (putE env o.dst t))) (K' (putE env o.dst undefT))) : parVC P all B (o :: os) env K :=
  guardT_some hg hd (h (fun e => parVC P all B os e K) fun _ q => q)

/-- one operation of a drawn region that turns boxes -/
def parOpVC (P : Program) (fixB : Bx) (o : Oper) (env : Env) (B : Bx) (K : T → Bx → Prop) : Prop :=
  match o.op with
  | .store t x y => match ptrName (ev P env 0 x) with
    | some k => notIn k fixB = true ∧ vStore P t (ev P env 0 x) (ev P env t y) B (fun B' => K undefT B')
    | none => False
  | _ => match effCall P o env with
    | some (g, us) => ∃ k res r res', PCBk P g us k res r res' ∧ B.lookup k = some res ∧ notIn k fixB = true ∧ K r (Bx.put k res' B)
    | none => pureVC P o env fixB fun t => K t B
theorem parEVC_nil {all : List Oper} {fixB : Bx} {env : Env} {B : Bx} {K : Env → Bx → Prop} (h : K env B) : parEVC P all fixB [] env B K := h
theorem parEVC_stepN {all os : List Oper} {fixB : Bx} {o : Oper} {env : Env} {B : Bx} {K : Env → Bx → Prop} (hg : o.guard = none)
    (h : ∀ K' : Env → Bx → Prop, (∀ e b, parEVC P all fixB os e b K → K' e b) → parOpVC P fixB o env B (fun t B' => K' (putE env o.dst t) B')) : parEVC P all fixB (o :: os) env B K :=
  guardT_none hg (h (fun e b => parEVC P all fixB os e b K) fun _ _ q => q)
theorem parEVC_stepG {all os : List Oper} {fixB : Bx} {o : Oper} {env : Env} {B : Bx} {K : Env → Bx → Prop} {j d : Nat} {want : Bool} (hg : o.guard = some (j, want)) (hd : (all[j]?).bind (·.dst) = some d)
    (h : ∀ K' : Env → Bx → Prop, (∀ e b, parEVC P all fixB os e b K → K' e b) → guardE (env.lookup d) want (parOpVC P fixB o env B (fun t B' => K' (putE env o.dst t) B')) (K' (putE env o.dst undefT) B)) : parEVC P all fixB (o :: os) env B K :=
  guardT_some hg hd (h (fun e b => parEVC P all fixB os e b K) fun _ _ q => q)
end Go.Sx
