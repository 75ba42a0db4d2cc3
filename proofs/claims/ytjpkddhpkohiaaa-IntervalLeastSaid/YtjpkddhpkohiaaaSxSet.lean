/- A part of the proof: lemmas about the walk of the program and about plain integers and lists. No conditions beyond those that each lemma states. -/
import Derived.Test.YtjpkddhpkohiaaaSxTail
/-! The walk's own rules of rewriting. -/
namespace Go.Sx
attribute [go_sem] parOpVC guardE effVC pureVC vMove vPick vInt vStr vBin vUn vLoad vFieldAddr vIndexAddr vIndex vField vExtract vSlice vNil vConv vBuild vParts vBuildSlice vRows vLen vMinMax vCall vAlloc vBox vStore vAppend
attribute [go_sem] ev evs constT softO C.soft Cell.soft T.soft T.softs calleeT cutC mkAgg pureCs toCells lenIs bnd srcRows undefT putE Bx.put Bx.drop retTs retT envOf effCall notIn ptrName Bx.drop
attribute [go_sem] vBinE vCallE vCallZ vCallZ0 vFr ownIn ownCell T.frOk T.frOks Cell.frOk Cell.frOks T.fr T.frs Cell.fr Cell.frs lowN T.anyPtr T.hasPtr capsPtr Env.fresh Bx.fresh T.fresh T.freshs Cell.fresh Cell.freshs dstN Then InBlock RetQ ev0
attribute [go_sem] List.lookup_cons List.lookup_nil List.headD_cons List.tail_cons cond_true cond_false Option.bind_some Option.map_some Option.map_none List.map_cons List.map_nil
attribute [go_sem] List.toList_toArray Option.getD_some Option.getD_none beq_true beq_false Bool.and_true Bool.true_and Bool.not_true Bool.not_false Bool.or_false Bool.false_or Bool.or_true Bool.true_or Bool.and_false Bool.false_and
attribute [go_sem] List.getElem?_cons_zero List.getElem?_cons_succ List.cons_append List.nil_append List.append_nil Bool.not_not
attribute [go_sem] if_true if_false true_and and_true true_imp_iff false_imp_iff eq_self Int.toNat_zero Int.toNat_one Int.toNat_natCast Option.some.injEq exists_eq_left exists_eq_left' List.length_cons List.length_nil Int.cast_ofNat_Int Int.natCast_zero Int.natCast_one decide_true decide_false Nat.zero_add Nat.add_zero
@[go_sem] theorem takeT_agg (n : Nat) (cs : List Cell) (K : T → Prop) : takeT true n cs K = (match cutC n cs with
    | some (x, _) => K (mkAgg x)
    | none => False) := rfl
@[go_sem] theorem takeT_one (n : Nat) (c : Cell) (cs : List Cell) (K : T → Prop) : takeT false n (c :: cs) K = K (.one c) := rfl
@[go_sem] theorem takeP_agg (n : Nat) (cs : List C) (K : T → Prop) : takeP true n cs K = (match cutC n cs with
    | some (x, _) => K (.st x)
    | none => False) := rfl
@[go_sem] theorem takeP_one (n : Nat) (c : C) (cs : List C) (K : T → Prop) : takeP false n (c :: cs) K = K (.one (.dat c)) := rfl
theorem guard_c (b : Bool) (X Y : Prop) : (bif b then X else Y) ↔ ((b = true → X) ∧ (b = false → Y)) := by cases b <;> simp
attribute [go_sem low] guard_c
end Go.Sx
