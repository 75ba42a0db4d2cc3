/-
  The law TypeConstructors holds: the Go function returns true and leaves its arguments as they were. No conditions.
-/
import Derived.Test.YthbcdhfiibpeaaaGreatTc1
import Derived.Test.YthbcdhfiibpeaaaGreatRows
import Derived.JoinedCond
import Derived.Test.YthbcdhfiibpeaaaGreatTc6
import Derived.Test.YthbcdhfiibpeaaaGreatTc5
namespace Go.Proofs.YthbcdhfiibpeaaaGreat.typeConstructors
open Go.ChangeShapes Go.WideShapes Go.ChangeAt Go.RowKit
set_option linter.unusedVariables false
theorem own:ownKnob Tryz.prog.godebug=none:=by kernel_rfl
theorem walk:∀ us,Sx.b3O Tryz.prog Tryz.f8.params.toList us→Sx.PC Tryz.prog 8 us (Sx.Bo true):=by
  rintro us ⟨n1,r1,u1,rfl,h1,n2,r2,u2,rfl,h2,n3,r3,u3,rfl,h3,n4,r4,u4,rfl,h4,n5,r5,u5,rfl,h5,rfl⟩
  obtain⟨r1l,e1,_,hr1⟩:=Sx.b1C (enc:=Sx.a3q) (p:=Ivl.In6) (sz:=2) Tryz.underlying72 ag72 (by kernel_rfl) (fun n row h=>c0E h) h1
  obtain⟨c2,nl2,e2⟩:=b4m h2
  obtain⟨l3,e3,_,hl3⟩:=Sx.b1C (enc:=Sx.a0e) (p:=fun x=> -9223372036854775808≤x∧x≤9223372036854775807) (sz:=1) Tryz.underlying22 c7i (by kernel_rfl) (fun n row h=>Sx.a3U (n:=n) Tryz.underlying3 h) h3
  obtain⟨l4,e4,_,hl4⟩:=Sx.b1C (enc:=Sx.a0e) (p:=fun x=> -9223372036854775808≤x∧x≤9223372036854775807) (sz:=1) Tryz.underlying22 c7i (by kernel_rfl) (fun n row h=>Sx.a3U (n:=n) Tryz.underlying3 h) h4
  obtain⟨s5,e5,_⟩:=Sx.b9P Tryz.underlying9 ag9 h5
  rw[e1,Sx.c55 (n:=0) ag74,e2,e3,e4,e5]
  exact a8O r1l hr1 c2 nl2 l3 l4 hl3 hl4 s5
set_option maxRecDepth 100000 in
theorem lifted (os:Os) (started:os.Started) (H:Type) (enc:TypeId×Value→H):
  ReturnsInHanded {} Tryz.checked os 8 .any (Rows.typeConstructorsSpec.pre6 enc Tryz.prog Tryz.f8 Rows.typeConstructorsRow.domain false) (Rows.typeConstructorsSpec.post enc Tryz.prog Tryz.f8 false true false false):=by
 refine returnsInHanded_of_change (C:=Tryz.checked) own started (by kernel_rfl) Tryz.func8
  (ChangeSpec.witness6 (enc:=enc) (C:=Tryz.checked) false ⟨#[], #[.slice none 0 0, .agg #[.bool false, .slice none 0 0], .slice none 0 0, .slice none 0 0, .string ⟨#[]⟩],[]⟩ 8 (by kernel_rfl) (by kernel_rfl) (by kernel_rfl) (by kernel_rfl)) ?_
 intro W base args ds gs before hval0 hW hcnd _
 exact Sx.b56 (C:=Tryz.checked) (F:=8) (fn:=Tryz.f8) (s:=Rows.typeConstructorsSpec) (L:=[72,83,2,74,4,30,9,22,3]) (tb:=4) (by kernel_rfl) (by kernel_rfl) (by kernel_rfl) rfl rfl Tryz.underlying4
  (by
   intro ds h
   match ds,h with
   |[d1,d2,d3,d4,d5],_=>rfl) walk W (Sx.a5f.none _) base args ds gs before hval0 hW
theorem over:Rows.typeConstructorsRow.holds Tryz.pinned (OpenSpec.ofChange Rows.typeConstructorsSpec):=
 OpenClaim.holds_of_wide 8 Tryz.f8 rfl rfl rfl rfl rfl rfl rfl ⟨rfl,rfl,rfl,rfl,rfl⟩ rfl rfl rfl rfl rfl (by kernel_rfl) Tryz.func8 (by kernel_rfl)
  (of_decide_eq_true (by kernel_rfl)) (by unfold Func.isWrapper;first|(rw[if_pos (by decide+kernel)];kernel_rfl)|(rw[if_neg (by decide+kernel)];exact⟨rfl,rfl⟩))
  (fun os started H enc _=>lifted os started H enc)
theorem proved:Rows.TypeConstructorsSaid:=
  over
#print axioms proved
end Go.Proofs.YthbcdhfiibpeaaaGreat.typeConstructors

