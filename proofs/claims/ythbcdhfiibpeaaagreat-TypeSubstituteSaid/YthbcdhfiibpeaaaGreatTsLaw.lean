/-
  The law TypeSubstitute holds: the Go function returns true and leaves its arguments as they were. No conditions.
-/
import Derived.Test.YthbcdhfiibpeaaaGreatTs1
import Derived.Test.YthbcdhfiibpeaaaGreatRows
import Derived.JoinedCond
import Derived.Test.YthbcdhfiibpeaaaGreatTs3
namespace Go.Proofs.YthbcdhfiibpeaaaGreat.typeSubstitute
open Go.ChangeShapes Go.WideShapes Go.ChangeAt Go.RowKit
set_option linter.unusedVariables false
theorem own:ownKnob Tryz.prog.godebug=none:=by kernel_rfl
theorem walk:∀ us,Sx.b3O Tryz.prog Tryz.f7.params.toList us→Sx.PC Tryz.prog 7 us (Sx.Bo true):=by
  rintro us ⟨n1,r1,u1,rfl,h1,n2,r2,u2,rfl,h2,n3,r3,u3,rfl,h3,n4,r4,u4,rfl,h4,rfl⟩
  obtain⟨l1,e1,_,hl1⟩:=Sx.b1C (enc:=Sx.a0e) (p:=fun x=> -9223372036854775808≤x∧x≤9223372036854775807) (sz:=1) Tryz.underlying22 c7i (by kernel_rfl) (fun n row h=>Sx.a3U (n:=n) Tryz.underlying3 h) h1
  obtain⟨l2,e2,_,hl2⟩:=Sx.b1C (enc:=Sx.a0e) (p:=fun x=> -9223372036854775808≤x∧x≤9223372036854775807) (sz:=1) Tryz.underlying22 c7i (by kernel_rfl) (fun n row h=>Sx.a3U (n:=n) Tryz.underlying3 h) h2
  obtain⟨l3,e3,_,hl3⟩:=Sx.b1C (enc:=Sx.a0e) (p:=fun x=> -9223372036854775808≤x∧x≤9223372036854775807) (sz:=1) Tryz.underlying22 c7i (by kernel_rfl) (fun n row h=>Sx.a3U (n:=n) Tryz.underlying3 h) h3
  obtain⟨s4,e4,_⟩:=Sx.b9P Tryz.underlying9 ag9 h4
  rw[e1,e2,e3,e4]
  exact b0P l1 l2 l3 hl1 hl2 hl3 s4
set_option maxRecDepth 100000 in
theorem lifted (os:Os) (started:os.Started) (H:Type) (enc:TypeId×Value→H):
  ReturnsInHanded {} Tryz.checked os 7 .any (Rows.typeSubstituteSpec.pre6 enc Tryz.prog Tryz.f7 Rows.typeSubstituteRow.domain false) (Rows.typeSubstituteSpec.post enc Tryz.prog Tryz.f7 false true false false):=by
 refine returnsInHanded_of_change (C:=Tryz.checked) own started (by kernel_rfl) Tryz.func7
  (ChangeSpec.witness6 (enc:=enc) (C:=Tryz.checked) false ⟨#[], #[.slice none 0 0, .slice none 0 0, .slice none 0 0, .string ⟨#[]⟩],[]⟩ 8 (by kernel_rfl) (by kernel_rfl) (by kernel_rfl) (by kernel_rfl)) ?_
 intro W base args ds gs before hval0 hW hcnd _
 exact Sx.b56 (C:=Tryz.checked) (F:=7) (fn:=Tryz.f7) (s:=Rows.typeSubstituteSpec) (L:=[22,3,2,9,4]) (tb:=4) (by kernel_rfl) (by kernel_rfl) (by kernel_rfl) rfl rfl Tryz.underlying4
  (by
   intro ds h
   match ds,h with
   |[d1,d2,d3,d4],_=>rfl) walk W (Sx.a5f.none _) base args ds gs before hval0 hW
theorem over:Rows.typeSubstituteRow.holds Tryz.pinned (OpenSpec.ofChange Rows.typeSubstituteSpec):=
 OpenClaim.holds_of_wide 7 Tryz.f7 rfl rfl rfl rfl rfl rfl rfl ⟨rfl,rfl,rfl,rfl,rfl⟩ rfl rfl rfl rfl rfl (by kernel_rfl) Tryz.func7 (by kernel_rfl)
  (of_decide_eq_true (by kernel_rfl)) (by unfold Func.isWrapper;first|(rw[if_pos (by decide+kernel)];kernel_rfl)|(rw[if_neg (by decide+kernel)];exact⟨rfl,rfl⟩))
  (fun os started H enc _=>lifted os started H enc)
theorem proved:Rows.TypeSubstituteSaid:=
  over
#print axioms proved
end Go.Proofs.YthbcdhfiibpeaaaGreat.typeSubstitute

