/-
  The law PatternAccepts holds: the Go function returns true and leaves its arguments as they were. No conditions.
-/
import Derived.Test.YtoelgackkclcmaaGreatPc54
import Derived.Test.YtoelgackkclcmaaGreatRows
import Derived.JoinedCond
namespace Go.Proofs.YtoelgackkclcmaaGreat.patternAccepts
open Go.ChangeShapes Go.WideShapes Go.ChangeAt Go.RowKit
set_option linter.unusedVariables false
theorem own:ownKnob Tryz.prog.godebug=none:=by kernel_rfl
theorem c8P {n:Nat} {row:List Sx.C} (h:Sx.b0W Tryz.prog n 5 row):∃ m,Sx.c5d Tryz.prog 5 row=Sx.I .u8 m∧0≤m∧m≤255:=by
 cases n with
 |zero=>exact h.elim
 |succ n=>
  simp only[Sx.b0W,Tryz.underlying5] at h
  obtain⟨m,rfl,hw⟩:=h
  simp only[Lit.wf,zag,zan] at hw
  exact⟨m,by simp only[Sx.c5d,ag5];rfl,hw.1,hw.2⟩
theorem walk:∀ us,Sx.b7k Tryz.prog Tryz.f3.params.toList us→Sx.PC Tryz.prog 3 us (Sx.Bo true):=by
  rintro us ⟨n1,r1,u1,rfl,h1,n2,r2,u2,rfl,h2,n3,r3,u3,rfl,h3,n4,r4,u4,rfl,h4,rfl⟩
  obtain⟨l1,e1,_,q⟩:=Sx.c0e (enc:=Sx.a0h) (p:=fun x=> -9223372036854775808≤x∧x≤9223372036854775807) (sz:=1) Tryz.underlying22 d01 (by kernel_rfl) (fun n row h=>Sx.b0Y (n:=n) Tryz.underlying3 h) h1
  obtain⟨l2,e2,_,aa⟩:=Sx.c0e (enc:=Sx.a0h) (p:=fun x=> -9223372036854775808≤x∧x≤9223372036854775807) (sz:=1) Tryz.underlying22 d01 (by kernel_rfl) (fun n row h=>Sx.b0Y (n:=n) Tryz.underlying3 h) h2
  obtain⟨l3,e3,_,ab⟩:=Sx.c0e (enc:=Sx.a0h) (p:=fun x=> -9223372036854775808≤x∧x≤9223372036854775807) (sz:=1) Tryz.underlying22 d01 (by kernel_rfl) (fun n row h=>Sx.b0Y (n:=n) Tryz.underlying3 h) h3
  obtain⟨u,e4,hu⟩:=c8P h4
  rw[e1,e2,e3,e4]
  exact b6S l1 l2 l3 q aa ab u hu
set_option maxRecDepth 100000 in
theorem c8Q (os:Os) (q:os.Started) (H:Type) (enc:TypeId×Value→H):
  ReturnsInHanded {} Tryz.checked os 3 .any (Rows.patternAcceptsSpec.pre6 enc Tryz.prog Tryz.f3 Rows.patternAcceptsRow.domain false) (Rows.patternAcceptsSpec.post enc Tryz.prog Tryz.f3 false true false false):=by
 refine returnsInHanded_of_change (C:=Tryz.checked) own q (by kernel_rfl) Tryz.func3
  (ChangeSpec.witness6 (enc:=enc) (C:=Tryz.checked) false ⟨#[], #[.slice none 0 0, .slice none 0 0, .slice none 0 0, .int .u8 0],[]⟩ 8 (by kernel_rfl) (by kernel_rfl) (by kernel_rfl) (by kernel_rfl)) ?_
 intro W base args ds gs before u hW aa _
 exact Sx.c20 (C:=Tryz.checked) (F:=3) (fn:=Tryz.f3) (s:=Rows.patternAcceptsSpec) (L:=[22,3,2,5,4]) (tb:=4) (by kernel_rfl) (by kernel_rfl) (by kernel_rfl) rfl rfl Tryz.underlying4
  (by
   intro ds h
   match ds,h with
   |[d1,d2,d3,d4],_=>rfl) walk W (Sx.a6A.none _) base args ds gs before u hW
theorem over:Rows.patternAcceptsRow.holds Tryz.pinned (OpenSpec.ofChange Rows.patternAcceptsSpec):=
 OpenClaim.holds_of_wide 3 Tryz.f3 rfl rfl rfl rfl rfl rfl rfl ⟨rfl,rfl,rfl,rfl,rfl⟩ rfl rfl rfl rfl rfl (by kernel_rfl) Tryz.func3 (by kernel_rfl)
  (of_decide_eq_true (by kernel_rfl)) (by unfold Func.isWrapper;first|(rw[zaz (by decide+kernel)];kernel_rfl)|(rw[za5 (by decide+kernel)];exact⟨rfl,rfl⟩))
  (fun os q H enc _=>c8Q os q H enc)
theorem proved:Rows.PatternAcceptsSaid:=
  over
#print axioms proved
end Go.Proofs.YtoelgackkclcmaaGreat.patternAccepts

