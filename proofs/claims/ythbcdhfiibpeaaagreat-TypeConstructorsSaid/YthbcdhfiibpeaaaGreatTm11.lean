/- Lemmas of the proof. -/
import Derived.Test.YthbcdhfiibpeaaaGreatTm7
import Derived.Test.YthbcdhfiibpeaaaGreatTm10
import Derived.Deep.RegionWith
set_option linter.unusedSimpArgs false
set_option linter.unusedVariables false
set_option maxRecDepth 20000
set_option maxHeartbeats 64000000
namespace Go.Proofs.YthbcdhfiibpeaaaGreat
open Go Go.Shelf Go.RowKit Go.Lib Go.Sort
theorem b79 (a:Int) (W:World):Calls Tryz.prog 145 #[.int .i64 a] W fun e w'=>e= .returned (.bool false)∧w'=W:=by
  go_enter Tryz.func145,Tryz.ntmps145
  go_wp2
  go_ret
  exact⟨rfl,rfl⟩
theorem b4r (a b:Int) (W:World):Calls Tryz.prog 116 #[.int .i64 a, .int .i64 b] W fun e w'=>e= .returned (.int .i64 (a3V a b))∧w'=W:=by
 have hcon:=fun a W'=>b79 a W'
 have hc:a3V a b=if a<b then -1 else if b<a then 1 else 0:=by
  unfold a3V
  by_cases h1:a<b
  ·simp[h1]
  ·by_cases h2:b<a<;>simp[h1,h2]
 rw[hc]
 go_enter Tryz.func116,Tryz.ntmps116
 go_wp2_with (go_at_call 145;refine(hcon _ _).mono ?_;rintro e w' ⟨rfl,rfl⟩)
 all_goals go_ret
 all_goals exact⟨rfl,rfl⟩
theorem c6s (x1 x2 y1 y2:Int) (W:World):Calls Tryz.prog 115 #[.agg #[.int .i64 x1, .int .i64 x2], .agg #[.int .i64 y1, .int .i64 y2]] W fun e w'=>e= .returned (.int .i64 (a3V x1 y1))∧∃ q os',w'=grow (W.drewN q) os':=by
  have hcon:=fun W'=>b4r x1 y1 W'
  generalize a3V x1 y1=r at hcon ⊢
  go_enter Tryz.func115,Tryz.ntmps115
  go_wp2_with (go_at_call 116;refine(hcon _).mono ?_;rintro e w' ⟨rfl,rfl⟩)
  go_ret
  exact⟨rfl,0,_,by rw[alloc_eq_grow,alloc_eq_grow,grow_grow];rfl⟩
end Go.Proofs.YthbcdhfiibpeaaaGreat

