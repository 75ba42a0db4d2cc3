/- Lemmas. -/
import Derived.Test.YtoelgackkclcmaaGreatPc10
import Derived.Test.YtoelgackkclcmaaGreatPc11
import Derived.Test.YtoelgackkclcmaaGreatPc23
import Derived.Test.YtoelgackkclcmaaGreatPc24
import Derived.Test.YtoelgackkclcmaaGreatPc35
set_option linter.unusedSimpArgs false
set_option linter.unusedVariables false
set_option maxRecDepth 20000
set_option maxHeartbeats 64000000
namespace Go.Proofs.YtoelgackkclcmaaGreat
open Go Go.Sx
theorem c7f (l:List NodeD) (r:Int) (x:NodeD):PC Tryz.prog 156 [Tt l r,Nt x] (Bo (a0F l x)):=by
  rcases c4H x.kind with hk|hk|hk|hk|hk|hk|hk|hk|hk|hk|hk|hk|hk|hk|hk|hk|hk|hk|hk|hk
  · exact c5O l r x hk
  · exact c5P l r x hk
  · exact c5L l r x hk
  · exact c5M l r x hk
  · exact c5Q l r x hk
  · exact c5N l r x hk
  · exact c5R l r x hk
  · exact c5S l r x hk
  · exact c5T l r x hk
  · exact c2x l r x hk
  · exact c2D l r x hk
  · exact c2y l r x hk
  · exact c4B l r x hk
  · exact c2z l r x hk
  · exact c2E l r x hk
  · exact c2A l r x hk
  · exact c2B l r x hk
  · exact c2C l r x hk
  · exact c2w l r x hk
  · exact c5U l r x hk
end Go.Proofs.YtoelgackkclcmaaGreat



