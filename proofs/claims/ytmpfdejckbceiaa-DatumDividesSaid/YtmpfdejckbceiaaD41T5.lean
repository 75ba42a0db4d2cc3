/- A part of the proof: lemmas about the walk of the program (module D41.T5 of the prover). No conditions beyond those that each lemma states. -/
import Derived.Test.YtmpfdejckbceiaaD41T5b00
import Derived.Test.YtmpfdejckbceiaaD41T5b01
import Derived.Test.YtmpfdejckbceiaaD41T5b10
import Derived.Test.YtmpfdejckbceiaaD41T5b11
set_option linter.unusedSimpArgs false
set_option linter.unusedVariables false
set_option maxRecDepth 20000
namespace Go.Proofs.Ytmpfdejckbceiaa
open Go Go.Sx

theorem divides_b (a b q r c : Int) (sum bA bR bN bZ : Bool) (B : Int) (hq : intRes [100, 105, 118] a b = (intDat q, [])) (hr : intRes [114, 101, 109] a b = (intDat r, []))
    (h0 : decide (b = 0) = false) (hA : decide (a = -9223372036854775808) = bA) (hB1 : bA = true → decide (b = -1) = false) (hR : decide (r = 0) = bR) (hN : decide (b = -9223372036854775808) = bN) (hZ : decide (0 ≤ b) = bZ) (hZ' : decide (b < 0) = !bZ)
    (e1 : IntKind.i64.wrap (IntKind.i64.wrap (q * b) + r) = a) (hs : bR = false → (decide (r < 0) == decide (a < 0)) = true) (hB : (if b < 0 then IntKind.i64.wrap (0 - b) else b) = B)
    (hab1 : bN = false → decide (B ≤ r) = false) (hab2 : bN = false → decide (r ≤ IntKind.i64.wrap (0 - B)) = false)
    (hc : (intRes [43] a b).1.num = c) (hi : isInt (intRes [43] a b) = sum) (hsub : sum = true → intRes [45] c b = (intDat a, []))
    (hF1 : bZ = true → decide (a ≤ IntKind.i64.wrap (9223372036854775807 - if 0 > b then 0 else b)) = sum) (hF2 : bZ = false → decide (IntKind.i64.wrap (-9223372036854775808 - if 0 < b then 0 else b) ≤ a) = sum) :
    PC Try.prog 4 [I .i64 a, I .i64 b] (Bo true) := by
  cases bA <;> cases bR
  · exact divides_b00 a b q r c sum bN bZ B hq hr h0 hA hB1 hR hN hZ hZ' e1 hs hB hab1 hab2 hc hi hsub hF1 hF2
  · exact divides_b01 a b q r c sum bN bZ B hq hr h0 hA hB1 hR hN hZ hZ' e1 hs hB hab1 hab2 hc hi hsub hF1 hF2
  · exact divides_b10 a b q r c sum bN bZ B hq hr h0 hA hB1 hR hN hZ hZ' e1 hs hB hab1 hab2 hc hi hsub hF1 hF2
  · exact divides_b11 a b q r c sum bN bZ B hq hr h0 hA hB1 hR hN hZ hZ' e1 hs hB hab1 hab2 hc hi hsub hF1 hF2
end Go.Proofs.Ytmpfdejckbceiaa
