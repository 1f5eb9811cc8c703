/-
words of the walks
-/
import Derived.Test.YtccebdpjdpjgnaaGreatDoorBC06
import Derived.Test.YtccebdpjdpjgnaaGreatDoorBC40
import Derived.Test.YtccebdpjdpjgnaaGreatDoorBC35
import Derived.Test.YtccebdpjdpjgnaaGreatDoorBC30
import Derived.Test.YtccebdpjdpjgnaaGreatDoorBC36
import Derived.Test.YtccebdpjdpjgnaaGreatDoorBC37
import Derived.Test.YtccebdpjdpjgnaaGreatDoorBC39
set_option linter.unusedVariables false
set_option linter.unusedSimpArgs false
namespace Go.Proofs.YtccebdpjdpjgnaaGreatDoor.P
open Go.RowKit Go.Proofs.YtccebdpjdpjgnaaGreatDoorW.PrintWords Go.Proofs.YtccebdpjdpjgnaaGreatDoorW.PrintLast Go.Proofs.YtccebdpjdpjgnaaGreatDoorW.PrintMore
attribute [local go_sem] max2_int min2_int max_two min_two max_three min_three max_four min_four
set_option linter.unusedVariables false
set_option linter.unusedSimpArgs false
attribute [local go_sem high] eqA38
def schismalaw12_MonzoFractions.f (k : Nat) (a0_0 : Int) (a0_1 : Int) (a0_2 : Int) (a0_3 : Int) (a0_4 : Int) : Option (Bool) := (schismalaw12_known.f k).bind fun t606 => (if t606 = true then ((schismalaw12_Make.f k a0_0 a0_1 a0_2 a0_3 a0_4).bind fun bt607 => ((schismalaw12_Value.f k bt607.1 bt607.2).bind fun bt613 => ((monzo_Fraction.f k bt607.1 bt607.2).bind fun bt615 => ((monzo_Text.f k bt607.1 bt607.2).bind fun bt619 => ((monzo_Of.f k bt607.1 bt615.1 bt615.2.1).bind fun bt621 => (if (bt615.1.toList == bt613.1.toList && (bt615.2.1.toList == bt613.2.toList)) = true then (if bt615.2.2 = 0 then ((fraction_Text.f bt615.1 bt615.2.1).bind fun t625 => (if bt619.1.toList = t625.toList then (if bt619.2 = 0 then ((schismalaw12_Same.f k bt607.2 bt621.1).bind fun t626 => (if t626 = true then (some (bt621.2 == 0)) else (some false))) else (some false)) else (some false))) else (some false)) else (some false))))))) else (some false))
theorem schismalaw12_MonzoFractions.mono : ∀ a0 a1 a2 a3 a4 k, LeO (schismalaw12_MonzoFractions.f k a0 a1 a2 a3 a4) (schismalaw12_MonzoFractions.f (k + 1) a0 a1 a2 a3 a4) := by
 intro a0 a1 a2 a3 a4 k
 unfold schismalaw12_MonzoFractions.f
 repeat' first
   | (with_reducible exact monzo_Fraction.mono _ _ _)
   | (with_reducible exact monzo_Of.mono _ _ _ _)
   | (with_reducible exact monzo_Text.mono _ _ _)
   | (with_reducible exact schismalaw12_Make.mono _ _ _ _ _ _)
   | (with_reducible exact schismalaw12_Same.mono _ _ _)
   | (with_reducible exact schismalaw12_Value.mono _ _ _)
   | (with_reducible exact schismalaw12_known.mono _)
   | (with_reducible exact LeO.refl _)
   | (with_reducible exact LeO.none _)
   | (with_reducible refine LeO.ite ?_ ?_)
   | (with_reducible refine LeO.bind ?_ (fun _ => ?_))
   | exact monzo_Fraction.mono _ _ _
   | exact monzo_Of.mono _ _ _ _
   | exact monzo_Text.mono _ _ _
   | exact schismalaw12_Make.mono _ _ _ _ _ _
   | exact schismalaw12_Same.mono _ _ _
   | exact schismalaw12_Value.mono _ _ _
   | exact schismalaw12_known.mono _
   | exact LeO.none _
   | refine LeO.ite ?_ ?_
   | refine LeO.bind ?_ (fun _ => ?_)
end Go.Proofs.YtccebdpjdpjgnaaGreatDoor.P
