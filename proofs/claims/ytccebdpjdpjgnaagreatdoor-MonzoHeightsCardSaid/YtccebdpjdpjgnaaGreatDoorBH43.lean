/-
Plain law: MonzoOrders.
-/
import Derived.Test.YtccebdpjdpjgnaaGreatDoorBH39
import Derived.Test.YtccebdpjdpjgnaaGreatDoorBH42
set_option linter.unusedVariables false
set_option linter.unusedSimpArgs false
namespace Go.Proofs.YtccebdpjdpjgnaaGreatDoor.Q
open Go.Lib hiding bytesOf bytesOf_length
open Go Go.RowKit Sch Go.Proofs.YtccebdpjdpjgnaaGreatDoor.P Go.Proofs.YtccebdpjdpjgnaaGreatDoorW.PrintWords Go.Proofs.YtccebdpjdpjgnaaGreatDoorW.PrintLast Go.Proofs.YtccebdpjdpjgnaaGreatDoorW.PrintMore
set_option linter.unusedVariables false
set_option linter.unusedSimpArgs false
theorem wcompare_ns (a b : Nat) (ha : nDigits a ≤ 100000) (hb : nDigits b ≤ 100000) : whole_Compare.f (ns a) (ns b) = some (cmpI (a : Int) b) := by
 rw [← zs_nat, ← zs_nat]
 exact wcompare_zs a b (by simpa using ha) (by simpa using hb)
end Go.Proofs.YtccebdpjdpjgnaaGreatDoor.Q
