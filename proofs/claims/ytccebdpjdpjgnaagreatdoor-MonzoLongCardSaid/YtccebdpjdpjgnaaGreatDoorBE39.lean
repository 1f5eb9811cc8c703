/-
monzo.Greater and monzo.Odd: plain functions, and that the calls give just these.
-/
import Derived.Test.YtccebdpjdpjgnaaGreatDoorBE32
import Derived.Test.YtccebdpjdpjgnaaGreatDoorBE30
set_option linter.unusedVariables false
set_option linter.unusedSimpArgs false
namespace Go.Proofs.YtccebdpjdpjgnaaGreatDoor.P
open Go.RowKit Go.Proofs.YtccebdpjdpjgnaaGreatDoorW.PrintWords Go.Proofs.YtccebdpjdpjgnaaGreatDoorW.PrintLast Go.Proofs.YtccebdpjdpjgnaaGreatDoorW.PrintMore
set_option linter.unusedVariables false
def monzo_Greater.f (k : Nat) (l0 l1 : List Int) : Option (ByteArray × Int) := heightOf (fun _ a b => monzo_greater.f a b) k l0 l1
theorem monzo_Greater.calls (k : Nat) (A0 : Option Addr) (c0 : Nat) (l0 : List Int) (A1 : Option Addr) (c1 : Nat) (l1 : List Int) (r1 : ByteArray) (r2 : Int) (w : World) (hT : TabW w) (hr0 : Kd.C (Kd.int .i64) w A0 l0.length l0) (hc0 : l0.length ≤ c0) (hr1 : Kd.C (Kd.int .i64) w A1 l1.length l1) (hc1 : l1.length ≤ c1) (h : monzo_Greater.f k l0 l1 = some (r1, r2)) :
  Calls Tryz.prog 42 #[.slice A0 l0.length c0, .slice A1 l1.length c1] w fun e w' => e = .returned (.tuple #[.string r1, .int .i64 r2]) ∧ Below w.heap.size w w' := by
 go_enter Tryz.func42, Tryz.ntmps42
 go_wp2_with fail
 refine (height_any (fun _ a b => monzo_greater.f a b) 112 (fun k a b r w _ h => monzo_greater.calls a b r w h) (enters_ Tryz.func112 rfl rfl) k _ _ l0 _ _ l1 r1 r2 _ hT hr0 hc0 hr1 hc1 h).mono ?_
 rintro e w1 ⟨rfl, hb1⟩
 go_wp2
 go_ret2
 exact ⟨rfl, by repeat (first | (with_reducible first | exact hb1 | apply below_alloc | apply pw_below_drewN | apply below_drew1) | exact hb1)⟩
end Go.Proofs.YtccebdpjdpjgnaaGreatDoor.P
