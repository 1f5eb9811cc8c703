/-
monzo.Greater and monzo.Odd: plain functions, and that the calls give just these.
-/
import Derived.Test.YtccebdpjdpjgnaaGreatDoorBH32
set_option linter.unusedVariables false
set_option linter.unusedSimpArgs false
namespace Go.Proofs.YtccebdpjdpjgnaaGreatDoor.P
open Go.RowKit Go.Proofs.YtccebdpjdpjgnaaGreatDoorW.PrintWords Go.Proofs.YtccebdpjdpjgnaaGreatDoorW.PrintLast Go.Proofs.YtccebdpjdpjgnaaGreatDoorW.PrintMore
set_option linter.unusedVariables false
def monzo_Greater.f (k : Nat) (l0 l1 : List Int) : Option (ByteArray × Int) := heightOf (fun _ a b => monzo_greater.f a b) k l0 l1
theorem monzo_Greater.calls (k : Nat) (A0 : Option Addr) (c0 : Nat) (l0 : List Int) (A1 : Option Addr) (c1 : Nat) (l1 : List Int) (r1 : ByteArray) (r2 : Int) (w : World) (hT : TabW w) (hr0 : Kd.C (Kd.int .i64) w A0 l0.length l0) (hc0 : l0.length ≤ c0) (hr1 : Kd.C (Kd.int .i64) w A1 l1.length l1) (hc1 : l1.length ≤ c1) (h : monzo_Greater.f k l0 l1 = some (r1, r2)) :
  Calls Tryz.prog 42 #[.slice A0 l0.length c0, .slice A1 l1.length c1] w fun e w' => e = .returned (.tuple #[.string r1, .int .i64 r2]) ∧ Below w.heap.size w w' := by
 go_enter Tryz.func42, Tryz.ntmps42
 go_wp2_with fail
 refine (height_any (fun _ a b => monzo_greater.f a b) 112 (fun k a b r w _ h => monzo_greater.calls a b r w h) (enters_ Tryz.func112 rfl rfl) k _ _ l0 _ _ l1 r1 r2 _ hT hr0 hc0 hr1 hc1 h).mono ?_
 rintro e w1 ⟨rfl, hb1⟩
 go_wp2
 go_ret2
 exact ⟨rfl, by repeat (first | (with_reducible first | exact hb1 | apply below_alloc | apply pw_below_drewN | apply below_drew1) | exact hb1)⟩
def oddOf (k : Nat) (a b : ByteArray) : Option ByteArray := (monzo_exponent.f k a 2).bind fun x => (monzo_exponent.f k b 2).bind fun y => monzo_greater.f x.1 y.1
theorem oddOf.calls (k : Nat) (a b r : ByteArray) (w : World) (hT : TabW w) (h : oddOf k a b = some r) : Calls Tryz.prog 120 #[.string a, .string b] w fun e w' => e = .returned (.string r) ∧ Below w.heap.size w w' := by
 unfold oddOf at h
 obtain ⟨⟨x1, x2⟩, h1, h⟩ := Option.bind_eq_some_iff.mp h
 obtain ⟨⟨y1, y2⟩, h2, h⟩ := Option.bind_eq_some_iff.mp h
 dsimp only at h
 go_enter Tryz.func120, Tryz.ntmps120
 go_wp2_with fail
 refine (monzo_exponent.calls k a 2 x1 x2 _ hT h1).mono ?_
 rintro e w1 ⟨rfl, hb1⟩
 go_wp2_with fail
 refine (monzo_exponent.calls k b 2 y1 y2 _ (TabW.below hT hb1) h2).mono ?_
 rintro e w2 ⟨rfl, hb2⟩
 have hb12 := below_then hb1 hb1.size hb2
 go_wp2_with fail
 refine (monzo_greater.calls x1 y1 r _ h).mono ?_
 rintro e w3 ⟨rfl, hb3⟩
 have hb123 := below_then hb12 hb12.size hb3
 go_wp2
 go_ret
 exact ⟨rfl, by repeat (first | (with_reducible first | exact hb123 | apply below_alloc | apply pw_below_drewN | apply below_drew1) | exact hb123)⟩
def monzo_Odd.f (k : Nat) (l0 l1 : List Int) : Option (ByteArray × Int) := heightOf oddOf k l0 l1
theorem monzo_Odd.calls (k : Nat) (A0 : Option Addr) (c0 : Nat) (l0 : List Int) (A1 : Option Addr) (c1 : Nat) (l1 : List Int) (r1 : ByteArray) (r2 : Int) (w : World) (hT : TabW w) (hr0 : Kd.C (Kd.int .i64) w A0 l0.length l0) (hc0 : l0.length ≤ c0) (hr1 : Kd.C (Kd.int .i64) w A1 l1.length l1) (hc1 : l1.length ≤ c1) (h : monzo_Odd.f k l0 l1 = some (r1, r2)) :
  Calls Tryz.prog 53 #[.slice A0 l0.length c0, .slice A1 l1.length c1] w fun e w' => e = .returned (.tuple #[.string r1, .int .i64 r2]) ∧ Below w.heap.size w w' := by
 go_enter Tryz.func53, Tryz.ntmps53
 go_wp2_with fail
 refine (height_any oddOf 120 (fun k a b r w => oddOf.calls k a b r w) (enters_ Tryz.func120 rfl rfl) k _ _ l0 _ _ l1 r1 r2 _ hT hr0 hc0 hr1 hc1 h).mono ?_
 rintro e w1 ⟨rfl, hb1⟩
 go_wp2
 go_ret2
 exact ⟨rfl, by repeat (first | (with_reducible first | exact hb1 | apply below_alloc | apply pw_below_drewN | apply below_drew1) | exact hb1)⟩
end Go.Proofs.YtccebdpjdpjgnaaGreatDoor.P
