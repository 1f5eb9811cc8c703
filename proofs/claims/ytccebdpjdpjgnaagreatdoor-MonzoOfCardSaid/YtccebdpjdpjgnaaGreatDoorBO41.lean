/-
parts of the walks and of the plain laws: Pschismalaw12Make Pschismalaw12MonzoChecks PEq0 Pschismalaw12MonzoFractions
-/
import Derived.Test.YtccebdpjdpjgnaaGreatDoorBO06
import Derived.Test.YtccebdpjdpjgnaaGreatDoorBO40
import Derived.Test.YtccebdpjdpjgnaaGreatDoorBO39
import Derived.Test.YtccebdpjdpjgnaaGreatDoorBO29
import Derived.Test.YtccebdpjdpjgnaaGreatDoorBO28
import Derived.Test.YtccebdpjdpjgnaaGreatDoorBO35
import Derived.Test.YtccebdpjdpjgnaaGreatDoorBO30
import Derived.Test.YtccebdpjdpjgnaaGreatDoorBO36
import Derived.Test.YtccebdpjdpjgnaaGreatDoorBO37
set_option linter.unusedVariables false
set_option linter.unusedSimpArgs false
section
namespace Go.Proofs.YtccebdpjdpjgnaaGreatDoor.P
open Go.RowKit Go.Proofs.YtccebdpjdpjgnaaGreatDoorW.PrintWords Go.Proofs.YtccebdpjdpjgnaaGreatDoorW.PrintLast Go.Proofs.YtccebdpjdpjgnaaGreatDoorW.PrintMore
attribute [local go_sem] max2_int min2_int max_two min_two max_three min_three max_four min_four
def schismalaw12_Make.f (k : Nat) (a0_0 : Int) (a0_1 : Int) (a0_2 : Int) (a0_3 : Int) (a0_4 : Int) : Option (List Int × List Int) := (schismalaw12_Primes.f a0_0).bind fun t580 => ((schismalaw12_Interval.f k t580 a0_1 a0_2 a0_3 a0_4).bind fun t583 => (some (t580, t583)))
theorem schismalaw12_Make.mono : ∀ a0 a1 a2 a3 a4 k, LeO (schismalaw12_Make.f k a0 a1 a2 a3 a4) (schismalaw12_Make.f (k + 1) a0 a1 a2 a3 a4) := by
 intro a0 a1 a2 a3 a4 k
 unfold schismalaw12_Make.f
 repeat' first
   | (with_reducible exact schismalaw12_Interval.mono _ _ _ _ _ _)
   | (with_reducible exact LeO.refl _)
   | (with_reducible exact LeO.none _)
   | (with_reducible refine LeO.ite ?_ ?_)
   | (with_reducible refine LeO.bind ?_ (fun _ => ?_))
   | exact schismalaw12_Interval.mono _ _ _ _ _ _
   | exact LeO.none _
   | refine LeO.ite ?_ ?_
   | refine LeO.bind ?_ (fun _ => ?_)
end Go.Proofs.YtccebdpjdpjgnaaGreatDoor.P
end
section
namespace Go.Proofs.YtccebdpjdpjgnaaGreatDoor.P
open Go.RowKit Go.Proofs.YtccebdpjdpjgnaaGreatDoorW.PrintWords Go.Proofs.YtccebdpjdpjgnaaGreatDoorW.PrintLast Go.Proofs.YtccebdpjdpjgnaaGreatDoorW.PrintMore
attribute [local go_sem] max2_int min2_int max_two min_two max_three min_three max_four min_four
mutual
def schismalaw12_MonzoChecks.j0 : Nat → List Int → List Int → List Int → Bool → Option (Bool)
 | 0, _, _, _, _ => none
 | k + 1, x0, x1, x2, x25 => if x25 = true then ((schismalaw12_known.f k).bind fun t500 => (some t500)) else ((schismalaw12_check.f k x0 x1).bind fun t501 => (if t501 = 0 then ((schismalaw12_check.f k x0 x2).bind fun t502 => (schismalaw12_MonzoChecks.j1 k x0 x1 x2 t501 t502)) else (schismalaw12_MonzoChecks.j1 k x0 x1 x2 t501 t501)))
def schismalaw12_MonzoChecks.j1 : Nat → List Int → List Int → List Int → Int → Int → Option (Bool)
 | 0, _, _, _, _, _ => none
 | k + 1, x0, x1, x2, x7, x8 => (monzo_Brackets.f k x0 x1).bind fun bt503 => (if x7 = 0 then (schismalaw12_MonzoChecks.j2 k x0 x1 x2 x7 x8 bt503.1 bt503.2 false) else (if bt503.1.toList = ([] : List UInt8) then (schismalaw12_MonzoChecks.j2 k x0 x1 x2 x7 x8 bt503.1 bt503.2 (bt503.2 != x7)) else (schismalaw12_MonzoChecks.j2 k x0 x1 x2 x7 x8 bt503.1 bt503.2 true)))
def schismalaw12_MonzoChecks.j2 : Nat → List Int → List Int → List Int → Int → Int → ByteArray → Int → Bool → Option (Bool)
 | 0, _, _, _, _, _, _, _, _ => none
 | k + 1, x0, x1, x2, x7, x8, x9, x10, x52 => if x52 = true then (some false) else (if x7 = 0 then ((row_Text.f k x1 true).bind fun bt505 => (if x9.toList = bt505.1.toList then (if x10 = 0 then (if bt505.2 = 0 then (schismalaw12_MonzoChecks.j3 k x0 x1 x2 x7 x8) else (some false)) else (some false)) else (some false))) else (schismalaw12_MonzoChecks.j3 k x0 x1 x2 x7 x8))
def schismalaw12_MonzoChecks.j3 : Nat → List Int → List Int → List Int → Int → Int → Option (Bool)
 | 0, _, _, _, _, _ => none
 | k + 1, x0, x1, x2, x7, x8 => (monzo_Check.f k x0 x1).bind fun t507 => (if t507 = x7 then ((monzo_CheckAll.f k x0 (([x1, x2] : List (List Int)))).bind fun t511 => (if t511 = x8 then ((monzo_CheckAll.f k x0 ([] : List (List Int))).bind fun t512 => ((prime_Check.f k x0).bind fun t513 => (some (t512 == t513)))) else (some false))) else (some false))
end
def schismalaw12_MonzoChecks.f (k : Nat) (l0 : List Int) (l1 : List Int) (l2 : List Int) : Option (Bool) := (schismalaw12_known.f k).bind fun t498 => (if t498 = true then ((schismalaw12_few.f l0 l1).bind fun t499 => (if t499 = true then (schismalaw12_MonzoChecks.j0 k l0 l1 l2 (decide ((l2.length : Int) > 8))) else (schismalaw12_MonzoChecks.j0 k l0 l1 l2 true))) else (schismalaw12_MonzoChecks.j0 k l0 l1 l2 true))
theorem schismalaw12_MonzoChecks.mono_l : ∀ k, (∀ y0 y1 y2 y3, LeO (schismalaw12_MonzoChecks.j0 k y0 y1 y2 y3) (schismalaw12_MonzoChecks.j0 (k + 1) y0 y1 y2 y3)) ∧ (∀ y0 y1 y2 y3 y4, LeO (schismalaw12_MonzoChecks.j1 k y0 y1 y2 y3 y4) (schismalaw12_MonzoChecks.j1 (k + 1) y0 y1 y2 y3 y4)) ∧ (∀ y0 y1 y2 y3 y4 y5 y6 y7, LeO (schismalaw12_MonzoChecks.j2 k y0 y1 y2 y3 y4 y5 y6 y7) (schismalaw12_MonzoChecks.j2 (k + 1) y0 y1 y2 y3 y4 y5 y6 y7)) ∧ (∀ y0 y1 y2 y3 y4, LeO (schismalaw12_MonzoChecks.j3 k y0 y1 y2 y3 y4) (schismalaw12_MonzoChecks.j3 (k + 1) y0 y1 y2 y3 y4))
 | 0 => ⟨fun _ _ _ _ r h => by simp [schismalaw12_MonzoChecks.j0] at h, fun _ _ _ _ _ r h => by simp [schismalaw12_MonzoChecks.j1] at h, fun _ _ _ _ _ _ _ _ r h => by simp [schismalaw12_MonzoChecks.j2] at h, fun _ _ _ _ _ r h => by simp [schismalaw12_MonzoChecks.j3] at h⟩
 | k + 1 => by
  obtain ⟨ih0, ih1, ih2, ih3⟩ := schismalaw12_MonzoChecks.mono_l k
  refine ⟨?_, ?_, ?_, ?_⟩
  ·intro y0 y1 y2 y3
   unfold schismalaw12_MonzoChecks.j0
   repeat' first
   | (with_reducible exact ih0 _ _ _ _)
   | (with_reducible exact ih1 _ _ _ _ _)
   | (with_reducible exact ih2 _ _ _ _ _ _ _ _)
   | (with_reducible exact ih3 _ _ _ _ _)
   | (with_reducible exact monzo_Brackets.mono _ _ _)
   | (with_reducible exact monzo_Check.mono _ _ _)
   | (with_reducible exact monzo_CheckAll.mono _ _ _)
   | (with_reducible exact prime_Check.mono _ _)
   | (with_reducible exact row_Text.mono _ _ _)
   | (with_reducible exact schismalaw12_check.mono _ _ _)
   | (with_reducible exact schismalaw12_known.mono _)
   | (with_reducible exact LeO.refl _)
   | (with_reducible exact LeO.none _)
   | (with_reducible refine LeO.ite ?_ ?_)
   | (with_reducible refine LeO.bind ?_ (fun _ => ?_))
   | exact ih0 _ _ _ _
   | exact ih1 _ _ _ _ _
   | exact ih2 _ _ _ _ _ _ _ _
   | exact ih3 _ _ _ _ _
   | exact monzo_Brackets.mono _ _ _
   | exact monzo_Check.mono _ _ _
   | exact monzo_CheckAll.mono _ _ _
   | exact prime_Check.mono _ _
   | exact row_Text.mono _ _ _
   | exact schismalaw12_check.mono _ _ _
   | exact schismalaw12_known.mono _
   | exact LeO.none _
   | refine LeO.ite ?_ ?_
   | refine LeO.bind ?_ (fun _ => ?_)
  ·intro y0 y1 y2 y3 y4
   unfold schismalaw12_MonzoChecks.j1
   repeat' first
   | (with_reducible exact ih0 _ _ _ _)
   | (with_reducible exact ih1 _ _ _ _ _)
   | (with_reducible exact ih2 _ _ _ _ _ _ _ _)
   | (with_reducible exact ih3 _ _ _ _ _)
   | (with_reducible exact monzo_Brackets.mono _ _ _)
   | (with_reducible exact monzo_Check.mono _ _ _)
   | (with_reducible exact monzo_CheckAll.mono _ _ _)
   | (with_reducible exact prime_Check.mono _ _)
   | (with_reducible exact row_Text.mono _ _ _)
   | (with_reducible exact schismalaw12_check.mono _ _ _)
   | (with_reducible exact schismalaw12_known.mono _)
   | (with_reducible exact LeO.refl _)
   | (with_reducible exact LeO.none _)
   | (with_reducible refine LeO.ite ?_ ?_)
   | (with_reducible refine LeO.bind ?_ (fun _ => ?_))
   | exact ih0 _ _ _ _
   | exact ih1 _ _ _ _ _
   | exact ih2 _ _ _ _ _ _ _ _
   | exact ih3 _ _ _ _ _
   | exact monzo_Brackets.mono _ _ _
   | exact monzo_Check.mono _ _ _
   | exact monzo_CheckAll.mono _ _ _
   | exact prime_Check.mono _ _
   | exact row_Text.mono _ _ _
   | exact schismalaw12_check.mono _ _ _
   | exact schismalaw12_known.mono _
   | exact LeO.none _
   | refine LeO.ite ?_ ?_
   | refine LeO.bind ?_ (fun _ => ?_)
  ·intro y0 y1 y2 y3 y4 y5 y6 y7
   unfold schismalaw12_MonzoChecks.j2
   repeat' first
   | (with_reducible exact ih0 _ _ _ _)
   | (with_reducible exact ih1 _ _ _ _ _)
   | (with_reducible exact ih2 _ _ _ _ _ _ _ _)
   | (with_reducible exact ih3 _ _ _ _ _)
   | (with_reducible exact monzo_Brackets.mono _ _ _)
   | (with_reducible exact monzo_Check.mono _ _ _)
   | (with_reducible exact monzo_CheckAll.mono _ _ _)
   | (with_reducible exact prime_Check.mono _ _)
   | (with_reducible exact row_Text.mono _ _ _)
   | (with_reducible exact schismalaw12_check.mono _ _ _)
   | (with_reducible exact schismalaw12_known.mono _)
   | (with_reducible exact LeO.refl _)
   | (with_reducible exact LeO.none _)
   | (with_reducible refine LeO.ite ?_ ?_)
   | (with_reducible refine LeO.bind ?_ (fun _ => ?_))
   | exact ih0 _ _ _ _
   | exact ih1 _ _ _ _ _
   | exact ih2 _ _ _ _ _ _ _ _
   | exact ih3 _ _ _ _ _
   | exact monzo_Brackets.mono _ _ _
   | exact monzo_Check.mono _ _ _
   | exact monzo_CheckAll.mono _ _ _
   | exact prime_Check.mono _ _
   | exact row_Text.mono _ _ _
   | exact schismalaw12_check.mono _ _ _
   | exact schismalaw12_known.mono _
   | exact LeO.none _
   | refine LeO.ite ?_ ?_
   | refine LeO.bind ?_ (fun _ => ?_)
  ·intro y0 y1 y2 y3 y4
   unfold schismalaw12_MonzoChecks.j3
   repeat' first
   | (with_reducible exact ih0 _ _ _ _)
   | (with_reducible exact ih1 _ _ _ _ _)
   | (with_reducible exact ih2 _ _ _ _ _ _ _ _)
   | (with_reducible exact ih3 _ _ _ _ _)
   | (with_reducible exact monzo_Brackets.mono _ _ _)
   | (with_reducible exact monzo_Check.mono _ _ _)
   | (with_reducible exact monzo_CheckAll.mono _ _ _)
   | (with_reducible exact prime_Check.mono _ _)
   | (with_reducible exact row_Text.mono _ _ _)
   | (with_reducible exact schismalaw12_check.mono _ _ _)
   | (with_reducible exact schismalaw12_known.mono _)
   | (with_reducible exact LeO.refl _)
   | (with_reducible exact LeO.none _)
   | (with_reducible refine LeO.ite ?_ ?_)
   | (with_reducible refine LeO.bind ?_ (fun _ => ?_))
   | exact ih0 _ _ _ _
   | exact ih1 _ _ _ _ _
   | exact ih2 _ _ _ _ _ _ _ _
   | exact ih3 _ _ _ _ _
   | exact monzo_Brackets.mono _ _ _
   | exact monzo_Check.mono _ _ _
   | exact monzo_CheckAll.mono _ _ _
   | exact prime_Check.mono _ _
   | exact row_Text.mono _ _ _
   | exact schismalaw12_check.mono _ _ _
   | exact schismalaw12_known.mono _
   | exact LeO.none _
   | refine LeO.ite ?_ ?_
   | refine LeO.bind ?_ (fun _ => ?_)
theorem schismalaw12_MonzoChecks.mono : ∀ a0 a1 a2 k, LeO (schismalaw12_MonzoChecks.f k a0 a1 a2) (schismalaw12_MonzoChecks.f (k + 1) a0 a1 a2) := by
 intro a0 a1 a2 k
 obtain ⟨ih0, ih1, ih2, ih3⟩ := schismalaw12_MonzoChecks.mono_l k
 unfold schismalaw12_MonzoChecks.f
 repeat' first
   | (with_reducible exact ih0 _ _ _ _)
   | (with_reducible exact ih1 _ _ _ _ _)
   | (with_reducible exact ih2 _ _ _ _ _ _ _ _)
   | (with_reducible exact ih3 _ _ _ _ _)
   | (with_reducible exact monzo_Brackets.mono _ _ _)
   | (with_reducible exact monzo_Check.mono _ _ _)
   | (with_reducible exact monzo_CheckAll.mono _ _ _)
   | (with_reducible exact prime_Check.mono _ _)
   | (with_reducible exact row_Text.mono _ _ _)
   | (with_reducible exact schismalaw12_check.mono _ _ _)
   | (with_reducible exact schismalaw12_known.mono _)
   | (with_reducible exact LeO.refl _)
   | (with_reducible exact LeO.none _)
   | (with_reducible refine LeO.ite ?_ ?_)
   | (with_reducible refine LeO.bind ?_ (fun _ => ?_))
   | exact ih0 _ _ _ _
   | exact ih1 _ _ _ _ _
   | exact ih2 _ _ _ _ _ _ _ _
   | exact ih3 _ _ _ _ _
   | exact monzo_Brackets.mono _ _ _
   | exact monzo_Check.mono _ _ _
   | exact monzo_CheckAll.mono _ _ _
   | exact prime_Check.mono _ _
   | exact row_Text.mono _ _ _
   | exact schismalaw12_check.mono _ _ _
   | exact schismalaw12_known.mono _
   | exact LeO.none _
   | refine LeO.ite ?_ ?_
   | refine LeO.bind ?_ (fun _ => ?_)
end Go.Proofs.YtccebdpjdpjgnaaGreatDoor.P
end
section
namespace Go.Proofs.YtccebdpjdpjgnaaGreatDoor.P
open Go.RowKit Go.Proofs.YtccebdpjdpjgnaaGreatDoorW.PrintWords Go.Proofs.YtccebdpjdpjgnaaGreatDoorW.PrintLast Go.Proofs.YtccebdpjdpjgnaaGreatDoorW.PrintMore
attribute [local go_sem] max2_int min2_int max_two min_two max_three min_three max_four min_four
theorem eqA38 (d : Nat) (w : World) (x0 y0 : ByteArray) (x1 y1 : ByteArray) :
  (Op.equalIn (d + 2) 38 (.agg #[.string x0, .string x1]) (.agg #[.string y0, .string y1])).run Tryz.prog w = .ok (x0.toList == y0.toList && (x1.toList == y1.toList)) w := by
 refine eqA_of Tryz.underlying38 (by kernel_rfl) ?_
 refine eqf_cons (by rfl) (by go_simp; rfl) (by go_simp; rfl) (by go_simp) ?_
 exact eqf_last (by rfl) (by go_simp; rfl) (by go_simp; rfl) (by go_simp)
end Go.Proofs.YtccebdpjdpjgnaaGreatDoor.P
end
section
namespace Go.Proofs.YtccebdpjdpjgnaaGreatDoor.P
open Go.RowKit Go.Proofs.YtccebdpjdpjgnaaGreatDoorW.PrintWords Go.Proofs.YtccebdpjdpjgnaaGreatDoorW.PrintLast Go.Proofs.YtccebdpjdpjgnaaGreatDoorW.PrintMore
attribute [local go_sem] max2_int min2_int max_two min_two max_three min_three max_four min_four
attribute [local go_sem high] eqA38
def schismalaw12_MonzoFractions.f (k : Nat) (a0_0 : Int) (a0_1 : Int) (a0_2 : Int) (a0_3 : Int) (a0_4 : Int) : Option (Bool) := (schismalaw12_known.f k).bind fun t606 => (if t606 = true then ((schismalaw12_Make.f k a0_0 a0_1 a0_2 a0_3 a0_4).bind fun bt607 => ((schismalaw12_Value.f k bt607.1 bt607.2).bind fun bt613 => ((monzo_Fraction.f k bt607.1 bt607.2).bind fun bt615 => ((monzo_Text.f k bt607.1 bt607.2).bind fun bt619 => ((monzo_Of.f k bt607.1 bt615.1 bt615.2.1).bind fun bt621 => (if (bt615.1.toList == bt613.1.toList && (bt615.2.1.toList == bt613.2.toList)) = true then (if bt615.2.2 = 0 then ((fraction_Text.f bt615.1 bt615.2.1).bind fun t625 => (if bt619.1.toList = t625.toList then (if bt619.2 = 0 then ((schismalaw12_Same.f k bt607.2 bt621.1).bind fun t626 => (if t626 = true then (some (bt621.2 == 0)) else (some false))) else (some false)) else (some false))) else (some false)) else (some false))))))) else (some false))
theorem schismalaw12_MonzoFractions.mono : ∀ a0 a1 a2 a3 a4 k, LeO (schismalaw12_MonzoFractions.f k a0 a1 a2 a3 a4) (schismalaw12_MonzoFractions.f (k + 1) a0 a1 a2 a3 a4) := by
 intro a0 a1 a2 a3 a4 k
 unfold schismalaw12_MonzoFractions.f
 repeat' first
   | (with_reducible exact monzo_Fraction.mono _ _ _)
   | (with_reducible exact monzo_Of.mono _ _ _ _)
   | (with_reducible exact monzo_Text.mono _ _ _)
   | (with_reducible exact schismalaw12_Make.mono _ _ _ _ _ _)
   | (with_reducible exact schismalaw12_Same.mono _ _ _)
   | (with_reducible exact schismalaw12_Value.mono _ _ _)
   | (with_reducible exact schismalaw12_known.mono _)
   | (with_reducible exact LeO.refl _)
   | (with_reducible exact LeO.none _)
   | (with_reducible refine LeO.ite ?_ ?_)
   | (with_reducible refine LeO.bind ?_ (fun _ => ?_))
   | exact monzo_Fraction.mono _ _ _
   | exact monzo_Of.mono _ _ _ _
   | exact monzo_Text.mono _ _ _
   | exact schismalaw12_Make.mono _ _ _ _ _ _
   | exact schismalaw12_Same.mono _ _ _
   | exact schismalaw12_Value.mono _ _ _
   | exact schismalaw12_known.mono _
   | exact LeO.none _
   | refine LeO.ite ?_ ?_
   | refine LeO.bind ?_ (fun _ => ?_)
end Go.Proofs.YtccebdpjdpjgnaaGreatDoor.P
end
