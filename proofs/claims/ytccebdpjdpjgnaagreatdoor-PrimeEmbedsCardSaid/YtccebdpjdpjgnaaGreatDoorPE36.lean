/-
parts of the walks and of the plain laws: PapiRowint Pschismalaw11known
-/
import Derived.Test.YtccebdpjdpjgnaaGreatDoorPE35
set_option linter.unusedVariables false
set_option linter.unusedSimpArgs false
section
namespace Go.Proofs.YtccebdpjdpjgnaaGreatDoor.P
open Go.RowKit Go.Proofs.YtccebdpjdpjgnaaGreatDoorW.PrintWords Go.Proofs.YtccebdpjdpjgnaaGreatDoorW.PrintLast Go.Proofs.YtccebdpjdpjgnaaGreatDoorW.PrintMore
attribute [local go_sem] max2_int min2_int max_two min_two max_three min_three max_four min_four
def api_Row_int.l0 : Nat → List Int → List Int → Int → Int → Option (Bool)
 | 0, _, _, _, _ => none
 | k + 1, x0, x1, x12, x13 => if x13 < x12 then (if 0 ≤ x13 then (if x13 < (x0.length : Int) then (if x13 < (x1.length : Int) then (if (rd x0 x13) = (rd x1 x13) then (api_Row_int.l0 k x0 x1 x12 (wrap64 (x13 + 1))) else (some false)) else (none)) else (none)) else (none)) else (some true)
def api_Row_int.f (k : Nat) (l0 : List Int) (l1 : List Int) : Option (Bool) := if (l0.length : Int) = (l1.length : Int) then (api_Row_int.l0 k l0 l1 (l0.length : Int) 0) else (some false)
theorem api_Row_int.mono_l : ∀ k, (∀ y0 y1 y2 y3, LeO (api_Row_int.l0 k y0 y1 y2 y3) (api_Row_int.l0 (k + 1) y0 y1 y2 y3))
 | 0 => fun _ _ _ _ r h => by simp [api_Row_int.l0] at h
 | k + 1 => by
  have ih0 := api_Row_int.mono_l k
  ·intro y0 y1 y2 y3
   unfold api_Row_int.l0
   repeat' first
   | (with_reducible exact ih0 _ _ _ _)
   | (with_reducible exact LeO.refl _)
   | (with_reducible exact LeO.none _)
   | (with_reducible refine LeO.ite ?_ ?_)
   | (with_reducible refine LeO.bind ?_ (fun _ => ?_))
   | exact ih0 _ _ _ _
   | exact LeO.none _
   | refine LeO.ite ?_ ?_
   | refine LeO.bind ?_ (fun _ => ?_)
theorem api_Row_int.mono : ∀ a0 a1 k, LeO (api_Row_int.f k a0 a1) (api_Row_int.f (k + 1) a0 a1) := by
 intro a0 a1 k
 have ih0 := api_Row_int.mono_l k
 unfold api_Row_int.f
 repeat' first
   | (with_reducible exact ih0 _ _ _ _)
   | (with_reducible exact LeO.refl _)
   | (with_reducible exact LeO.none _)
   | (with_reducible refine LeO.ite ?_ ?_)
   | (with_reducible refine LeO.bind ?_ (fun _ => ?_))
   | exact ih0 _ _ _ _
   | exact LeO.none _
   | refine LeO.ite ?_ ?_
   | refine LeO.bind ?_ (fun _ => ?_)
set_option maxHeartbeats 8000000 in
set_option maxRecDepth 100000 in
theorem api_Row_int.calls (k : Nat) (A0 : Option Addr) (c0 : Nat) (l0 : List Int) (A1 : Option Addr) (c1 : Nat) (l1 : List Int) (r : Bool) (w : World) (hr0 : Kd.C (Kd.int .i64) w A0 l0.length l0) (hc0 : l0.length ≤ c0) (hr1 : Kd.C (Kd.int .i64) w A1 l1.length l1) (hc1 : l1.length ≤ c1) (h : api_Row_int.f k l0 l1 = some r) :
  Calls Tryz.prog 71 #[.slice A0 l0.length c0, .slice A1 l1.length c1] w fun e w' => e = .returned (.bool r) ∧ Drawn0 w w' := by
 have HR0 := Aside0.mk hr0
 have HC0 := Aside0.mk hc0
 clear hr0 hc0
 have HR1 := Aside0.mk hr1
 have HC1 := Aside0.mk hc1
 clear hr1 hc1
 have H : (if (l0.length : Int) = (l1.length : Int) then (api_Row_int.l0 k l0 l1 (l0.length : Int) 0) else (some false)) = some r := h
 clear h
 by_cases c3 : (l0.length : Int) = (l1.length : Int)
 ·rw [if_pos c3] at H
  have c3b0 : ((l0.length : Int) == (l1.length : Int)) = true := beq_iff_eq.mpr c3
  have c3b1 : ((l0.length : Int) != (l1.length : Int)) = false := bne_eq_false_iff_eq.mpr c3
  have c3b2 : (l0.length == l1.length) = true := by first | simpa using c3 | (simp at c3 ⊢; omega)
  clear c3
  have H' := Aside0.mk H
  clear H
  go_enter Tryz.func71, Tryz.ntmps71
  go_wp2
  repeat (go_quiet (fail); try go_wp2)
  go_loopg [13] k (fun kq v13 w' => ∃ (x13_1 : Int), v13 = .int .i64 x13_1 ∧ Aside0 (api_Row_int.l0 kq l0 l1 (l0.length : Int) x13_1 = some r) ∧ Aside0 (kq ≤ k) ∧ Drawn0 w w')
  case atStart => exact ⟨(0), (by first | rfl | (simp; done) | (simp [*]; done)), H', ⟨Nat.le_refl _⟩, by repeat (first | exact Drawn0.refl _ | apply Drawn0.step)⟩
  case round =>
   clear H'
   try clear c1
   try clear p2
   try clear c3
   try clear c3b0
   try clear c3b1
   try clear c3b2
   obtain ⟨x13_1, rfl, HA, HK1, ⟨m1, rfl⟩⟩ := hrel
   cases gk with
   | zero => exact absurd HA.out (by simp [api_Row_int.l0])
   | succ k1 =>
    have H := HA.out
    clear HA
    simp only [api_Row_int.l0] at H
    by_cases c4 : x13_1 < (l0.length : Int)
    ·rw [if_pos c4] at H
     have c4b0 : decide (x13_1 < (l0.length : Int)) = true := decide_eq_true c4
     clear c4
     by_cases c5 : 0 ≤ x13_1
     ·rw [if_pos c5] at H
      have c5b0 : decide (0 ≤ x13_1) = true := decide_eq_true c5
      clear c5
      by_cases c6 : x13_1 < (l0.length : Int)
      ·rw [if_pos c6] at H
       have c6b0 : decide (x13_1 < (l0.length : Int)) = true := decide_eq_true c6
       clear c6
       by_cases c7 : x13_1 < (l1.length : Int)
       ·rw [if_pos c7] at H
        have c7b0 : decide (x13_1 < (l1.length : Int)) = true := decide_eq_true c7
        clear c7
        by_cases c8 : (rd l0 x13_1) = (rd l1 x13_1)
        ·rw [if_pos c8] at H
         have c8b0 : ((rd l0 x13_1) == (rd l1 x13_1)) = true := beq_iff_eq.mpr c8
         have c8b1 : ((rd l0 x13_1) != (rd l1 x13_1)) = false := bne_eq_false_iff_eq.mpr c8
         clear c8
         have H' := Aside0.mk H
         clear H
         have p1030 : 0 ≤ (x13_1 : Int) := of_decide_eq_true (by first | (with_reducible assumption) | assumption)
         have q1030 : x13_1 < (l0.length : Int) := of_decide_eq_true (by first | (with_reducible assumption) | assumption)
         obtain ⟨ad1030, e1030, hx1030_0⟩ := Kd.at_int HR0.out x13_1 p1030 q1030
         cases e1030
         replace p1030 := eq_true p1030
         replace q1030 := eq_true q1030
         have p1031 : 0 ≤ (x13_1 : Int) := of_decide_eq_true (by first | (with_reducible assumption) | assumption)
         have q1031 : x13_1 < (l1.length : Int) := of_decide_eq_true (by first | (with_reducible assumption) | assumption)
         obtain ⟨ad1031, e1031, hx1031_0⟩ := Kd.at_int HR1.out x13_1 p1031 q1031
         cases e1031
         replace p1031 := eq_true p1031
         replace q1031 := eq_true q1031
         go_wp2
         repeat (go_quiet (fail); try go_wp2)
         go_roundg k1
         case measure => have := HK1.out; omega
         case rel => exact ⟨(wrap64 (x13_1 + 1)), (by first | rfl | (simp; done) | (simp [*]; done)), H', ⟨by have := HK1.out; omega⟩, by repeat (first | exact Drawn0.refl _ | apply Drawn0.step)⟩
        ·rw [if_neg c8] at H
         have c8b0 : ((rd l0 x13_1) == (rd l1 x13_1)) = false := beq_eq_false_iff_ne.mpr c8
         have c8b1 : ((rd l0 x13_1) != (rd l1 x13_1)) = true := bne_iff_ne.mpr c8
         obtain rfl := Option.some.inj H
         have p1030 : 0 ≤ (x13_1 : Int) := of_decide_eq_true (by first | (with_reducible assumption) | assumption)
         have q1030 : x13_1 < (l0.length : Int) := of_decide_eq_true (by first | (with_reducible assumption) | assumption)
         obtain ⟨ad1030, e1030, hx1030_0⟩ := Kd.at_int HR0.out x13_1 p1030 q1030
         cases e1030
         replace p1030 := eq_true p1030
         replace q1030 := eq_true q1030
         have p1031 : 0 ≤ (x13_1 : Int) := of_decide_eq_true (by first | (with_reducible assumption) | assumption)
         have q1031 : x13_1 < (l1.length : Int) := of_decide_eq_true (by first | (with_reducible assumption) | assumption)
         obtain ⟨ad1031, e1031, hx1031_0⟩ := Kd.at_int HR1.out x13_1 p1031 q1031
         cases e1031
         replace p1031 := eq_true p1031
         replace q1031 := eq_true q1031
         go_wp2
         repeat (go_quiet (fail); try go_wp2)
         go_ret
         exact ⟨by first | rfl | (simp; done) | (simp [*]; done), by repeat (first | exact Drawn0.refl _ | apply Drawn0.step)⟩
       ·rw [if_neg c7] at H
        exact absurd H (by simp)
      ·rw [if_neg c6] at H
       exact absurd H (by simp)
     ·rw [if_neg c5] at H
      exact absurd H (by simp)
    ·rw [if_neg c4] at H
     have c4b0 : decide (x13_1 < (l0.length : Int)) = false := decide_eq_false c4
     clear c4
     obtain rfl := Option.some.inj H
     go_wp2
     repeat (go_quiet (fail); try go_wp2)
     go_ret
     exact ⟨by first | rfl | (simp; done) | (simp [*]; done), by repeat (first | exact Drawn0.refl _ | apply Drawn0.step)⟩
 ·rw [if_neg c3] at H
  have c3b0 : ((l0.length : Int) == (l1.length : Int)) = false := beq_eq_false_iff_ne.mpr c3
  have c3b1 : ((l0.length : Int) != (l1.length : Int)) = true := bne_iff_ne.mpr c3
  have c3b2 : (l0.length == l1.length) = false := by first | simpa using c3 | (simp at c3 ⊢; omega)
  obtain rfl := Option.some.inj H
  go_enter Tryz.func71, Tryz.ntmps71
  go_wp2
  repeat (go_quiet (fail); try go_wp2)
  go_ret
  exact ⟨by first | rfl | (simp; done) | (simp [*]; done), by repeat (first | exact Drawn0.refl _ | apply Drawn0.step)⟩
end Go.Proofs.YtccebdpjdpjgnaaGreatDoor.P
end
section
namespace Go.Proofs.YtccebdpjdpjgnaaGreatDoor.P
open Go.RowKit Go.Proofs.YtccebdpjdpjgnaaGreatDoorW.PrintWords Go.Proofs.YtccebdpjdpjgnaaGreatDoorW.PrintLast Go.Proofs.YtccebdpjdpjgnaaGreatDoorW.PrintMore
attribute [local go_sem] max2_int min2_int max_two min_two max_three min_three max_four min_four
attribute [local go_sem high] eqA38
def schismalaw11_known.f (k : Nat)  : Option (Bool) := (prime_First.f k 4).bind fun bt1070 => ((prime_Factor.f k (([2, 3, 5] : List Int)) (⟨#[56, 49]⟩ : ByteArray) (⟨#[56, 48]⟩ : ByteArray)).bind fun bt1077 => ((prime_Value.f k (([2, 3, 5] : List Int)) (([1, (-2), 1] : List Int))).bind fun bt1087 => (if bt1070.2 = 0 then (if bt1077.2 = 0 then (if bt1087.2.2 = 0 then ((api_Primes_int_63.f k bt1070.1 (([2, 3, 5, 7] : List Int))).bind fun t1094 => (if t1094 = true then ((api_Row_int.f k bt1077.1 (([(-4), 4, (-1)] : List Int))).bind fun t1098 => (if t1098 = true then (if (bt1087.1.toList == ([49, 48] : List UInt8) && (bt1087.2.1.toList == ([57] : List UInt8))) = true then ((prime_IsPrime.f k 97).bind fun t1099 => (if t1099 = true then ((prime_IsPrime.f k 91).bind fun t1100 => (some (!t1100))) else (some false))) else (some false)) else (some false))) else (some false))) else (some false)) else (some false)) else (some false))))
theorem schismalaw11_known.mono : ∀ k, LeO (schismalaw11_known.f k ) (schismalaw11_known.f (k + 1) ) := by
 intro  k
 unfold schismalaw11_known.f
 repeat' first
   | (with_reducible exact api_Primes_int_63.mono _ _ _)
   | (with_reducible exact api_Row_int.mono _ _ _)
   | (with_reducible exact prime_Factor.mono _ _ _ _)
   | (with_reducible exact prime_First.mono _ _)
   | (with_reducible exact prime_IsPrime.mono _ _)
   | (with_reducible exact prime_Value.mono _ _ _)
   | (with_reducible exact LeO.refl _)
   | (with_reducible exact LeO.none _)
   | (with_reducible refine LeO.ite ?_ ?_)
   | (with_reducible refine LeO.bind ?_ (fun _ => ?_))
   | exact api_Primes_int_63.mono _ _ _
   | exact api_Row_int.mono _ _ _
   | exact prime_Factor.mono _ _ _ _
   | exact prime_First.mono _ _
   | exact prime_IsPrime.mono _ _
   | exact prime_Value.mono _ _ _
   | exact LeO.none _
   | refine LeO.ite ?_ ?_
   | refine LeO.bind ?_ (fun _ => ?_)
set_option maxHeartbeats 8000000 in
set_option maxRecDepth 100000 in
theorem schismalaw11_known.calls (k : Nat)  (r : Bool) (w : World) (hT : TabW w) (h : schismalaw11_known.f k  = some r) (hr : r = true) :
  Calls Tryz.prog 58 #[] w fun e w' => e = .returned (.bool r) ∧ Below w.heap.size w w' := by
 have hu38 := Tryz.underlying38
 have HB := Aside0.mk (Below.refl w.heap.size w)
 have H : ((prime_First.f k 4).bind fun bt1070 => ((prime_Factor.f k (([2, 3, 5] : List Int)) (⟨#[56, 49]⟩ : ByteArray) (⟨#[56, 48]⟩ : ByteArray)).bind fun bt1077 => ((prime_Value.f k (([2, 3, 5] : List Int)) (([1, (-2), 1] : List Int))).bind fun bt1087 => (if bt1070.2 = 0 then (if bt1077.2 = 0 then (if bt1087.2.2 = 0 then ((api_Primes_int_63.f k bt1070.1 (([2, 3, 5, 7] : List Int))).bind fun t1094 => (if t1094 = true then ((api_Row_int.f k bt1077.1 (([(-4), 4, (-1)] : List Int))).bind fun t1098 => (if t1098 = true then (if (bt1087.1.toList == ([49, 48] : List UInt8) && (bt1087.2.1.toList == ([57] : List UInt8))) = true then ((prime_IsPrime.f k 97).bind fun t1099 => (if t1099 = true then ((prime_IsPrime.f k 91).bind fun t1100 => (some (!t1100))) else (some false))) else (some false)) else (some false))) else (some false))) else (some false)) else (some false)) else (some false))))) = some r := h
 clear h
 replace H := Option.bind_eq_some_iff.mp H
 obtain ⟨⟨t1070, t1073⟩, A10, H⟩ := H
 replace H : ((prime_Factor.f k (([2, 3, 5] : List Int)) (⟨#[56, 49]⟩ : ByteArray) (⟨#[56, 48]⟩ : ByteArray)).bind fun bt1077 => ((prime_Value.f k (([2, 3, 5] : List Int)) (([1, (-2), 1] : List Int))).bind fun bt1087 => (if t1073 = 0 then (if bt1077.2 = 0 then (if bt1087.2.2 = 0 then ((api_Primes_int_63.f k t1070 (([2, 3, 5, 7] : List Int))).bind fun t1094 => (if t1094 = true then ((api_Row_int.f k bt1077.1 (([(-4), 4, (-1)] : List Int))).bind fun t1098 => (if t1098 = true then (if (bt1087.1.toList == ([49, 48] : List UInt8) && (bt1087.2.1.toList == ([57] : List UInt8))) = true then ((prime_IsPrime.f k 97).bind fun t1099 => (if t1099 = true then ((prime_IsPrime.f k 91).bind fun t1100 => (some (!t1100))) else (some false))) else (some false)) else (some false))) else (some false))) else (some false)) else (some false)) else (some false)))) = some r := H
 have A1 := Aside0.mk A10
 clear A10
 obtain ⟨y1074, hy1074⟩ : ∃ y_ : List Int, y_ = (([2, 3, 5] : List Int)) := ⟨_, rfl⟩
 replace H : ((prime_Factor.f k y1074 (⟨#[56, 49]⟩ : ByteArray) (⟨#[56, 48]⟩ : ByteArray)).bind fun bt1077 => ((prime_Value.f k (([2, 3, 5] : List Int)) (([1, (-2), 1] : List Int))).bind fun bt1087 => (if t1073 = 0 then (if bt1077.2 = 0 then (if bt1087.2.2 = 0 then ((api_Primes_int_63.f k t1070 (([2, 3, 5, 7] : List Int))).bind fun t1094 => (if t1094 = true then ((api_Row_int.f k bt1077.1 (([(-4), 4, (-1)] : List Int))).bind fun t1098 => (if t1098 = true then (if (bt1087.1.toList == ([49, 48] : List UInt8) && (bt1087.2.1.toList == ([57] : List UInt8))) = true then ((prime_IsPrime.f k 97).bind fun t1099 => (if t1099 = true then ((prime_IsPrime.f k 91).bind fun t1100 => (some (!t1100))) else (some false))) else (some false)) else (some false))) else (some false))) else (some false)) else (some false)) else (some false)))) = some r := by first | (rw [hy1074]; with_reducible exact H) | (have H2_ := (Option.bind_some _ _).symm.trans H; rw [hy1074]; with_reducible exact H2_) | (have H2_ := (Option.bind_some _ _).symm.trans H; with_reducible exact H2_) | with_reducible exact H | (rw [hy1074]; exact H) | exact H
 have Ny1074 := Aside0.mk hy1074
 clear hy1074
 replace H := Option.bind_eq_some_iff.mp H
 obtain ⟨⟨t1077, t1080⟩, A20, H⟩ := H
 replace H : ((prime_Value.f k (([2, 3, 5] : List Int)) (([1, (-2), 1] : List Int))).bind fun bt1087 => (if t1073 = 0 then (if t1080 = 0 then (if bt1087.2.2 = 0 then ((api_Primes_int_63.f k t1070 (([2, 3, 5, 7] : List Int))).bind fun t1094 => (if t1094 = true then ((api_Row_int.f k t1077 (([(-4), 4, (-1)] : List Int))).bind fun t1098 => (if t1098 = true then (if (bt1087.1.toList == ([49, 48] : List UInt8) && (bt1087.2.1.toList == ([57] : List UInt8))) = true then ((prime_IsPrime.f k 97).bind fun t1099 => (if t1099 = true then ((prime_IsPrime.f k 91).bind fun t1100 => (some (!t1100))) else (some false))) else (some false)) else (some false))) else (some false))) else (some false)) else (some false)) else (some false))) = some r := H
 have A2 := Aside0.mk A20
 clear A20
 obtain ⟨y1081, hy1081⟩ : ∃ y_ : List Int, y_ = (([2, 3, 5] : List Int)) := ⟨_, rfl⟩
 replace H : ((prime_Value.f k y1081 (([1, (-2), 1] : List Int))).bind fun bt1087 => (if t1073 = 0 then (if t1080 = 0 then (if bt1087.2.2 = 0 then ((api_Primes_int_63.f k t1070 (([2, 3, 5, 7] : List Int))).bind fun t1094 => (if t1094 = true then ((api_Row_int.f k t1077 (([(-4), 4, (-1)] : List Int))).bind fun t1098 => (if t1098 = true then (if (bt1087.1.toList == ([49, 48] : List UInt8) && (bt1087.2.1.toList == ([57] : List UInt8))) = true then ((prime_IsPrime.f k 97).bind fun t1099 => (if t1099 = true then ((prime_IsPrime.f k 91).bind fun t1100 => (some (!t1100))) else (some false))) else (some false)) else (some false))) else (some false))) else (some false)) else (some false)) else (some false))) = some r := by first | (rw [hy1081]; with_reducible exact H) | (have H2_ := (Option.bind_some _ _).symm.trans H; rw [hy1081]; with_reducible exact H2_) | (have H2_ := (Option.bind_some _ _).symm.trans H; with_reducible exact H2_) | with_reducible exact H | (rw [hy1081]; exact H) | exact H
 have Ny1081 := Aside0.mk hy1081
 clear hy1081
 obtain ⟨y1084, hy1084⟩ : ∃ y_ : List Int, y_ = (([1, (-2), 1] : List Int)) := ⟨_, rfl⟩
 replace H : ((prime_Value.f k y1081 y1084).bind fun bt1087 => (if t1073 = 0 then (if t1080 = 0 then (if bt1087.2.2 = 0 then ((api_Primes_int_63.f k t1070 (([2, 3, 5, 7] : List Int))).bind fun t1094 => (if t1094 = true then ((api_Row_int.f k t1077 (([(-4), 4, (-1)] : List Int))).bind fun t1098 => (if t1098 = true then (if (bt1087.1.toList == ([49, 48] : List UInt8) && (bt1087.2.1.toList == ([57] : List UInt8))) = true then ((prime_IsPrime.f k 97).bind fun t1099 => (if t1099 = true then ((prime_IsPrime.f k 91).bind fun t1100 => (some (!t1100))) else (some false))) else (some false)) else (some false))) else (some false))) else (some false)) else (some false)) else (some false))) = some r := by first | (rw [hy1084]; with_reducible exact H) | (have H2_ := (Option.bind_some _ _).symm.trans H; rw [hy1084]; with_reducible exact H2_) | (have H2_ := (Option.bind_some _ _).symm.trans H; with_reducible exact H2_) | with_reducible exact H | (rw [hy1084]; exact H) | exact H
 have Ny1084 := Aside0.mk hy1084
 clear hy1084
 replace H := Option.bind_eq_some_iff.mp H
 obtain ⟨⟨t1087, t1088, t1089⟩, A30, H⟩ := H
 replace H : (if t1073 = 0 then (if t1080 = 0 then (if t1089 = 0 then ((api_Primes_int_63.f k t1070 (([2, 3, 5, 7] : List Int))).bind fun t1094 => (if t1094 = true then ((api_Row_int.f k t1077 (([(-4), 4, (-1)] : List Int))).bind fun t1098 => (if t1098 = true then (if (t1087.toList == ([49, 48] : List UInt8) && (t1088.toList == ([57] : List UInt8))) = true then ((prime_IsPrime.f k 97).bind fun t1099 => (if t1099 = true then ((prime_IsPrime.f k 91).bind fun t1100 => (some (!t1100))) else (some false))) else (some false)) else (some false))) else (some false))) else (some false)) else (some false)) else (some false)) = some r := H
 have A3 := Aside0.mk A30
 clear A30
 by_cases c4 : t1073 = 0
 ·rw [if_pos c4] at H
  have c4b0 : (t1073 == 0) = true := beq_iff_eq.mpr c4
  have c4b1 : (t1073 != 0) = false := bne_eq_false_iff_eq.mpr c4
  clear c4
  by_cases c5 : t1080 = 0
  ·rw [if_pos c5] at H
   have c5b0 : (t1080 == 0) = true := beq_iff_eq.mpr c5
   have c5b1 : (t1080 != 0) = false := bne_eq_false_iff_eq.mpr c5
   clear c5
   by_cases c6 : t1089 = 0
   ·rw [if_pos c6] at H
    have c6b0 : (t1089 == 0) = true := beq_iff_eq.mpr c6
    have c6b1 : (t1089 != 0) = false := bne_eq_false_iff_eq.mpr c6
    clear c6
    obtain ⟨y1091, hy1091⟩ : ∃ y_ : List Int, y_ = (([2, 3, 5, 7] : List Int)) := ⟨_, rfl⟩
    replace H : ((api_Primes_int_63.f k t1070 y1091).bind fun t1094 => (if t1094 = true then ((api_Row_int.f k t1077 (([(-4), 4, (-1)] : List Int))).bind fun t1098 => (if t1098 = true then (if (t1087.toList == ([49, 48] : List UInt8) && (t1088.toList == ([57] : List UInt8))) = true then ((prime_IsPrime.f k 97).bind fun t1099 => (if t1099 = true then ((prime_IsPrime.f k 91).bind fun t1100 => (some (!t1100))) else (some false))) else (some false)) else (some false))) else (some false))) = some r := by first | (rw [hy1091]; with_reducible exact H) | (have H2_ := (Option.bind_some _ _).symm.trans H; rw [hy1091]; with_reducible exact H2_) | (have H2_ := (Option.bind_some _ _).symm.trans H; with_reducible exact H2_) | with_reducible exact H | (rw [hy1091]; exact H) | exact H
    have Ny1091 := Aside0.mk hy1091
    clear hy1091
    replace H := Option.bind_eq_some_iff.mp H
    obtain ⟨t1094, A70, H⟩ := H
    replace H : (if t1094 = true then ((api_Row_int.f k t1077 (([(-4), 4, (-1)] : List Int))).bind fun t1098 => (if t1098 = true then (if (t1087.toList == ([49, 48] : List UInt8) && (t1088.toList == ([57] : List UInt8))) = true then ((prime_IsPrime.f k 97).bind fun t1099 => (if t1099 = true then ((prime_IsPrime.f k 91).bind fun t1100 => (some (!t1100))) else (some false))) else (some false)) else (some false))) else (some false)) = some r := H
    have A7 := Aside0.mk A70
    clear A70
    by_cases c8 : t1094 = true
    ·subst c8
     have H1 : ((api_Row_int.f k t1077 (([(-4), 4, (-1)] : List Int))).bind fun t1098 => (if t1098 = true then (if (t1087.toList == ([49, 48] : List UInt8) && (t1088.toList == ([57] : List UInt8))) = true then ((prime_IsPrime.f k 97).bind fun t1099 => (if t1099 = true then ((prime_IsPrime.f k 91).bind fun t1100 => (some (!t1100))) else (some false))) else (some false)) else (some false))) = some r := by rw [if_pos rfl] at H; exact H
     clear H
     have H := H1
     clear H1
     obtain ⟨y1095, hy1095⟩ : ∃ y_ : List Int, y_ = (([(-4), 4, (-1)] : List Int)) := ⟨_, rfl⟩
     replace H : ((api_Row_int.f k t1077 y1095).bind fun t1098 => (if t1098 = true then (if (t1087.toList == ([49, 48] : List UInt8) && (t1088.toList == ([57] : List UInt8))) = true then ((prime_IsPrime.f k 97).bind fun t1099 => (if t1099 = true then ((prime_IsPrime.f k 91).bind fun t1100 => (some (!t1100))) else (some false))) else (some false)) else (some false))) = some r := by first | (rw [hy1095]; with_reducible exact H) | (have H2_ := (Option.bind_some _ _).symm.trans H; rw [hy1095]; with_reducible exact H2_) | (have H2_ := (Option.bind_some _ _).symm.trans H; with_reducible exact H2_) | with_reducible exact H | (rw [hy1095]; exact H) | exact H
     have Ny1095 := Aside0.mk hy1095
     clear hy1095
     replace H := Option.bind_eq_some_iff.mp H
     obtain ⟨t1098, A90, H⟩ := H
     replace H : (if t1098 = true then (if (t1087.toList == ([49, 48] : List UInt8) && (t1088.toList == ([57] : List UInt8))) = true then ((prime_IsPrime.f k 97).bind fun t1099 => (if t1099 = true then ((prime_IsPrime.f k 91).bind fun t1100 => (some (!t1100))) else (some false))) else (some false)) else (some false)) = some r := H
     have A9 := Aside0.mk A90
     clear A90
     by_cases c10 : t1098 = true
     ·subst c10
      have H1 : (if (t1087.toList == ([49, 48] : List UInt8) && (t1088.toList == ([57] : List UInt8))) = true then ((prime_IsPrime.f k 97).bind fun t1099 => (if t1099 = true then ((prime_IsPrime.f k 91).bind fun t1100 => (some (!t1100))) else (some false))) else (some false)) = some r := by rw [if_pos rfl] at H; exact H
      clear H
      have H := H1
      clear H1
      by_cases c11 : (t1087.toList == ([49, 48] : List UInt8) && (t1088.toList == ([57] : List UInt8))) = true
      ·rw [if_pos c11] at H
       have c11b0 : (t1087.toList == ([49, 48] : List UInt8) && (t1088.toList == ([57] : List UInt8))) = true := c11
       (try (have c11b1 : decide (t1087.toList = ([49, 48] : List UInt8) && (t1088.toList == ([57] : List UInt8))) = true := by simpa using c11))
       (try (have c11b2 : (t1087.toList == ([49, 48] : List UInt8) && (t1088.toList == ([57] : List UInt8))) = true := by simpa using c11))
       clear c11
       replace H := Option.bind_eq_some_iff.mp H
       obtain ⟨t1099, A120, H⟩ := H
       replace H : (if t1099 = true then ((prime_IsPrime.f k 91).bind fun t1100 => (some (!t1100))) else (some false)) = some r := H
       have A12 := Aside0.mk A120
       clear A120
       by_cases c13 : t1099 = true
       ·subst c13
        have H1 : ((prime_IsPrime.f k 91).bind fun t1100 => (some (!t1100))) = some r := by rw [if_pos rfl] at H; exact H
        clear H
        have H := H1
        clear H1
        replace H := Option.bind_eq_some_iff.mp H
        obtain ⟨t1100, A140, H⟩ := H
        replace H : (some (!t1100)) = some r := H
        have A14 := Aside0.mk A140
        clear A140
        obtain rfl := Option.some.inj H
        go_enter Tryz.func58, Tryz.ntmps58
        go_wp2_with (first | ((with_reducible refine gate_callee (f := 62) rfl ?_); refine goesL_ (some 8) rfl rfl Tryz.func62 (by kernel_rfl) rfl #[.int .i64 4] rfl (by (try simp only [List.map_toArray, List.map_cons, List.map_nil]); first | done | rfl | (simp only [List.length_drop, List.length_take]; rfl)) ?_; (with_reducible refine (prime_First.calls k 4 t1070 t1073 _ ?side1 A1.out).mono ?_); (case side1 => refine TabW.below hT ?_; repeat (first | (with_reducible first | exact HB.out | apply below_alloc | apply pw_below_drewN | apply below_drew1) | exact HB.out)); rintro e w15 ⟨v1071, rfl, ho0, hb⟩; refine ⟨_, rfl, ?_⟩; have n0_ := Aside0.mk (Kd.V_lower (Kd.V_mono (ok' := fun k_ => True) ho0 (fun k_ hk_ => trivial)) (below_size (by repeat (first | (with_reducible first | exact HB.out | apply below_alloc | apply pw_below_drewN | apply below_drew1) | exact HB.out)))); have n1_ := Aside0.mk (below_step (by repeat (first | (with_reducible first | exact HB.out | apply below_alloc | apply pw_below_drewN | apply below_drew1) | exact HB.out)) hb); clear HB; have HO1072 := n0_; have HB := n1_; clear n0_ n1_; (try clear hb); (try clear hb2); (try clear hk); (try clear hi); (try clear ho0)) | ((with_reducible refine gate_dst (N := 12) rfl ?_); (try (refine gate_guard (by rfl) ?_; dsimp only)); refine Kd.R_lit (Kd.int .i64) _ 3 ?hg (N := 12) ?hd (xs := ([2, 3, 5] : List Int)) (inner := [.int .i64 2, .int .i64 3, .int .i64 5]) (ok := fun _ => True) (okp := fun _ => True) ?hr ?hp (fun _ hk => hk) trivial (Below.refl _ _) (Nat.le_refl _) (by simp) ?_; (case hd => rfl); (case hg => rfl); (case hr => first | (go_simp; done) | (go_simp; rfl)); (case hp => exact (Reps.one (show Kd.M (Kd.int .i64) _ _ _ 2 [.int .i64 2] from rfl) (Reps.one (show Kd.M (Kd.int .i64) _ _ _ 3 [.int .i64 3] from rfl) (Reps.one (show Kd.M (Kd.int .i64) _ _ _ 5 [.int .i64 5] from rfl) (Reps.none _ _))))); intro v1075 w16 ho17 hb hg_ hnew_; clear hg_ hnew_; (first | rw [← Ny1074.out] at ho17 | (simp only [Int.reduceToNat] at ho17; rw [← Ny1074.out] at ho17)); have n0_ := Aside0.mk (Kd.V_elder' (by (with_reducible repeat (first | apply Kd.V_alloc | apply Kd.V_drewN | apply Kd.V_drew)); exact HO1072.out) (Kd.R_base ho17) hb); have n1_ := Aside0.mk (Kd.R_lower ho17 (below_size (by repeat (first | (with_reducible first | exact HB.out | apply below_alloc | apply pw_below_drewN | apply below_drew1) | exact HB.out)))); have n2_ := Aside0.mk (below_step (by repeat (first | (with_reducible first | exact HB.out | apply below_alloc | apply pw_below_drewN | apply below_drew1) | exact HB.out)) hb); clear HO1072; clear HB; have HO1072 := n0_; have HO1076 := n1_; have HB := n2_; clear n0_ n1_ n2_; clear hb ho17; obtain ⟨Ao18, co18, eo18⟩ := Kd.R_slice HO1076.out; subst eo18) | ((with_reducible refine gate_callee (f := 78) rfl ?_); refine goesL_ (some 14) rfl rfl Tryz.func78 (by kernel_rfl) rfl #[.slice Ao18 y1074.length co18, .agg #[.string (⟨#[56, 49]⟩ : ByteArray), .string (⟨#[56, 48]⟩ : ByteArray)]] rfl (by (try simp only [List.map_toArray, List.map_cons, List.map_nil]); first | done | rfl | (simp only [List.length_drop, List.length_take]; rfl)) ?_; (with_reducible refine (prime_Factor.calls k _ _ y1074 (⟨#[56, 49]⟩ : ByteArray) (⟨#[56, 48]⟩ : ByteArray) t1077 t1080 _ ?side1 ?side2 ?side3 A2.out).mono ?_); (case side1 => refine TabW.below hT ?_; repeat (first | (with_reducible first | exact HB.out | apply below_alloc | apply pw_below_drewN | apply below_drew1) | exact HB.out)); (case side2 => repeat (first | exact (Kd.R_reads' HO1076.out).2.2 | (with_reducible refine Kd.C_alloc ?_ _) | (with_reducible refine Kd.C_drewN ?_ _) | (with_reducible refine Kd.C_drew ?_))); (case side3 => exact (Kd.R_reads' HO1076.out).2.1); rintro e w19 ⟨v1078, rfl, ho0, hb⟩; refine ⟨_, rfl, ?_⟩; have n0_ := Aside0.mk (Kd.V_elder' (by (with_reducible repeat (first | apply Kd.V_alloc | apply Kd.V_drewN | apply Kd.V_drew)); exact HO1072.out) (Kd.R_base ho0) hb); have n1_ := Aside0.mk (Kd.R_elder' (by (with_reducible repeat (first | apply Kd.R_alloc | apply Kd.R_drewN | apply Kd.R_drew)); exact HO1076.out) (Kd.R_base ho0) hb); have n2_ := Aside0.mk (Kd.R_lower (Kd.R_new' ho0 (Kd.R_lt (by (with_reducible repeat (first | apply Kd.R_alloc | apply Kd.R_drewN | apply Kd.R_drew)); exact HO1076.out))) (below_size (by repeat (first | (with_reducible first | exact HB.out | apply below_alloc | apply pw_below_drewN | apply below_drew1) | exact HB.out)))); have n3_ := Aside0.mk (below_step (by repeat (first | (with_reducible first | exact HB.out | apply below_alloc | apply pw_below_drewN | apply below_drew1) | exact HB.out)) hb); clear HO1072; clear HO1076; clear HB; have HO1072 := n0_; have HO1076 := n1_; have HO1079 := n2_; have HB := n3_; clear n0_ n1_ n2_ n3_; (try clear hb); (try clear hb2); (try clear hk); (try clear hi); (try clear ho0)) | ((with_reducible refine gate_dst (N := 18) rfl ?_); (try (refine gate_guard (by rfl) ?_; dsimp only)); refine Kd.R_lit (Kd.int .i64) _ 3 ?hg (N := 18) ?hd (xs := ([2, 3, 5] : List Int)) (inner := [.int .i64 2, .int .i64 3, .int .i64 5]) (ok := fun _ => True) (okp := fun _ => True) ?hr ?hp (fun _ hk => hk) trivial (Below.refl _ _) (Nat.le_refl _) (by simp) ?_; (case hd => rfl); (case hg => rfl); (case hr => first | (go_simp; done) | (go_simp; rfl)); (case hp => exact (Reps.one (show Kd.M (Kd.int .i64) _ _ _ 2 [.int .i64 2] from rfl) (Reps.one (show Kd.M (Kd.int .i64) _ _ _ 3 [.int .i64 3] from rfl) (Reps.one (show Kd.M (Kd.int .i64) _ _ _ 5 [.int .i64 5] from rfl) (Reps.none _ _))))); intro v1082 w20 ho21 hb hg_ hnew_; clear hg_ hnew_; (first | rw [← Ny1081.out] at ho21 | (simp only [Int.reduceToNat] at ho21; rw [← Ny1081.out] at ho21)); have n0_ := Aside0.mk (Kd.V_elder' (by (with_reducible repeat (first | apply Kd.V_alloc | apply Kd.V_drewN | apply Kd.V_drew)); exact HO1072.out) (Kd.R_base ho21) hb); have n1_ := Aside0.mk (Kd.R_elder' (by (with_reducible repeat (first | apply Kd.R_alloc | apply Kd.R_drewN | apply Kd.R_drew)); exact HO1076.out) (Kd.R_base ho21) hb); have n2_ := Aside0.mk (Kd.R_elder' (by (with_reducible repeat (first | apply Kd.R_alloc | apply Kd.R_drewN | apply Kd.R_drew)); exact HO1079.out) (Kd.R_base ho21) hb); have n3_ := Aside0.mk (Kd.R_lower (Kd.R_new' (Kd.R_new' ho21 (Kd.R_lt (by (with_reducible repeat (first | apply Kd.R_alloc | apply Kd.R_drewN | apply Kd.R_drew)); exact HO1076.out))) (Kd.R_lt (by (with_reducible repeat (first | apply Kd.R_alloc | apply Kd.R_drewN | apply Kd.R_drew)); exact HO1079.out))) (below_size (by repeat (first | (with_reducible first | exact HB.out | apply below_alloc | apply pw_below_drewN | apply below_drew1) | exact HB.out)))); have n4_ := Aside0.mk (below_step (by repeat (first | (with_reducible first | exact HB.out | apply below_alloc | apply pw_below_drewN | apply below_drew1) | exact HB.out)) hb); clear HO1072; clear HO1076; clear HO1079; clear HB; have HO1072 := n0_; have HO1076 := n1_; have HO1079 := n2_; have HO1083 := n3_; have HB := n4_; clear n0_ n1_ n2_ n3_ n4_; clear hb ho21) | ((with_reducible refine gate_dst (N := 19) rfl ?_); (try (refine gate_guard (by rfl) ?_; dsimp only)); refine Kd.R_lit (Kd.int .i64) _ 3 ?hg (N := 19) ?hd (xs := ([1, (-2), 1] : List Int)) (inner := [.int .i64 1, .int .i64 (-2), .int .i64 1]) (ok := fun _ => True) (okp := fun _ => True) ?hr ?hp (fun _ hk => hk) trivial (Below.refl _ _) (Nat.le_refl _) (by simp) ?_; (case hd => rfl); (case hg => rfl); (case hr => first | (go_simp; done) | (go_simp; rfl)); (case hp => exact (Reps.one (show Kd.M (Kd.int .i64) _ _ _ 1 [.int .i64 1] from rfl) (Reps.one (show Kd.M (Kd.int .i64) _ _ _ (-2) [.int .i64 (-2)] from rfl) (Reps.one (show Kd.M (Kd.int .i64) _ _ _ 1 [.int .i64 1] from rfl) (Reps.none _ _))))); intro v1085 w22 ho23 hb hg_ hnew_; clear hg_ hnew_; (first | rw [← Ny1084.out] at ho23 | (simp only [Int.reduceToNat] at ho23; rw [← Ny1084.out] at ho23)); have n0_ := Aside0.mk (Kd.V_elder' (by (with_reducible repeat (first | apply Kd.V_alloc | apply Kd.V_drewN | apply Kd.V_drew)); exact HO1072.out) (Kd.R_base ho23) hb); have n1_ := Aside0.mk (Kd.R_elder' (by (with_reducible repeat (first | apply Kd.R_alloc | apply Kd.R_drewN | apply Kd.R_drew)); exact HO1076.out) (Kd.R_base ho23) hb); have n2_ := Aside0.mk (Kd.R_elder' (by (with_reducible repeat (first | apply Kd.R_alloc | apply Kd.R_drewN | apply Kd.R_drew)); exact HO1079.out) (Kd.R_base ho23) hb); have n3_ := Aside0.mk (Kd.R_elder' (by (with_reducible repeat (first | apply Kd.R_alloc | apply Kd.R_drewN | apply Kd.R_drew)); exact HO1083.out) (Kd.R_base ho23) hb); have n4_ := Aside0.mk (Kd.R_lower (Kd.R_new' (Kd.R_new' (Kd.R_new' ho23 (Kd.R_lt (by (with_reducible repeat (first | apply Kd.R_alloc | apply Kd.R_drewN | apply Kd.R_drew)); exact HO1076.out))) (Kd.R_lt (by (with_reducible repeat (first | apply Kd.R_alloc | apply Kd.R_drewN | apply Kd.R_drew)); exact HO1079.out))) (Kd.R_lt (by (with_reducible repeat (first | apply Kd.R_alloc | apply Kd.R_drewN | apply Kd.R_drew)); exact HO1083.out))) (below_size (by repeat (first | (with_reducible first | exact HB.out | apply below_alloc | apply pw_below_drewN | apply below_drew1) | exact HB.out)))); have n5_ := Aside0.mk (below_step (by repeat (first | (with_reducible first | exact HB.out | apply below_alloc | apply pw_below_drewN | apply below_drew1) | exact HB.out)) hb); clear HO1072; clear HO1076; clear HO1079; clear HO1083; clear HB; have HO1072 := n0_; have HO1076 := n1_; have HO1079 := n2_; have HO1083 := n3_; have HO1086 := n4_; have HB := n5_; clear n0_ n1_ n2_ n3_ n4_ n5_; clear hb ho23; obtain ⟨Ao24, co24, eo24⟩ := Kd.R_slice HO1083.out; subst eo24; obtain ⟨Ao25, co25, eo25⟩ := Kd.R_slice HO1086.out; subst eo25) | ((with_reducible refine gate_callee (f := 79) rfl ?_); refine goesL_ (some 20) rfl rfl Tryz.func79 (by kernel_rfl) rfl #[.slice Ao24 y1081.length co24, .slice Ao25 y1084.length co25] rfl (by (try simp only [List.map_toArray, List.map_cons, List.map_nil]); first | done | rfl | (simp only [List.length_drop, List.length_take]; rfl)) ?_; (with_reducible refine (prime_Value.calls k _ _ y1081 _ _ y1084 t1087 t1088 t1089 _ ?side1 ?side2 ?side3 ?side4 ?side5 A3.out).mono ?_); (case side1 => refine TabW.below hT ?_; repeat (first | (with_reducible first | exact HB.out | apply below_alloc | apply pw_below_drewN | apply below_drew1) | exact HB.out)); (case side2 => repeat (first | exact (Kd.R_reads' HO1083.out).2.2 | (with_reducible refine Kd.C_alloc ?_ _) | (with_reducible refine Kd.C_drewN ?_ _) | (with_reducible refine Kd.C_drew ?_))); (case side3 => exact (Kd.R_reads' HO1083.out).2.1); (case side4 => repeat (first | exact (Kd.R_reads' HO1086.out).2.2 | (with_reducible refine Kd.C_alloc ?_ _) | (with_reducible refine Kd.C_drewN ?_ _) | (with_reducible refine Kd.C_drew ?_))); (case side5 => exact (Kd.R_reads' HO1086.out).2.1); rintro e w26 ⟨rfl, hb⟩; refine ⟨_, rfl, ?_⟩; have n0_ := Aside0.mk (Kd.V_below (by (with_reducible repeat (first | apply Kd.V_alloc | apply Kd.V_drewN | apply Kd.V_drew)); exact HO1072.out) hb); have n1_ := Aside0.mk (Kd.R_below (by (with_reducible repeat (first | apply Kd.R_alloc | apply Kd.R_drewN | apply Kd.R_drew)); exact HO1076.out) hb); have n2_ := Aside0.mk (Kd.R_below (by (with_reducible repeat (first | apply Kd.R_alloc | apply Kd.R_drewN | apply Kd.R_drew)); exact HO1079.out) hb); have n3_ := Aside0.mk (Kd.R_below (by (with_reducible repeat (first | apply Kd.R_alloc | apply Kd.R_drewN | apply Kd.R_drew)); exact HO1083.out) hb); have n4_ := Aside0.mk (Kd.R_below (by (with_reducible repeat (first | apply Kd.R_alloc | apply Kd.R_drewN | apply Kd.R_drew)); exact HO1086.out) hb); have n5_ := Aside0.mk (below_step (by repeat (first | (with_reducible first | exact HB.out | apply below_alloc | apply pw_below_drewN | apply below_drew1) | exact HB.out)) hb); clear HO1072; clear HO1076; clear HO1079; clear HO1083; clear HO1086; clear HB; have HO1072 := n0_; have HO1076 := n1_; have HO1079 := n2_; have HO1083 := n3_; have HO1086 := n4_; have HB := n5_; clear n0_ n1_ n2_ n3_ n4_ n5_; (try clear hb); (try clear hb2); (try clear hk); (try clear hi)) | ((with_reducible refine gate_dst (N := 5) rfl ?_); (try (refine gate_guard (by rfl) ?_; dsimp only)); refine box_event ?hg (N := 5) ?hd (cs := #[.string (⟨#[]⟩ : ByteArray), .string (⟨#[]⟩ : ByteArray)]) (t := 38) ?hr ?_; (case hd => rfl); (case hg => rfl); (case hr => first | (go_simp; done) | (go_simp; rfl)); intro gb1090 hg w27 hbox hb; have n0_ := Aside0.mk (Kd.V_below (Kd.V_elderB (by (with_reducible repeat (first | apply Kd.V_alloc | apply Kd.V_drewN | apply Kd.V_drew)); exact HO1072.out) gb1090 (Nat.le_of_eq hg.symm)) hb); have n1_ := Aside0.mk (Kd.R_below (by (with_reducible repeat (first | apply Kd.R_alloc | apply Kd.R_drewN | apply Kd.R_drew)); exact HO1076.out) hb); have n2_ := Aside0.mk (Kd.R_below (by (with_reducible repeat (first | apply Kd.R_alloc | apply Kd.R_drewN | apply Kd.R_drew)); exact HO1079.out) hb); have n3_ := Aside0.mk (Kd.R_below (by (with_reducible repeat (first | apply Kd.R_alloc | apply Kd.R_drewN | apply Kd.R_drew)); exact HO1083.out) hb); have n4_ := Aside0.mk (Kd.R_below (by (with_reducible repeat (first | apply Kd.R_alloc | apply Kd.R_drewN | apply Kd.R_drew)); exact HO1086.out) hb); have n5_ := Aside0.mk (below_step (by repeat (first | (with_reducible first | exact HB.out | apply below_alloc | apply pw_below_drewN | apply below_drew1) | exact HB.out)) hb); have n6_ := Aside0.mk (hbox); have n7_ := Aside0.mk ((by rw [hg]; exact (below_size (by repeat (first | (with_reducible first | exact HB.out | apply below_alloc | apply pw_below_drewN | apply below_drew1) | exact HB.out))) : w.heap.size ≤ gb1090)); have n8_ := Aside0.mk ((by rw [hg]; exact (below_size (by repeat (first | (with_reducible first | exact HB.out | apply below_alloc | apply pw_below_drewN | apply below_drew1) | exact HB.out))) : w.heap.size ≤ gb1090)); clear HO1072; clear HO1076; clear HO1079; clear HO1083; clear HO1086; clear HB; have HO1072 := n0_; have HO1076 := n1_; have HO1079 := n2_; have HO1083 := n3_; have HO1086 := n4_; have HB := n5_; have BK1090 := n6_; have GW1090 := n7_; have GE1090 := n8_; clear n0_ n1_ n2_ n3_ n4_ n5_ n6_ n7_ n8_; clear hb hbox hg; have hcz28_0 : w27.cell? ⟨gb1090, 0, none⟩ = some (.string (⟨#[]⟩ : ByteArray)) := (blk_cell BK1090.out 0).trans rfl; have hcz28_1 : w27.cell? ⟨gb1090, 1, none⟩ = some (.string (⟨#[]⟩ : ByteArray)) := (blk_cell BK1090.out 1).trans rfl; have hfz28_0 := blk_frozen BK1090.out 0; have hfz28_1 := blk_frozen BK1090.out 1) | ((with_reducible refine gate_dst (N := 35) rfl ?_); (try (refine gate_guard (by rfl) ?_; dsimp only)); refine Kd.R_lit (Kd.int .i64) _ 3 ?hg (N := 35) ?hd (xs := ([2, 3, 5, 7] : List Int)) (inner := [.int .i64 2, .int .i64 3, .int .i64 5, .int .i64 7]) (ok := fun _ => True) (okp := fun _ => True) ?hr ?hp (fun _ hk => hk) trivial (Below.refl _ _) (Nat.le_refl _) (by simp) ?_; (case hd => rfl); (case hg => rfl); (case hr => first | (go_simp; done) | (go_simp; rfl)); (case hp => exact (Reps.one (show Kd.M (Kd.int .i64) _ _ _ 2 [.int .i64 2] from rfl) (Reps.one (show Kd.M (Kd.int .i64) _ _ _ 3 [.int .i64 3] from rfl) (Reps.one (show Kd.M (Kd.int .i64) _ _ _ 5 [.int .i64 5] from rfl) (Reps.one (show Kd.M (Kd.int .i64) _ _ _ 7 [.int .i64 7] from rfl) (Reps.none _ _)))))); intro v1092 w29 ho30 hb hg_ hnew_; clear hg_ hnew_; (first | rw [← Ny1091.out] at ho30 | (simp only [Int.reduceToNat] at ho30; rw [← Ny1091.out] at ho30)); have n0_ := Aside0.mk (Kd.V_elder' (by (with_reducible repeat (first | apply Kd.V_alloc | apply Kd.V_drewN | apply Kd.V_drew)); exact (Kd.V_mono (Kd.V_far (p := ⟨gb1090, 1, none⟩) (Kd.V_far (p := ⟨gb1090, 0, none⟩) (Kd.V_mono HO1072.out (fun k_ hk => (⟨hk, hk.2⟩ : _ ∧ k_ ≠ gb1090))) (fun _ hk => hk.2) (.string t1087)) (fun _ hk => hk.2) (.string t1088)) (fun _ h_ => h_.1))) (Kd.R_base ho30) hb); have n1_ := Aside0.mk (Kd.R_elder' (by (with_reducible repeat (first | apply Kd.R_alloc | apply Kd.R_drewN | apply Kd.R_drew)); exact (Kd.R_mono (Kd.R_far (p := ⟨gb1090, 1, none⟩) (Kd.R_far (p := ⟨gb1090, 0, none⟩) (Kd.R_types HO1076.out BK1090.out (by decide)) (fun _ hk => hk.2) (.string t1087)) (fun _ hk => hk.2) (.string t1088)) (fun _ h_ => h_.1))) (Kd.R_base ho30) hb); have n2_ := Aside0.mk (Kd.R_elder' (by (with_reducible repeat (first | apply Kd.R_alloc | apply Kd.R_drewN | apply Kd.R_drew)); exact (Kd.R_mono (Kd.R_far (p := ⟨gb1090, 1, none⟩) (Kd.R_far (p := ⟨gb1090, 0, none⟩) (Kd.R_types HO1079.out BK1090.out (by decide)) (fun _ hk => hk.2) (.string t1087)) (fun _ hk => hk.2) (.string t1088)) (fun _ h_ => h_.1))) (Kd.R_base ho30) hb); have n3_ := Aside0.mk (Kd.R_elder' (by (with_reducible repeat (first | apply Kd.R_alloc | apply Kd.R_drewN | apply Kd.R_drew)); exact (Kd.R_mono (Kd.R_far (p := ⟨gb1090, 1, none⟩) (Kd.R_far (p := ⟨gb1090, 0, none⟩) (Kd.R_types HO1083.out BK1090.out (by decide)) (fun _ hk => hk.2) (.string t1087)) (fun _ hk => hk.2) (.string t1088)) (fun _ h_ => h_.1))) (Kd.R_base ho30) hb); have n4_ := Aside0.mk (Kd.R_elder' (by (with_reducible repeat (first | apply Kd.R_alloc | apply Kd.R_drewN | apply Kd.R_drew)); exact (Kd.R_mono (Kd.R_far (p := ⟨gb1090, 1, none⟩) (Kd.R_far (p := ⟨gb1090, 0, none⟩) (Kd.R_types HO1086.out BK1090.out (by decide)) (fun _ hk => hk.2) (.string t1087)) (fun _ hk => hk.2) (.string t1088)) (fun _ h_ => h_.1))) (Kd.R_base ho30) hb); have n5_ := Aside0.mk (Kd.R_lower (Kd.R_new' (Kd.R_new' (Kd.R_new' (Kd.R_new' ho30 (Kd.R_lt (by (with_reducible repeat (first | apply Kd.R_alloc | apply Kd.R_drewN | apply Kd.R_drew)); exact (Kd.R_mono (Kd.R_far (p := ⟨gb1090, 1, none⟩) (Kd.R_far (p := ⟨gb1090, 0, none⟩) (Kd.R_types HO1076.out BK1090.out (by decide)) (fun _ hk => hk.2) (.string t1087)) (fun _ hk => hk.2) (.string t1088)) (fun _ h_ => h_.1))))) (Kd.R_lt (by (with_reducible repeat (first | apply Kd.R_alloc | apply Kd.R_drewN | apply Kd.R_drew)); exact (Kd.R_mono (Kd.R_far (p := ⟨gb1090, 1, none⟩) (Kd.R_far (p := ⟨gb1090, 0, none⟩) (Kd.R_types HO1079.out BK1090.out (by decide)) (fun _ hk => hk.2) (.string t1087)) (fun _ hk => hk.2) (.string t1088)) (fun _ h_ => h_.1))))) (Kd.R_lt (by (with_reducible repeat (first | apply Kd.R_alloc | apply Kd.R_drewN | apply Kd.R_drew)); exact (Kd.R_mono (Kd.R_far (p := ⟨gb1090, 1, none⟩) (Kd.R_far (p := ⟨gb1090, 0, none⟩) (Kd.R_types HO1083.out BK1090.out (by decide)) (fun _ hk => hk.2) (.string t1087)) (fun _ hk => hk.2) (.string t1088)) (fun _ h_ => h_.1))))) (Kd.R_lt (by (with_reducible repeat (first | apply Kd.R_alloc | apply Kd.R_drewN | apply Kd.R_drew)); exact (Kd.R_mono (Kd.R_far (p := ⟨gb1090, 1, none⟩) (Kd.R_far (p := ⟨gb1090, 0, none⟩) (Kd.R_types HO1086.out BK1090.out (by decide)) (fun _ hk => hk.2) (.string t1087)) (fun _ hk => hk.2) (.string t1088)) (fun _ h_ => h_.1))))) (below_size (by repeat (first | (with_reducible first | exact HB.out | apply below_alloc | apply pw_below_drewN | apply below_drew1 | refine below_set ?_ GE1090.out) | exact HB.out)))); have n6_ := Aside0.mk (blk_below (g := gb1090) (o := .cells #[.string t1087, .string t1088] 38 (0, 0)) (by (with_reducible repeat (first | refine blk_drewN ?_ _ | refine blk_drew ?_ | refine blk_alloc ?_ _)); refine blk_put (cs := #[.string t1087, .string (⟨#[]⟩ : ByteArray)]) ?_ 1 _ rfl; (with_reducible repeat (first | refine blk_drewN ?_ _ | refine blk_drew ?_ | refine blk_alloc ?_ _)); refine blk_put (cs := #[.string (⟨#[]⟩ : ByteArray), .string (⟨#[]⟩ : ByteArray)]) ?_ 0 _ rfl; (with_reducible repeat (first | refine blk_drewN ?_ _ | refine blk_drew ?_ | refine blk_alloc ?_ _)); exact BK1090.out) hb); have n7_ := Aside0.mk (below_step (by repeat (first | (with_reducible first | exact HB.out | apply below_alloc | apply pw_below_drewN | apply below_drew1 | refine below_set ?_ GE1090.out) | exact HB.out)) hb); clear HO1072; clear HO1076; clear HO1079; clear HO1083; clear HO1086; clear BK1090; clear HB; have HO1072 := n0_; have HO1076 := n1_; have HO1079 := n2_; have HO1083 := n3_; have HO1086 := n4_; have HO1093 := n5_; have BK1090 := n6_; have HB := n7_; clear n0_ n1_ n2_ n3_ n4_ n5_ n6_ n7_; clear hb ho30; obtain ⟨Ao31, co31, eo31⟩ := Kd.V_slice HO1072.out; subst eo31; obtain ⟨Ao32, co32, eo32⟩ := Kd.R_slice HO1093.out; subst eo32) | (go_at_call 63; (with_reducible refine (api_Primes_int_63.calls k _ _ t1070 _ _ y1091 true _ ?side1 ?side2 ?side3 ?side4 A7.out).mono ?_); (case side1 => repeat (first | exact (Kd.V_reads' HO1072.out).2.2 | (with_reducible refine Kd.C_alloc ?_ _) | (with_reducible refine Kd.C_drewN ?_ _) | (with_reducible refine Kd.C_drew ?_))); (case side2 => exact (Kd.V_reads' HO1072.out).2.1); (case side3 => repeat (first | exact (Kd.R_reads' HO1093.out).2.2 | (with_reducible refine Kd.C_alloc ?_ _) | (with_reducible refine Kd.C_drewN ?_ _) | (with_reducible refine Kd.C_drew ?_))); (case side4 => exact (Kd.R_reads' HO1093.out).2.1); rintro e w' ⟨rfl, ⟨nd, rfl⟩⟩) | ((with_reducible refine gate_dst (N := 40) rfl ?_); (try (refine gate_guard (by rfl) ?_; dsimp only)); refine Kd.R_lit (Kd.int .i64) _ 3 ?hg (N := 40) ?hd (xs := ([(-4), 4, (-1)] : List Int)) (inner := [.int .i64 (-4), .int .i64 4, .int .i64 (-1)]) (ok := fun _ => True) (okp := fun _ => True) ?hr ?hp (fun _ hk => hk) trivial (Below.refl _ _) (Nat.le_refl _) (by simp) ?_; (case hd => rfl); (case hg => rfl); (case hr => first | (go_simp; done) | (go_simp; rfl)); (case hp => exact (Reps.one (show Kd.M (Kd.int .i64) _ _ _ (-4) [.int .i64 (-4)] from rfl) (Reps.one (show Kd.M (Kd.int .i64) _ _ _ 4 [.int .i64 4] from rfl) (Reps.one (show Kd.M (Kd.int .i64) _ _ _ (-1) [.int .i64 (-1)] from rfl) (Reps.none _ _))))); intro v1096 w33 ho34 hb hg_ hnew_; clear hg_ hnew_; (first | rw [← Ny1095.out] at ho34 | (simp only [Int.reduceToNat] at ho34; rw [← Ny1095.out] at ho34)); have n0_ := Aside0.mk (Kd.V_elder' (by (with_reducible repeat (first | apply Kd.V_alloc | apply Kd.V_drewN | apply Kd.V_drew)); exact HO1072.out) (Kd.R_base ho34) hb); have n1_ := Aside0.mk (Kd.R_elder' (by (with_reducible repeat (first | apply Kd.R_alloc | apply Kd.R_drewN | apply Kd.R_drew)); exact HO1076.out) (Kd.R_base ho34) hb); have n2_ := Aside0.mk (Kd.R_elder' (by (with_reducible repeat (first | apply Kd.R_alloc | apply Kd.R_drewN | apply Kd.R_drew)); exact HO1079.out) (Kd.R_base ho34) hb); have n3_ := Aside0.mk (Kd.R_elder' (by (with_reducible repeat (first | apply Kd.R_alloc | apply Kd.R_drewN | apply Kd.R_drew)); exact HO1083.out) (Kd.R_base ho34) hb); have n4_ := Aside0.mk (Kd.R_elder' (by (with_reducible repeat (first | apply Kd.R_alloc | apply Kd.R_drewN | apply Kd.R_drew)); exact HO1086.out) (Kd.R_base ho34) hb); have n5_ := Aside0.mk (Kd.R_elder' (by (with_reducible repeat (first | apply Kd.R_alloc | apply Kd.R_drewN | apply Kd.R_drew)); exact HO1093.out) (Kd.R_base ho34) hb); have n6_ := Aside0.mk (Kd.R_lower (Kd.R_new' (Kd.R_new' (Kd.R_new' (Kd.R_new' (Kd.R_new' ho34 (Kd.R_lt (by (with_reducible repeat (first | apply Kd.R_alloc | apply Kd.R_drewN | apply Kd.R_drew)); exact HO1076.out))) (Kd.R_lt (by (with_reducible repeat (first | apply Kd.R_alloc | apply Kd.R_drewN | apply Kd.R_drew)); exact HO1079.out))) (Kd.R_lt (by (with_reducible repeat (first | apply Kd.R_alloc | apply Kd.R_drewN | apply Kd.R_drew)); exact HO1083.out))) (Kd.R_lt (by (with_reducible repeat (first | apply Kd.R_alloc | apply Kd.R_drewN | apply Kd.R_drew)); exact HO1086.out))) (Kd.R_lt (by (with_reducible repeat (first | apply Kd.R_alloc | apply Kd.R_drewN | apply Kd.R_drew)); exact HO1093.out))) (below_size (by repeat (first | (with_reducible first | exact HB.out | apply below_alloc | apply pw_below_drewN | apply below_drew1 | refine below_set ?_ GE1090.out) | exact HB.out)))); have n7_ := Aside0.mk (blk_below (g := gb1090) (o := .cells #[.string t1087, .string t1088] 38 (0, 0)) (by (with_reducible repeat (first | refine blk_drewN ?_ _ | refine blk_drew ?_ | refine blk_alloc ?_ _)); exact BK1090.out) hb); have n8_ := Aside0.mk (below_step (by repeat (first | (with_reducible first | exact HB.out | apply below_alloc | apply pw_below_drewN | apply below_drew1 | refine below_set ?_ GE1090.out) | exact HB.out)) hb); clear HO1072; clear HO1076; clear HO1079; clear HO1083; clear HO1086; clear HO1093; clear BK1090; clear HB; have HO1072 := n0_; have HO1076 := n1_; have HO1079 := n2_; have HO1083 := n3_; have HO1086 := n4_; have HO1093 := n5_; have HO1097 := n6_; have BK1090 := n7_; have HB := n8_; clear n0_ n1_ n2_ n3_ n4_ n5_ n6_ n7_ n8_; clear hb ho34; obtain ⟨Ao35, co35, eo35⟩ := Kd.R_slice HO1079.out; subst eo35; obtain ⟨Ao36, co36, eo36⟩ := Kd.R_slice HO1097.out; subst eo36) | (go_at_call 71; (with_reducible refine (api_Row_int.calls k _ _ t1077 _ _ y1095 true _ ?side1 ?side2 ?side3 ?side4 A9.out).mono ?_); (case side1 => repeat (first | exact (Kd.R_reads' HO1079.out).2.2 | (with_reducible refine Kd.C_alloc ?_ _) | (with_reducible refine Kd.C_drewN ?_ _) | (with_reducible refine Kd.C_drew ?_))); (case side2 => exact (Kd.R_reads' HO1079.out).2.1); (case side3 => repeat (first | exact (Kd.R_reads' HO1097.out).2.2 | (with_reducible refine Kd.C_alloc ?_ _) | (with_reducible refine Kd.C_drewN ?_ _) | (with_reducible refine Kd.C_drew ?_))); (case side4 => exact (Kd.R_reads' HO1097.out).2.1); rintro e w' ⟨rfl, ⟨nd, rfl⟩⟩; have hcz37_0 : w33.cell? ⟨gb1090, 0, none⟩ = some (.string t1087) := (blk_cell BK1090.out 0).trans rfl; have hcz37_1 : w33.cell? ⟨gb1090, 1, none⟩ = some (.string t1088) := (blk_cell BK1090.out 1).trans rfl; have hfz37_0 := blk_frozen BK1090.out 0; have hfz37_1 := blk_frozen BK1090.out 1) | (go_at_call 59; (with_reducible refine (prime_IsPrime.calls k 97 true _ A12.out).mono ?_); rintro e w' ⟨rfl, ⟨nd, rfl⟩⟩) | (go_at_call 59; (with_reducible refine (prime_IsPrime.calls k 91 t1100 _ A14.out).mono ?_); rintro e w' ⟨rfl, ⟨nd, rfl⟩⟩))
        go_ret
        exact ⟨by first | rfl | (simp [errW_none, errW_some] <;> rfl) | (simp [*, errW_none, errW_some] <;> rfl), by repeat (first | (with_reducible first | exact HB.out | apply below_alloc | apply pw_below_drewN | apply below_drew1 | refine below_set ?_ GE1090.out) | exact HB.out)⟩
       ·replace c13 := Bool.eq_false_iff.mpr c13
        subst c13
        have H1 : (some false) = some r := by rw [if_neg (show ¬ (false = true) by decide)] at H; exact H
        clear H
        have H := H1
        clear H1
        exact absurd ((Option.some.inj H).trans hr) Bool.false_ne_true
      ·rw [if_neg c11] at H
       have c11b0 : (t1087.toList == ([49, 48] : List UInt8) && (t1088.toList == ([57] : List UInt8))) = false := by simpa using c11
       (try (have c11b1 : decide (t1087.toList = ([49, 48] : List UInt8) && (t1088.toList == ([57] : List UInt8))) = false := by simpa using c11))
       (try (have c11b2 : (t1087.toList == ([49, 48] : List UInt8) && (t1088.toList == ([57] : List UInt8))) = false := by simpa using c11))
       (try (have c11b3 : ¬ (t1087.toList = ([49, 48] : List UInt8) && (t1088.toList == ([57] : List UInt8))) := by simpa using c11))
       clear c11
       exact absurd ((Option.some.inj H).trans hr) Bool.false_ne_true
     ·replace c10 := Bool.eq_false_iff.mpr c10
      subst c10
      have H1 : (some false) = some r := by rw [if_neg (show ¬ (false = true) by decide)] at H; exact H
      clear H
      have H := H1
      clear H1
      exact absurd ((Option.some.inj H).trans hr) Bool.false_ne_true
    ·replace c8 := Bool.eq_false_iff.mpr c8
     subst c8
     have H1 : (some false) = some r := by rw [if_neg (show ¬ (false = true) by decide)] at H; exact H
     clear H
     have H := H1
     clear H1
     exact absurd ((Option.some.inj H).trans hr) Bool.false_ne_true
   ·rw [if_neg c6] at H
    have c6b0 : (t1089 == 0) = false := beq_eq_false_iff_ne.mpr c6
    have c6b1 : (t1089 != 0) = true := bne_iff_ne.mpr c6
    exact absurd ((Option.some.inj H).trans hr) Bool.false_ne_true
  ·rw [if_neg c5] at H
   have c5b0 : (t1080 == 0) = false := beq_eq_false_iff_ne.mpr c5
   have c5b1 : (t1080 != 0) = true := bne_iff_ne.mpr c5
   exact absurd ((Option.some.inj H).trans hr) Bool.false_ne_true
 ·rw [if_neg c4] at H
  have c4b0 : (t1073 == 0) = false := beq_eq_false_iff_ne.mpr c4
  have c4b1 : (t1073 != 0) = true := bne_iff_ne.mpr c4
  exact absurd ((Option.some.inj H).trans hr) Bool.false_ne_true
end Go.Proofs.YtccebdpjdpjgnaaGreatDoor.P
end
