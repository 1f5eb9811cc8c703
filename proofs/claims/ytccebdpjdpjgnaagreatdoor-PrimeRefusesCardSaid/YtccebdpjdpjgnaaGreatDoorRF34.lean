/-
parts of the walks and of the plain laws: Pschismalaw11isPrime Pschismalaw11check Pschismalaw11all Pschismalaw11PrimeLists
-/
import Derived.Shelf.SlicesE.DeleteFunc
import Derived.Lib.OwnBridge
import Derived.Test.YtccebdpjdpjgnaaGreatDoorRF32
set_option linter.unusedVariables false
set_option linter.unusedSimpArgs false
section
namespace Go.Proofs.YtccebdpjdpjgnaaGreatDoor.P
open Go.RowKit Go.Proofs.YtccebdpjdpjgnaaGreatDoorW.PrintWords Go.Proofs.YtccebdpjdpjgnaaGreatDoorW.PrintLast Go.Proofs.YtccebdpjdpjgnaaGreatDoorW.PrintMore
attribute [local go_sem] max2_int min2_int max_two min_two max_three min_three max_four min_four
mutual
def schismalaw11_isPrime.j0 : Nat → Int → Bool → Option (Bool)
 | 0, _, _ => none
 | k + 1, x0, x9 => if x9 = true then (some false) else (schismalaw11_isPrime.l0 k x0 2)
def schismalaw11_isPrime.l0 : Nat → Int → Int → Option (Bool)
 | 0, _, _ => none
 | k + 1, x0, x3 => if x3 < x0 then (if x3 = 0 then (none) else (if (Int.tmod x0 x3) = 0 then (some false) else (schismalaw11_isPrime.l0 k x0 (wrap64 (x3 + 1))))) else (some true)
end
def schismalaw11_isPrime.f (k : Nat) (a0 : Int) : Option (Bool) := if a0 < 2 then (schismalaw11_isPrime.j0 k a0 true) else (schismalaw11_isPrime.j0 k a0 (decide (a0 > 97)))
theorem schismalaw11_isPrime.mono_l : ∀ k, (∀ y0 y1, LeO (schismalaw11_isPrime.j0 k y0 y1) (schismalaw11_isPrime.j0 (k + 1) y0 y1)) ∧ (∀ y0 y1, LeO (schismalaw11_isPrime.l0 k y0 y1) (schismalaw11_isPrime.l0 (k + 1) y0 y1))
 | 0 => ⟨fun _ _ r h => by simp [schismalaw11_isPrime.j0] at h, fun _ _ r h => by simp [schismalaw11_isPrime.l0] at h⟩
 | k + 1 => by
  obtain ⟨ih0, ih1⟩ := schismalaw11_isPrime.mono_l k
  refine ⟨?_, ?_⟩
  ·intro y0 y1
   unfold schismalaw11_isPrime.j0
   repeat' first
   | (with_reducible exact ih0 _ _)
   | (with_reducible exact ih1 _ _)
   | (with_reducible exact LeO.refl _)
   | (with_reducible exact LeO.none _)
   | (with_reducible refine LeO.ite ?_ ?_)
   | (with_reducible refine LeO.bind ?_ (fun _ => ?_))
  ·intro y0 y1
   unfold schismalaw11_isPrime.l0
   repeat' first
   | (with_reducible exact ih0 _ _)
   | (with_reducible exact ih1 _ _)
   | (with_reducible exact LeO.refl _)
   | (with_reducible exact LeO.none _)
   | (with_reducible refine LeO.ite ?_ ?_)
   | (with_reducible refine LeO.bind ?_ (fun _ => ?_))
theorem schismalaw11_isPrime.mono : ∀ a0 k, LeO (schismalaw11_isPrime.f k a0) (schismalaw11_isPrime.f (k + 1) a0) := by
 intro a0 k
 obtain ⟨ih0, ih1⟩ := schismalaw11_isPrime.mono_l k
 unfold schismalaw11_isPrime.f
 repeat' first
   | (with_reducible exact ih0 _ _)
   | (with_reducible exact ih1 _ _)
   | (with_reducible exact LeO.refl _)
   | (with_reducible exact LeO.none _)
   | (with_reducible refine LeO.ite ?_ ?_)
   | (with_reducible refine LeO.bind ?_ (fun _ => ?_))
set_option maxHeartbeats 8000000 in
set_option maxRecDepth 100000 in
theorem schismalaw11_isPrime.calls (k : Nat) (a0 : Int) (r : Bool) (w : World) (h : schismalaw11_isPrime.f k a0 = some r) :
  Calls Tryz.prog 60 #[.int .i64 a0] w fun e w' => e = .returned (.bool r) ∧ Drawn0 w w' := by
 have H : (if a0 < 2 then (schismalaw11_isPrime.j0 k a0 true) else (schismalaw11_isPrime.j0 k a0 (decide (a0 > 97)))) = some r := h
 clear h
 have HC2 := Aside0.mk H
 clear H
 go_enter Tryz.func60, Tryz.ntmps60
 go_upto_region 1 with (fail)
 go_cut [9] (fun v9 wc => ∃ (kq : Nat) (x9_1 : Bool), v9 = .bool x9_1 ∧ Aside0 (schismalaw11_isPrime.j0 kq a0 x9_1 = some r) ∧ Aside0 (kq ≤ k) ∧ Drawn0 w wc)
 case first =>
  have H := HC2.out
  clear HC2
  by_cases c3 : a0 < 2
  ·rw [if_pos c3] at H
   have c3b0 : decide (a0 < 2) = true := decide_eq_true c3
   clear c3
   (first | rw [c3b0] | (simp only [i64_w, i32_w]; rw [c3b0]) | skip)
   have H' := Aside0.mk H
   clear H
   go_wp2
   go_meet
   case rel => exact ⟨_, (true), (by first | rfl | (simp; done) | (simp [*]; done)), H', ⟨by first | omega | exact Nat.le_refl _⟩, by repeat (first | exact Drawn0.refl _ | apply Drawn0.step)⟩
  ·rw [if_neg c3] at H
   have c3b0 : decide (a0 < 2) = false := decide_eq_false c3
   clear c3
   (first | rw [c3b0] | (simp only [i64_w, i32_w]; rw [c3b0]) | skip)
   have H' := Aside0.mk H
   clear H
   go_wp2
   go_meet
   case rel => exact ⟨_, (decide (a0 > 97)), (by first | rfl | (simp; done) | (simp [*]; done)), H', ⟨by first | omega | exact Nat.le_refl _⟩, by repeat (first | exact Drawn0.refl _ | apply Drawn0.step)⟩
 case rest =>
  clear HC2
  obtain ⟨kq, x9_1, rfl, HA, HJ1, ⟨mc1, rfl⟩⟩ := hcut
  cases kq with
  | zero => exact absurd HA.out (by simp [schismalaw11_isPrime.j0])
  | succ kj1 =>
   have H := HA.out
   clear HA
   simp only [schismalaw11_isPrime.j0] at H
   by_cases c4 : x9_1 = true
   ·subst c4
    have H1 : (some false) = some r := by rw [if_pos rfl] at H; exact H
    clear H
    have H := H1
    clear H1
    obtain rfl := Option.some.inj H
    go_wp2
    go_ret
    exact ⟨by first | rfl | (simp; done) | (simp [*]; done), by repeat (first | exact Drawn0.refl _ | apply Drawn0.step)⟩
   ·replace c4 := Bool.eq_false_iff.mpr c4
    subst c4
    have H1 : (schismalaw11_isPrime.l0 kj1 a0 2) = some r := by rw [if_neg (show ¬ (false = true) by decide)] at H; exact H
    clear H
    have H := H1
    clear H1
    have H' := Aside0.mk H
    clear H
    go_wp2
    go_loopg [3] kj1 (fun kq v3 w' => ∃ (x3_2 : Int), v3 = .int .i64 x3_2 ∧ Aside0 (schismalaw11_isPrime.l0 kq a0 x3_2 = some r) ∧ Aside0 (kq ≤ kj1) ∧ Drawn0 w w')
    case atStart => exact ⟨(2), (by first | rfl | (simp; done) | (simp [*]; done)), H', ⟨Nat.le_refl _⟩, by repeat (first | exact Drawn0.refl _ | apply Drawn0.step)⟩
    case round =>
     clear H'
     obtain ⟨x3_2, rfl, HA, HK2, ⟨m2, rfl⟩⟩ := hrel
     cases gk with
     | zero => exact absurd HA.out (by simp [schismalaw11_isPrime.l0])
     | succ k2 =>
      have H := HA.out
      clear HA
      simp only [schismalaw11_isPrime.l0] at H
      by_cases c5 : x3_2 < a0
      ·rw [if_pos c5] at H
       have c5b0 : decide (x3_2 < a0) = true := decide_eq_true c5
       clear c5
       by_cases c6 : x3_2 = 0
       case pos => rw [if_pos c6] at H; exact absurd H (by simp)
       rw [if_neg c6] at H
       have c6b0 : (x3_2 == 0) = false := beq_eq_false_iff_ne.mpr c6
       have c6b1 : (x3_2 != 0) = true := bne_iff_ne.mpr c6
       by_cases c7 : (Int.tmod a0 x3_2) = 0
       ·rw [if_pos c7] at H
        have c7b0 : ((Int.tmod a0 x3_2) == 0) = true := beq_iff_eq.mpr c7
        have c7b1 : ((Int.tmod a0 x3_2) != 0) = false := bne_eq_false_iff_eq.mpr c7
        clear c7
        obtain rfl := Option.some.inj H
        go_wp2
        go_ret
        exact ⟨by first | rfl | (simp; done) | (simp [*]; done), by repeat (first | exact Drawn0.refl _ | apply Drawn0.step)⟩
       ·rw [if_neg c7] at H
        have c7b0 : ((Int.tmod a0 x3_2) == 0) = false := beq_eq_false_iff_ne.mpr c7
        have c7b1 : ((Int.tmod a0 x3_2) != 0) = true := bne_iff_ne.mpr c7
        have H' := Aside0.mk H
        clear H
        go_wp2
        go_roundg k2
        case measure => have := HJ1.out; have := HK2.out; omega
        case rel => exact ⟨(wrap64 (x3_2 + 1)), (by first | rfl | (simp; done) | (simp [*]; done)), H', ⟨by have := HJ1.out; have := HK2.out; omega⟩, by repeat (first | exact Drawn0.refl _ | apply Drawn0.step)⟩
      ·rw [if_neg c5] at H
       have c5b0 : decide (x3_2 < a0) = false := decide_eq_false c5
       clear c5
       obtain rfl := Option.some.inj H
       go_wp2
       go_ret
       exact ⟨by first | rfl | (simp; done) | (simp [*]; done), by repeat (first | exact Drawn0.refl _ | apply Drawn0.step)⟩
end Go.Proofs.YtccebdpjdpjgnaaGreatDoor.P
end
section
namespace Go.Proofs.YtccebdpjdpjgnaaGreatDoor.P
open Go.RowKit Go.Proofs.YtccebdpjdpjgnaaGreatDoorW.PrintWords Go.Proofs.YtccebdpjdpjgnaaGreatDoorW.PrintLast Go.Proofs.YtccebdpjdpjgnaaGreatDoorW.PrintMore
attribute [local go_sem] max2_int min2_int max_two min_two max_three min_three max_four min_four
def schismalaw11_check.l0 : Nat → List Int → List Int → Int → Int → Option (Int)
 | 0, _, _, _, _ => none
 | k + 1, x0, x11, x12, x13 => if x13 < x12 then (if 0 ≤ x13 then (if x13 < (x11.length : Int) then ((schismalaw11_isPrime.f k (rd x11 x13)).bind fun t1102 => (if t1102 = true then (if x13 > 0 then (if 0 ≤ (wrap64 (x13 - 1)) then (if (wrap64 (x13 - 1)) < (x0.length : Int) then (if (rd x11 x13) ≤ (rd x0 (wrap64 (x13 - 1))) then (some 6) else (schismalaw11_check.l0 k x0 x11 x12 (wrap64 (x13 + 1)))) else (none)) else (none)) else (schismalaw11_check.l0 k x0 x11 x12 (wrap64 (x13 + 1)))) else (some 25))) else (none)) else (none)) else (some 0)
def schismalaw11_check.f (k : Nat) (l0 : List Int) : Option (Int) := if (l0.length : Int) = 0 then (some 13) else (if (l0.length : Int) > 6 then (some 4) else (schismalaw11_check.l0 k l0 l0 (l0.length : Int) 0))
set_option maxHeartbeats 8000000 in
set_option maxRecDepth 100000 in
theorem schismalaw11_check.calls (k : Nat) (A0 : Option Addr) (c0 : Nat) (l0 : List Int) (r : Int) (w : World) (hr0 : Kd.C (Kd.int .i64) w A0 l0.length l0) (hc0 : l0.length ≤ c0) (h : schismalaw11_check.f k l0 = some r) :
  Calls Tryz.prog 61 #[.slice A0 l0.length c0] w fun e w' => e = .returned (.int .i64 r) ∧ Drawn0 w w' := by
 have HR0 := Aside0.mk hr0
 have HC0 := Aside0.mk hc0
 clear hr0 hc0
 have H : (if (l0.length : Int) = 0 then (some 13) else (if (l0.length : Int) > 6 then (some 4) else (schismalaw11_check.l0 k l0 l0 (l0.length : Int) 0))) = some r := h
 clear h
 by_cases c2 : (l0.length : Int) = 0
 ·rw [if_pos c2] at H
  have c2b0 : ((l0.length : Int) == 0) = true := beq_iff_eq.mpr c2
  have c2b1 : ((l0.length : Int) != 0) = false := bne_eq_false_iff_eq.mpr c2
  clear c2
  obtain rfl := Option.some.inj H
  go_enter Tryz.func61, Tryz.ntmps61
  go_wp2
  go_ret
  exact ⟨by first | rfl | (simp; done) | (simp [*]; done), by repeat (first | exact Drawn0.refl _ | apply Drawn0.step)⟩
 ·rw [if_neg c2] at H
  have c2b0 : ((l0.length : Int) == 0) = false := beq_eq_false_iff_ne.mpr c2
  have c2b1 : ((l0.length : Int) != 0) = true := bne_iff_ne.mpr c2
  have c2b2 : ¬ (l0 = []) := fun h_ => c2 (by rw [h_]; rfl)
  by_cases c3 : (l0.length : Int) > 6
  ·rw [if_pos c3] at H
   have c3b0 : decide (6 < (l0.length : Int)) = true := decide_eq_true c3
   have c3b1 : decide (6 < l0.length) = true := decide_eq_true (by omega)
   clear c3
   obtain rfl := Option.some.inj H
   go_enter Tryz.func61, Tryz.ntmps61
   go_wp2
   go_ret
   exact ⟨by first | rfl | (simp; done) | (simp [*]; done), by repeat (first | exact Drawn0.refl _ | apply Drawn0.step)⟩
  ·rw [if_neg c3] at H
   have c3b0 : decide (6 < (l0.length : Int)) = false := decide_eq_false c3
   have c3b1 : decide (6 < l0.length) = false := decide_eq_false (by omega)
   clear c3
   have H' := Aside0.mk H
   clear H
   go_enter Tryz.func61, Tryz.ntmps61
   go_wp2
   go_loopg [13] k (fun kq v13 w' => ∃ (x13_1 : Int), v13 = .int .i64 x13_1 ∧ Aside0 (schismalaw11_check.l0 kq l0 l0 (l0.length : Int) x13_1 = some r) ∧ Aside0 (kq ≤ k) ∧ Drawn0 w w')
   case atStart => exact ⟨(0), (by first | rfl | (simp; done) | (simp [*]; done)), H', ⟨Nat.le_refl _⟩, by repeat (first | exact Drawn0.refl _ | apply Drawn0.step)⟩
   case round =>
    clear H'
    obtain ⟨x13_1, rfl, HA, HK1, ⟨m1, rfl⟩⟩ := hrel
    cases gk with
    | zero => exact absurd HA.out (by simp [schismalaw11_check.l0])
    | succ k1 =>
     have H := HA.out
     clear HA
     simp only [schismalaw11_check.l0] at H
     by_cases c4 : x13_1 < (l0.length : Int)
     ·rw [if_pos c4] at H
      have c4b0 : decide (x13_1 < (l0.length : Int)) = true := decide_eq_true c4
      clear c4
      by_cases c5 : 0 ≤ x13_1
      case neg => rw [if_neg c5] at H; exact absurd H (by simp)
      rw [if_pos c5] at H
      have c5b0 : decide (0 ≤ x13_1) = true := decide_eq_true c5
      clear c5
      by_cases c6 : x13_1 < (l0.length : Int)
      case neg => rw [if_neg c6] at H; exact absurd H (by simp)
      rw [if_pos c6] at H
      have c6b0 : decide (x13_1 < (l0.length : Int)) = true := decide_eq_true c6
      clear c6
      replace H := Option.bind_eq_some_iff.mp H
      obtain ⟨t1102, A70, H⟩ := H
      try dsimp only at H
      have A7 := Aside0.mk A70
      clear A70
      by_cases c8 : t1102 = true
      ·subst c8
       have H1 : (if x13_1 > 0 then (if 0 ≤ (wrap64 (x13_1 - 1)) then (if (wrap64 (x13_1 - 1)) < (l0.length : Int) then (if (rd l0 x13_1) ≤ (rd l0 (wrap64 (x13_1 - 1))) then (some 6) else (schismalaw11_check.l0 k1 l0 l0 (l0.length : Int) (wrap64 (x13_1 + 1)))) else (none)) else (none)) else (schismalaw11_check.l0 k1 l0 l0 (l0.length : Int) (wrap64 (x13_1 + 1)))) = some r := by rw [if_pos rfl] at H; exact H
       clear H
       have H := H1
       clear H1
       by_cases c9 : x13_1 > 0
       ·rw [if_pos c9] at H
        have c9b0 : decide (0 < x13_1) = true := decide_eq_true c9
        clear c9
        obtain ⟨ji10, hji10⟩ : ∃ j_ : Int, (wrap64 (x13_1 - 1)) = j_ := ⟨_, rfl⟩
        replace H : (if 0 ≤ (ji10) then (if (ji10) < (l0.length : Int) then (if (rd l0 x13_1) ≤ (rd l0 (ji10)) then (some 6) else (schismalaw11_check.l0 k1 l0 l0 (l0.length : Int) (wrap64 (x13_1 + 1)))) else (none)) else (none)) = some r := by first | (rw [hji10] at H; exact H) | (simp only [hji10] at H ⊢; exact H)
        (try rw [hji10] at A7)
        have hji10w : (IntKind.i64.wrap (x13_1 - 1)) = ji10 := (i64_w _).trans hji10
        by_cases c11 : 0 ≤ (ji10)
        case neg => rw [if_neg c11] at H; exact absurd H (by simp)
        rw [if_pos c11] at H
        have c11b0 : decide (0 ≤ (ji10)) = true := decide_eq_true c11
        clear c11
        by_cases c12 : (ji10) < (l0.length : Int)
        case neg => rw [if_neg c12] at H; exact absurd H (by simp)
        rw [if_pos c12] at H
        have c12b0 : decide ((ji10) < (l0.length : Int)) = true := decide_eq_true c12
        clear c12
        by_cases c13 : (rd l0 x13_1) ≤ (rd l0 (ji10))
        ·rw [if_pos c13] at H
         have c13b0 : decide ((rd l0 x13_1) ≤ (rd l0 (ji10))) = true := decide_eq_true c13
         clear c13
         obtain rfl := Option.some.inj H
         have p1101 : 0 ≤ (x13_1 : Int) := of_decide_eq_true (by assumption)
         have q1101 : x13_1 < (l0.length : Int) := of_decide_eq_true (by assumption)
         obtain ⟨ad1101, e1101, hx1101_0⟩ := Kd.at_int HR0.out x13_1 p1101 q1101
         cases e1101
         replace p1101 := eq_true p1101
         replace q1101 := eq_true q1101
         go_wp2_with (first | ((with_reducible refine gate_callee (f := 60) rfl ?_); refine goesK (some 19) Tryz.func60 [.int .i64 (rd l0 x13_1)] rfl rfl ?_; (with_reducible refine (schismalaw11_isPrime.calls k1 (rd l0 x13_1) true _ A7.out).mono ?_); rintro e w' ⟨rfl, ⟨nd, rfl⟩⟩; refine ⟨_, rfl, ?_⟩; have p1103 : 0 ≤ ((ji10) : Int) := of_decide_eq_true (by assumption); have q1103 : (ji10) < (l0.length : Int) := of_decide_eq_true (by assumption); obtain ⟨ad1103, e1103, hx1103_0⟩ := Kd.at_int HR0.out (ji10) p1103 q1103; obtain rfl : ad1101 = ad1103 := (by injection e1103); replace p1103 := eq_true p1103; replace q1103 := eq_true q1103))
         go_ret
         exact ⟨by first | rfl | (simp; done) | (simp only [← hji10] <;> (first | rfl | simp)) | (simp [*]; done), by repeat (first | exact Drawn0.refl _ | apply Drawn0.step)⟩
        ·rw [if_neg c13] at H
         have c13b0 : decide ((rd l0 x13_1) ≤ (rd l0 (ji10))) = false := decide_eq_false c13
         clear c13
         have H' := Aside0.mk H
         clear H
         have p1101 : 0 ≤ (x13_1 : Int) := of_decide_eq_true (by assumption)
         have q1101 : x13_1 < (l0.length : Int) := of_decide_eq_true (by assumption)
         obtain ⟨ad1101, e1101, hx1101_0⟩ := Kd.at_int HR0.out x13_1 p1101 q1101
         cases e1101
         replace p1101 := eq_true p1101
         replace q1101 := eq_true q1101
         go_wp2_with (first | ((with_reducible refine gate_callee (f := 60) rfl ?_); refine goesK (some 19) Tryz.func60 [.int .i64 (rd l0 x13_1)] rfl rfl ?_; (with_reducible refine (schismalaw11_isPrime.calls k1 (rd l0 x13_1) true _ A7.out).mono ?_); rintro e w' ⟨rfl, ⟨nd, rfl⟩⟩; refine ⟨_, rfl, ?_⟩; have p1103 : 0 ≤ ((ji10) : Int) := of_decide_eq_true (by assumption); have q1103 : (ji10) < (l0.length : Int) := of_decide_eq_true (by assumption); obtain ⟨ad1103, e1103, hx1103_0⟩ := Kd.at_int HR0.out (ji10) p1103 q1103; obtain rfl : ad1101 = ad1103 := (by injection e1103); replace p1103 := eq_true p1103; replace q1103 := eq_true q1103))
         go_roundg k1
         case measure => have := HK1.out; omega
         case rel => exact ⟨(wrap64 (x13_1 + 1)), (by first | rfl | (simp; done) | (simp [*]; done)), H', ⟨by have := HK1.out; omega⟩, by repeat (first | exact Drawn0.refl _ | apply Drawn0.step)⟩
       ·rw [if_neg c9] at H
        have c9b0 : decide (0 < x13_1) = false := decide_eq_false c9
        clear c9
        have H' := Aside0.mk H
        clear H
        have p1101 : 0 ≤ (x13_1 : Int) := of_decide_eq_true (by assumption)
        have q1101 : x13_1 < (l0.length : Int) := of_decide_eq_true (by assumption)
        obtain ⟨ad1101, e1101, hx1101_0⟩ := Kd.at_int HR0.out x13_1 p1101 q1101
        cases e1101
        replace p1101 := eq_true p1101
        replace q1101 := eq_true q1101
        go_wp2_with (first | ((with_reducible refine gate_callee (f := 60) rfl ?_); refine goesK (some 19) Tryz.func60 [.int .i64 (rd l0 x13_1)] rfl rfl ?_; (with_reducible refine (schismalaw11_isPrime.calls k1 (rd l0 x13_1) true _ A7.out).mono ?_); rintro e w' ⟨rfl, ⟨nd, rfl⟩⟩; refine ⟨_, rfl, ?_⟩))
        go_roundg k1
        case measure => have := HK1.out; omega
        case rel => exact ⟨(wrap64 (x13_1 + 1)), (by first | rfl | (simp; done) | (simp [*]; done)), H', ⟨by have := HK1.out; omega⟩, by repeat (first | exact Drawn0.refl _ | apply Drawn0.step)⟩
      ·replace c8 := Bool.eq_false_iff.mpr c8
       subst c8
       have H1 : (some 25) = some r := by rw [if_neg (show ¬ (false = true) by decide)] at H; exact H
       clear H
       have H := H1
       clear H1
       obtain rfl := Option.some.inj H
       have p1101 : 0 ≤ (x13_1 : Int) := of_decide_eq_true (by assumption)
       have q1101 : x13_1 < (l0.length : Int) := of_decide_eq_true (by assumption)
       obtain ⟨ad1101, e1101, hx1101_0⟩ := Kd.at_int HR0.out x13_1 p1101 q1101
       cases e1101
       replace p1101 := eq_true p1101
       replace q1101 := eq_true q1101
       go_wp2_with (first | ((with_reducible refine gate_callee (f := 60) rfl ?_); refine goesK (some 19) Tryz.func60 [.int .i64 (rd l0 x13_1)] rfl rfl ?_; (with_reducible refine (schismalaw11_isPrime.calls k1 (rd l0 x13_1) false _ A7.out).mono ?_); rintro e w' ⟨rfl, ⟨nd, rfl⟩⟩; refine ⟨_, rfl, ?_⟩))
       go_ret
       exact ⟨by first | rfl | (simp; done) | (simp [*]; done), by repeat (first | exact Drawn0.refl _ | apply Drawn0.step)⟩
     ·rw [if_neg c4] at H
      have c4b0 : decide (x13_1 < (l0.length : Int)) = false := decide_eq_false c4
      clear c4
      obtain rfl := Option.some.inj H
      go_wp2
      go_ret
      exact ⟨by first | rfl | (simp; done) | (simp [*]; done), by repeat (first | exact Drawn0.refl _ | apply Drawn0.step)⟩

end Go.Proofs.YtccebdpjdpjgnaaGreatDoor.P
end
section
namespace Go.Proofs.YtccebdpjdpjgnaaGreatDoor.P
open Go.RowKit Go.Proofs.YtccebdpjdpjgnaaGreatDoorW.PrintWords Go.Proofs.YtccebdpjdpjgnaaGreatDoorW.PrintLast Go.Proofs.YtccebdpjdpjgnaaGreatDoorW.PrintMore
attribute [local go_sem] max2_int min2_int max_two min_two max_three min_three max_four min_four
def schismalaw11_PrimeLists.B9 : List Nat := [0, 1, 3, 7, 7, 7, 39, 119, 255, 511, 1023]
end Go.Proofs.YtccebdpjdpjgnaaGreatDoor.P
end
