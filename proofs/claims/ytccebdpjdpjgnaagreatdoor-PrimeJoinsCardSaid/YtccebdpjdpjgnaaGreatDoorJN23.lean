/-
parts of the walks and of the plain laws: PprimeIsPrime PprimeCheck PmonzoCheckAll PmonzoCheck ExtStr ExtRow ProwText PmonzoBrackets Pmonzoresult Pschismalaw12check Pschismalaw12few Pschismalaw12Same
-/
import Derived.Lib.Join
import Derived.Shelf.SlicesE.IndexFunc
import Derived.Test.YtccebdpjdpjgnaaGreatDoorJN17
set_option linter.unusedVariables false
set_option linter.unusedSimpArgs false
section
namespace Go.Proofs.YtccebdpjdpjgnaaGreatDoor.P
open Go.RowKit Go.Proofs.YtccebdpjdpjgnaaGreatDoorW.PrintWords Go.Proofs.YtccebdpjdpjgnaaGreatDoorW.PrintLast Go.Proofs.YtccebdpjdpjgnaaGreatDoorW.PrintMore
attribute [local go_sem] max2_int min2_int max_two min_two max_three min_three max_four min_four
mutual
def prime_IsPrime.j0 : Nat → Int → Bool → Option (Bool)
 | 0, _, _ => none
 | k + 1, x0, x9 => if x9 = true then (some false) else (prime_IsPrime.l0 k x0 2)
def prime_IsPrime.l0 : Nat → Int → Int → Option (Bool)
 | 0, _, _ => none
 | k + 1, x0, x3 => if (wrap64 (x3 * x3)) ≤ x0 then (if x3 = 0 then (none) else (if (Int.tmod x0 x3) = 0 then (some false) else (prime_IsPrime.l0 k x0 (wrap64 (x3 + 1))))) else (some true)
end
def prime_IsPrime.f (k : Nat) (a0 : Int) : Option (Bool) := if a0 < 2 then (prime_IsPrime.j0 k a0 true) else (prime_IsPrime.j0 k a0 (decide (a0 > 97)))
theorem prime_IsPrime.mono_l : ∀ k, (∀ y0 y1, LeO (prime_IsPrime.j0 k y0 y1) (prime_IsPrime.j0 (k + 1) y0 y1)) ∧ (∀ y0 y1, LeO (prime_IsPrime.l0 k y0 y1) (prime_IsPrime.l0 (k + 1) y0 y1))
 | 0 => ⟨fun _ _ r h => by simp [prime_IsPrime.j0] at h, fun _ _ r h => by simp [prime_IsPrime.l0] at h⟩
 | k + 1 => by
  obtain ⟨ih0, ih1⟩ := prime_IsPrime.mono_l k
  refine ⟨?_, ?_⟩
  ·intro y0 y1
   unfold prime_IsPrime.j0
   repeat' first
   | (with_reducible exact ih0 _ _)
   | (with_reducible exact ih1 _ _)
   | (with_reducible exact LeO.refl _)
   | (with_reducible exact LeO.none _)
   | (with_reducible refine LeO.ite ?_ ?_)
   | (with_reducible refine LeO.bind ?_ (fun _ => ?_))
  ·intro y0 y1
   unfold prime_IsPrime.l0
   repeat' first
   | (with_reducible exact ih0 _ _)
   | (with_reducible exact ih1 _ _)
   | (with_reducible exact LeO.refl _)
   | (with_reducible exact LeO.none _)
   | (with_reducible refine LeO.ite ?_ ?_)
   | (with_reducible refine LeO.bind ?_ (fun _ => ?_))
theorem prime_IsPrime.mono : ∀ a0 k, LeO (prime_IsPrime.f k a0) (prime_IsPrime.f (k + 1) a0) := by
 intro a0 k
 obtain ⟨ih0, ih1⟩ := prime_IsPrime.mono_l k
 unfold prime_IsPrime.f
 repeat' first
   | (with_reducible exact ih0 _ _)
   | (with_reducible exact ih1 _ _)
   | (with_reducible exact LeO.refl _)
   | (with_reducible exact LeO.none _)
   | (with_reducible refine LeO.ite ?_ ?_)
   | (with_reducible refine LeO.bind ?_ (fun _ => ?_))
set_option maxHeartbeats 8000000 in
set_option maxRecDepth 100000 in
theorem prime_IsPrime.calls (k : Nat) (a0 : Int) (r : Bool) (w : World) (h : prime_IsPrime.f k a0 = some r) :
  Calls Tryz.prog 59 #[.int .i64 a0] w fun e w' => e = .returned (.bool r) ∧ Drawn0 w w' := by
 have H : (if a0 < 2 then (prime_IsPrime.j0 k a0 true) else (prime_IsPrime.j0 k a0 (decide (a0 > 97)))) = some r := h
 clear h
 have HC2 := Aside0.mk H
 clear H
 go_enter Tryz.func59, Tryz.ntmps59
 go_upto_region 1 with (fail)
 go_cut [9] (fun v9 wc => ∃ (kq : Nat) (x9_1 : Bool), v9 = .bool x9_1 ∧ Aside0 (prime_IsPrime.j0 kq a0 x9_1 = some r) ∧ Aside0 (kq ≤ k) ∧ Drawn0 w wc)
 case first =>
  have H := HC2.out
  clear HC2
  by_cases c3 : a0 < 2
  ·rw [if_pos c3] at H
   have c3b0 : decide (a0 < 2) = true := decide_eq_true c3
   clear c3
   (first | rw [c3b0] | (simp only [i64_w, i32_w]; rw [c3b0]) | skip)
   have H' := Aside0.mk H
   clear H
   go_wp2
   go_meet
   case rel => exact ⟨_, (true), (by first | rfl | (simp; done) | (simp [*]; done)), H', ⟨by first | omega | exact Nat.le_refl _⟩, by repeat (first | exact Drawn0.refl _ | apply Drawn0.step)⟩
  ·rw [if_neg c3] at H
   have c3b0 : decide (a0 < 2) = false := decide_eq_false c3
   clear c3
   (first | rw [c3b0] | (simp only [i64_w, i32_w]; rw [c3b0]) | skip)
   have H' := Aside0.mk H
   clear H
   go_wp2
   go_meet
   case rel => exact ⟨_, (decide (a0 > 97)), (by first | rfl | (simp; done) | (simp [*]; done)), H', ⟨by first | omega | exact Nat.le_refl _⟩, by repeat (first | exact Drawn0.refl _ | apply Drawn0.step)⟩
 case rest =>
  clear HC2
  obtain ⟨kq, x9_1, rfl, HA, HJ1, ⟨mc1, rfl⟩⟩ := hcut
  cases kq with
  | zero => exact absurd HA.out (by simp [prime_IsPrime.j0])
  | succ kj1 =>
   have H := HA.out
   clear HA
   simp only [prime_IsPrime.j0] at H
   by_cases c4 : x9_1 = true
   ·subst c4
    have H1 : (some false) = some r := by rw [if_pos rfl] at H; exact H
    clear H
    have H := H1
    clear H1
    obtain rfl := Option.some.inj H
    go_wp2
    go_ret
    exact ⟨by first | rfl | (simp; done) | (simp [*]; done), by repeat (first | exact Drawn0.refl _ | apply Drawn0.step)⟩
   ·replace c4 := Bool.eq_false_iff.mpr c4
    subst c4
    have H1 : (prime_IsPrime.l0 kj1 a0 2) = some r := by rw [if_neg (show ¬ (false = true) by decide)] at H; exact H
    clear H
    have H := H1
    clear H1
    have H' := Aside0.mk H
    clear H
    go_wp2
    go_loopg [3] kj1 (fun kq v3 w' => ∃ (x3_2 : Int), v3 = .int .i64 x3_2 ∧ Aside0 (prime_IsPrime.l0 kq a0 x3_2 = some r) ∧ Aside0 (kq ≤ kj1) ∧ Drawn0 w w')
    case atStart => exact ⟨(2), (by first | rfl | (simp; done) | (simp [*]; done)), H', ⟨Nat.le_refl _⟩, by repeat (first | exact Drawn0.refl _ | apply Drawn0.step)⟩
    case round =>
     clear H'
     obtain ⟨x3_2, rfl, HA, HK2, ⟨m2, rfl⟩⟩ := hrel
     cases gk with
     | zero => exact absurd HA.out (by simp [prime_IsPrime.l0])
     | succ k2 =>
      have H := HA.out
      clear HA
      simp only [prime_IsPrime.l0] at H
      by_cases c5 : (wrap64 (x3_2 * x3_2)) ≤ a0
      ·rw [if_pos c5] at H
       have c5b0 : decide ((wrap64 (x3_2 * x3_2)) ≤ a0) = true := decide_eq_true c5
       clear c5
       by_cases c6 : x3_2 = 0
       case pos => rw [if_pos c6] at H; exact absurd H (by simp)
       rw [if_neg c6] at H
       have c6b0 : (x3_2 == 0) = false := beq_eq_false_iff_ne.mpr c6
       have c6b1 : (x3_2 != 0) = true := bne_iff_ne.mpr c6
       by_cases c7 : (Int.tmod a0 x3_2) = 0
       ·rw [if_pos c7] at H
        have c7b0 : ((Int.tmod a0 x3_2) == 0) = true := beq_iff_eq.mpr c7
        have c7b1 : ((Int.tmod a0 x3_2) != 0) = false := bne_eq_false_iff_eq.mpr c7
        clear c7
        obtain rfl := Option.some.inj H
        go_wp2
        go_ret
        exact ⟨by first | rfl | (simp; done) | (simp [*]; done), by repeat (first | exact Drawn0.refl _ | apply Drawn0.step)⟩
       ·rw [if_neg c7] at H
        have c7b0 : ((Int.tmod a0 x3_2) == 0) = false := beq_eq_false_iff_ne.mpr c7
        have c7b1 : ((Int.tmod a0 x3_2) != 0) = true := bne_iff_ne.mpr c7
        have H' := Aside0.mk H
        clear H
        go_wp2
        go_roundg k2
        case measure => have := HJ1.out; have := HK2.out; omega
        case rel => exact ⟨(wrap64 (x3_2 + 1)), (by first | rfl | (simp; done) | (simp [*]; done)), H', ⟨by have := HJ1.out; have := HK2.out; omega⟩, by repeat (first | exact Drawn0.refl _ | apply Drawn0.step)⟩
      ·rw [if_neg c5] at H
       have c5b0 : decide ((wrap64 (x3_2 * x3_2)) ≤ a0) = false := decide_eq_false c5
       clear c5
       obtain rfl := Option.some.inj H
       go_wp2
       go_ret
       exact ⟨by first | rfl | (simp; done) | (simp [*]; done), by repeat (first | exact Drawn0.refl _ | apply Drawn0.step)⟩
end Go.Proofs.YtccebdpjdpjgnaaGreatDoor.P
end
section
namespace Go.Proofs.YtccebdpjdpjgnaaGreatDoor.P
open Go.RowKit Go.Proofs.YtccebdpjdpjgnaaGreatDoorW.PrintWords Go.Proofs.YtccebdpjdpjgnaaGreatDoorW.PrintLast Go.Proofs.YtccebdpjdpjgnaaGreatDoorW.PrintMore
attribute [local go_sem] max2_int min2_int max_two min_two max_three min_three max_four min_four
def prime_Check.l0 : Nat → List Int → List Int → Int → Int → Option (Int)
 | 0, _, _, _, _ => none
 | k + 1, x0, x13, x14, x15 => if x15 < x14 then (if 0 ≤ x15 then (if x15 < (x13.length : Int) then ((prime_IsPrime.f k (rd x13 x15)).bind fun t109 => (if t109 = true then (if x15 > 0 then (if 0 ≤ (wrap64 (x15 - 1)) then (if (wrap64 (x15 - 1)) < (x0.length : Int) then (if (rd x13 x15) ≤ (rd x0 (wrap64 (x15 - 1))) then (some 6) else (prime_Check.l0 k x0 x13 x14 (wrap64 (x15 + 1)))) else (none)) else (none)) else (prime_Check.l0 k x0 x13 x14 (wrap64 (x15 + 1)))) else (some 25))) else (none)) else (none)) else (some 0)
def prime_Check.f (k : Nat) (l0 : List Int) : Option (Int) := if (l0.length : Int) = 0 then (some 13) else (if (l0.length : Int) > 6 then (some 4) else (prime_Check.l0 k l0 l0 (l0.length : Int) 0))
set_option maxHeartbeats 8000000 in
set_option maxRecDepth 100000 in
theorem prime_Check.calls (k : Nat) (A0 : Option Addr) (c0 : Nat) (l0 : List Int) (r : Int) (w : World) (hr0 : Kd.C (Kd.int .i64) w A0 l0.length l0) (hc0 : l0.length ≤ c0) (h : prime_Check.f k l0 = some r) :
  Calls Tryz.prog 29 #[.slice A0 l0.length c0] w fun e w' => e = .returned (.int .i64 r) ∧ Drawn0 w w' := by
 have HR0 := Aside0.mk hr0
 have HC0 := Aside0.mk hc0
 clear hr0 hc0
 have H : (if (l0.length : Int) = 0 then (some 13) else (if (l0.length : Int) > 6 then (some 4) else (prime_Check.l0 k l0 l0 (l0.length : Int) 0))) = some r := h
 clear h
 by_cases c2 : (l0.length : Int) = 0
 ·rw [if_pos c2] at H
  have c2b0 : ((l0.length : Int) == 0) = true := beq_iff_eq.mpr c2
  have c2b1 : ((l0.length : Int) != 0) = false := bne_eq_false_iff_eq.mpr c2
  clear c2
  obtain rfl := Option.some.inj H
  go_enter Tryz.func29, Tryz.ntmps29
  go_wp2
  go_ret
  exact ⟨by first | rfl | (simp; done) | (simp [*]; done), by repeat (first | exact Drawn0.refl _ | apply Drawn0.step)⟩
 ·rw [if_neg c2] at H
  have c2b0 : ((l0.length : Int) == 0) = false := beq_eq_false_iff_ne.mpr c2
  have c2b1 : ((l0.length : Int) != 0) = true := bne_iff_ne.mpr c2
  have c2b2 : ¬ (l0 = []) := fun h_ => c2 (by rw [h_]; rfl)
  by_cases c3 : (l0.length : Int) > 6
  ·rw [if_pos c3] at H
   have c3b0 : decide (6 < (l0.length : Int)) = true := decide_eq_true c3
   have c3b1 : decide (6 < l0.length) = true := decide_eq_true (by omega)
   clear c3
   obtain rfl := Option.some.inj H
   go_enter Tryz.func29, Tryz.ntmps29
   go_wp2
   go_ret
   exact ⟨by first | rfl | (simp; done) | (simp [*]; done), by repeat (first | exact Drawn0.refl _ | apply Drawn0.step)⟩
  ·rw [if_neg c3] at H
   have c3b0 : decide (6 < (l0.length : Int)) = false := decide_eq_false c3
   have c3b1 : decide (6 < l0.length) = false := decide_eq_false (by omega)
   clear c3
   have H' := Aside0.mk H
   clear H
   go_enter Tryz.func29, Tryz.ntmps29
   go_wp2
   go_loopg [15] k (fun kq v15 w' => ∃ (x15_1 : Int), v15 = .int .i64 x15_1 ∧ Aside0 (prime_Check.l0 kq l0 l0 (l0.length : Int) x15_1 = some r) ∧ Aside0 (kq ≤ k) ∧ Drawn0 w w')
   case atStart => exact ⟨(0), (by first | rfl | (simp; done) | (simp [*]; done)), H', ⟨Nat.le_refl _⟩, by repeat (first | exact Drawn0.refl _ | apply Drawn0.step)⟩
   case round =>
    clear H'
    obtain ⟨x15_1, rfl, HA, HK1, ⟨m1, rfl⟩⟩ := hrel
    cases gk with
    | zero => exact absurd HA.out (by simp [prime_Check.l0])
    | succ k1 =>
     have H := HA.out
     clear HA
     simp only [prime_Check.l0] at H
     by_cases c4 : x15_1 < (l0.length : Int)
     ·rw [if_pos c4] at H
      have c4b0 : decide (x15_1 < (l0.length : Int)) = true := decide_eq_true c4
      clear c4
      by_cases c5 : 0 ≤ x15_1
      case neg => rw [if_neg c5] at H; exact absurd H (by simp)
      rw [if_pos c5] at H
      have c5b0 : decide (0 ≤ x15_1) = true := decide_eq_true c5
      clear c5
      by_cases c6 : x15_1 < (l0.length : Int)
      case neg => rw [if_neg c6] at H; exact absurd H (by simp)
      rw [if_pos c6] at H
      have c6b0 : decide (x15_1 < (l0.length : Int)) = true := decide_eq_true c6
      clear c6
      replace H := Option.bind_eq_some_iff.mp H
      obtain ⟨t109, A70, H⟩ := H
      try dsimp only at H
      have A7 := Aside0.mk A70
      clear A70
      by_cases c8 : t109 = true
      ·subst c8
       have H1 : (if x15_1 > 0 then (if 0 ≤ (wrap64 (x15_1 - 1)) then (if (wrap64 (x15_1 - 1)) < (l0.length : Int) then (if (rd l0 x15_1) ≤ (rd l0 (wrap64 (x15_1 - 1))) then (some 6) else (prime_Check.l0 k1 l0 l0 (l0.length : Int) (wrap64 (x15_1 + 1)))) else (none)) else (none)) else (prime_Check.l0 k1 l0 l0 (l0.length : Int) (wrap64 (x15_1 + 1)))) = some r := by rw [if_pos rfl] at H; exact H
       clear H
       have H := H1
       clear H1
       by_cases c9 : x15_1 > 0
       ·rw [if_pos c9] at H
        have c9b0 : decide (0 < x15_1) = true := decide_eq_true c9
        clear c9
        obtain ⟨ji10, hji10⟩ : ∃ j_ : Int, (wrap64 (x15_1 - 1)) = j_ := ⟨_, rfl⟩
        replace H : (if 0 ≤ (ji10) then (if (ji10) < (l0.length : Int) then (if (rd l0 x15_1) ≤ (rd l0 (ji10)) then (some 6) else (prime_Check.l0 k1 l0 l0 (l0.length : Int) (wrap64 (x15_1 + 1)))) else (none)) else (none)) = some r := by first | (rw [hji10] at H; exact H) | (simp only [hji10] at H ⊢; exact H)
        (try rw [hji10] at A7)
        have hji10w : (IntKind.i64.wrap (x15_1 - 1)) = ji10 := (i64_w _).trans hji10
        by_cases c11 : 0 ≤ (ji10)
        case neg => rw [if_neg c11] at H; exact absurd H (by simp)
        rw [if_pos c11] at H
        have c11b0 : decide (0 ≤ (ji10)) = true := decide_eq_true c11
        clear c11
        by_cases c12 : (ji10) < (l0.length : Int)
        case neg => rw [if_neg c12] at H; exact absurd H (by simp)
        rw [if_pos c12] at H
        have c12b0 : decide ((ji10) < (l0.length : Int)) = true := decide_eq_true c12
        clear c12
        by_cases c13 : (rd l0 x15_1) ≤ (rd l0 (ji10))
        ·rw [if_pos c13] at H
         have c13b0 : decide ((rd l0 x15_1) ≤ (rd l0 (ji10))) = true := decide_eq_true c13
         clear c13
         obtain rfl := Option.some.inj H
         have p108 : 0 ≤ (x15_1 : Int) := of_decide_eq_true (by assumption)
         have q108 : x15_1 < (l0.length : Int) := of_decide_eq_true (by assumption)
         obtain ⟨ad108, e108, hx108_0⟩ := Kd.at_int HR0.out x15_1 p108 q108
         cases e108
         replace p108 := eq_true p108
         replace q108 := eq_true q108
         go_wp2_with (first | ((with_reducible refine gate_callee (f := 59) rfl ?_); refine goesK (some 21) Tryz.func59 [.int .i64 (rd l0 x15_1)] rfl rfl ?_; (with_reducible refine (prime_IsPrime.calls k1 (rd l0 x15_1) true _ A7.out).mono ?_); rintro e w' ⟨rfl, ⟨nd, rfl⟩⟩; refine ⟨_, rfl, ?_⟩; have p110 : 0 ≤ ((ji10) : Int) := of_decide_eq_true (by assumption); have q110 : (ji10) < (l0.length : Int) := of_decide_eq_true (by assumption); obtain ⟨ad110, e110, hx110_0⟩ := Kd.at_int HR0.out (ji10) p110 q110; obtain rfl : ad108 = ad110 := (by injection e110); replace p110 := eq_true p110; replace q110 := eq_true q110))
         go_ret
         exact ⟨by first | rfl | (simp; done) | (simp only [← hji10] <;> (first | rfl | simp)) | (simp [*]; done), by repeat (first | exact Drawn0.refl _ | apply Drawn0.step)⟩
        ·rw [if_neg c13] at H
         have c13b0 : decide ((rd l0 x15_1) ≤ (rd l0 (ji10))) = false := decide_eq_false c13
         clear c13
         have H' := Aside0.mk H
         clear H
         have p108 : 0 ≤ (x15_1 : Int) := of_decide_eq_true (by assumption)
         have q108 : x15_1 < (l0.length : Int) := of_decide_eq_true (by assumption)
         obtain ⟨ad108, e108, hx108_0⟩ := Kd.at_int HR0.out x15_1 p108 q108
         cases e108
         replace p108 := eq_true p108
         replace q108 := eq_true q108
         go_wp2_with (first | ((with_reducible refine gate_callee (f := 59) rfl ?_); refine goesK (some 21) Tryz.func59 [.int .i64 (rd l0 x15_1)] rfl rfl ?_; (with_reducible refine (prime_IsPrime.calls k1 (rd l0 x15_1) true _ A7.out).mono ?_); rintro e w' ⟨rfl, ⟨nd, rfl⟩⟩; refine ⟨_, rfl, ?_⟩; have p110 : 0 ≤ ((ji10) : Int) := of_decide_eq_true (by assumption); have q110 : (ji10) < (l0.length : Int) := of_decide_eq_true (by assumption); obtain ⟨ad110, e110, hx110_0⟩ := Kd.at_int HR0.out (ji10) p110 q110; obtain rfl : ad108 = ad110 := (by injection e110); replace p110 := eq_true p110; replace q110 := eq_true q110))
         go_roundg k1
         case measure => have := HK1.out; omega
         case rel => exact ⟨(wrap64 (x15_1 + 1)), (by first | rfl | (simp; done) | (simp [*]; done)), H', ⟨by have := HK1.out; omega⟩, by repeat (first | exact Drawn0.refl _ | apply Drawn0.step)⟩
       ·rw [if_neg c9] at H
        have c9b0 : decide (0 < x15_1) = false := decide_eq_false c9
        clear c9
        have H' := Aside0.mk H
        clear H
        have p108 : 0 ≤ (x15_1 : Int) := of_decide_eq_true (by assumption)
        have q108 : x15_1 < (l0.length : Int) := of_decide_eq_true (by assumption)
        obtain ⟨ad108, e108, hx108_0⟩ := Kd.at_int HR0.out x15_1 p108 q108
        cases e108
        replace p108 := eq_true p108
        replace q108 := eq_true q108
        go_wp2_with (first | ((with_reducible refine gate_callee (f := 59) rfl ?_); refine goesK (some 21) Tryz.func59 [.int .i64 (rd l0 x15_1)] rfl rfl ?_; (with_reducible refine (prime_IsPrime.calls k1 (rd l0 x15_1) true _ A7.out).mono ?_); rintro e w' ⟨rfl, ⟨nd, rfl⟩⟩; refine ⟨_, rfl, ?_⟩))
        go_roundg k1
        case measure => have := HK1.out; omega
        case rel => exact ⟨(wrap64 (x15_1 + 1)), (by first | rfl | (simp; done) | (simp [*]; done)), H', ⟨by have := HK1.out; omega⟩, by repeat (first | exact Drawn0.refl _ | apply Drawn0.step)⟩
      ·replace c8 := Bool.eq_false_iff.mpr c8
       subst c8
       have H1 : (some 25) = some r := by rw [if_neg (show ¬ (false = true) by decide)] at H; exact H
       clear H
       have H := H1
       clear H1
       obtain rfl := Option.some.inj H
       have p108 : 0 ≤ (x15_1 : Int) := of_decide_eq_true (by assumption)
       have q108 : x15_1 < (l0.length : Int) := of_decide_eq_true (by assumption)
       obtain ⟨ad108, e108, hx108_0⟩ := Kd.at_int HR0.out x15_1 p108 q108
       cases e108
       replace p108 := eq_true p108
       replace q108 := eq_true q108
       go_wp2_with (first | ((with_reducible refine gate_callee (f := 59) rfl ?_); refine goesK (some 21) Tryz.func59 [.int .i64 (rd l0 x15_1)] rfl rfl ?_; (with_reducible refine (prime_IsPrime.calls k1 (rd l0 x15_1) false _ A7.out).mono ?_); rintro e w' ⟨rfl, ⟨nd, rfl⟩⟩; refine ⟨_, rfl, ?_⟩))
       go_ret
       exact ⟨by first | rfl | (simp; done) | (simp [*]; done), by repeat (first | exact Drawn0.refl _ | apply Drawn0.step)⟩
     ·rw [if_neg c4] at H
      have c4b0 : decide (x15_1 < (l0.length : Int)) = false := decide_eq_false c4
      clear c4
      obtain rfl := Option.some.inj H
      go_wp2
      go_ret
      exact ⟨by first | rfl | (simp; done) | (simp [*]; done), by repeat (first | exact Drawn0.refl _ | apply Drawn0.step)⟩
end Go.Proofs.YtccebdpjdpjgnaaGreatDoor.P
end
section
namespace Go.Proofs.YtccebdpjdpjgnaaGreatDoor.P
open Go.RowKit Go.Proofs.YtccebdpjdpjgnaaGreatDoorW.PrintWords Go.Proofs.YtccebdpjdpjgnaaGreatDoorW.PrintLast Go.Proofs.YtccebdpjdpjgnaaGreatDoorW.PrintMore
attribute [local go_sem] max2_int min2_int max_two min_two max_three min_three max_four min_four
end Go.Proofs.YtccebdpjdpjgnaaGreatDoor.P
end
section
namespace Go.Proofs.YtccebdpjdpjgnaaGreatDoor.P
open Go.RowKit Go.Proofs.YtccebdpjdpjgnaaGreatDoorW.PrintWords Go.Proofs.YtccebdpjdpjgnaaGreatDoorW.PrintLast Go.Proofs.YtccebdpjdpjgnaaGreatDoorW.PrintMore
attribute [local go_sem] max2_int min2_int max_two min_two max_three min_three max_four min_four

end Go.Proofs.YtccebdpjdpjgnaaGreatDoor.P
end
section
namespace Go.Proofs.YtccebdpjdpjgnaaGreatDoor.P
open Go.RowKit Go.Proofs.YtccebdpjdpjgnaaGreatDoorW.PrintWords Go.Proofs.YtccebdpjdpjgnaaGreatDoorW.PrintLast Go.Proofs.YtccebdpjdpjgnaaGreatDoorW.PrintMore
theorem cell_spot {w : World} {a : Addr} {v : Value} (h : w.cell? a = some v) : a.spot = none ∧ a.block < w.heap.size := by
 unfold World.cell? at h
 split at h
 ·next c e f hc =>
  refine ⟨?_, ?_⟩
  ·split at h
   ·cases h
   ·next hs => simpa using hs
  ·obtain ⟨hl, _⟩ := Array.getElem?_eq_some_iff.1 hc
   exact hl
 ·cases h
theorem C_flat {α : Type} {enc : α → Value} {h1 : ∀ x, (enc x).oneCell' = true} {w : World} {A : Option Addr} {n : Nat} {xs : List α} (h : (Kd.scalar enc h1).C w A n xs) (h0 : 0 < n) :
  ∃ b o, A = some ⟨b, o, none⟩ ∧ b < w.heap.size ∧ ∀ (j : Nat) x, xs[j]? = some x → w.cell? ⟨b, o + j, none⟩ = some (enc x) := by
 obtain ⟨hl, _, hc⟩ := h
 obtain ⟨ad, hA, hcell⟩ := hc h0
 have hget : ∀ (j : Nat) x, xs[j]? = some x → w.cell? (ad.add j) = some (enc x) := fun j x hj => by
  obtain ⟨c, _, hr, hu⟩ := hcell j x hj
  have hr' : c = [enc x] := hr
  have := hu 0 (enc x) (by rw [hr']; rfl)
  have e : (Kd.scalar enc h1).sz = 1 := rfl
  rw [e, Nat.mul_one, Nat.add_zero] at this
  exact this
 have hz : 0 < xs.length := by omega
 have h00 := hget 0 _ (List.getElem?_eq_getElem hz)
 have e0 : ad.add 0 = ad := rfl
 rw [e0] at h00
 obtain ⟨hs, hb⟩ := cell_spot h00
 obtain ⟨b, o, s⟩ := ad
 simp only at hs hb
 subst hs
 refine ⟨b, o, hA, hb, fun j x hj => ?_⟩
 have := hget j x hj
 unfold Addr.add at this
 split at this
 ·next hj0 => subst hj0; exact this
 ·exact this
end Go.Proofs.YtccebdpjdpjgnaaGreatDoor.P
end
section
namespace Go.Proofs
def Tryz.lays130_ren : Go.Shelf.Ren := ⟨fun | 8 => 130 | 6 => 180 | n => n, fun | 22 => 24 | 23 => 3 | 25 => 80 | n => n, fun n => n⟩
theorem Tryz.lays130 : Go.Proofs.SlLaysH.n8 Tryz.prog Tryz.lays130_ren := {
 mixed := by kernel_rfl
 f6 := ⟨Tryz.f180.name, by decide, Tryz.func180.trans (congrArg some (by kernel_rfl))⟩
 f8 := ⟨Tryz.f130.name, by decide, Tryz.func130.trans (congrArg some (by kernel_rfl))⟩
 t0 := Tryz.underlying0
 a0 := Tryz.isAgg0
 z0 := Tryz.sizeOf0
 v0 := Tryz.zeroValue0
 t3 := Tryz.underlying3
 a3 := Tryz.isAgg3
 z3 := Tryz.sizeOf3
 v3 := Tryz.zeroValue3
 t4 := Tryz.underlying4
 a4 := Tryz.isAgg4
 z4 := Tryz.sizeOf4
 v4 := Tryz.zeroValue4
 t22 := Tryz.underlying24
 a22 := Tryz.isAgg24
 z22 := Tryz.sizeOf24
 v22 := Tryz.zeroValue24
 a23 := Tryz.isAgg3
 z23 := Tryz.sizeOf3
 t25 := Tryz.underlying80
 a25 := Tryz.isAgg80
 z25 := Tryz.sizeOf80
 v25 := Tryz.zeroValue80 }
end Go.Proofs
namespace Go.Proofs.YtccebdpjdpjgnaaGreatDoor.P
open Go.RowKit Go.Proofs.YtccebdpjdpjgnaaGreatDoorW.PrintWords Go.Proofs.YtccebdpjdpjgnaaGreatDoorW.PrintLast Go.Proofs.YtccebdpjdpjgnaaGreatDoorW.PrintMore
set_option linter.unusedVariables false
end Go.Proofs.YtccebdpjdpjgnaaGreatDoor.P
end
section
namespace Go.Proofs.YtccebdpjdpjgnaaGreatDoor.P
open Go.RowKit Go.Proofs.YtccebdpjdpjgnaaGreatDoorW.PrintWords Go.Proofs.YtccebdpjdpjgnaaGreatDoorW.PrintLast Go.Proofs.YtccebdpjdpjgnaaGreatDoorW.PrintMore
attribute [local go_sem] max2_int min2_int max_two min_two max_three min_three max_four min_four






end Go.Proofs.YtccebdpjdpjgnaaGreatDoor.P
end
