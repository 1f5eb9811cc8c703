/-
parts of the walks and of the plain laws: PprimeIsPrime PprimeCheck PmonzoCheckAll PmonzoCheck ExtStr ExtRow ProwText
-/
import Derived.Lib.Join
import Derived.Shelf.SlicesE.IndexFunc
import Derived.Test.YtccebdpjdpjgnaaGreatDoorMP17
set_option linter.unusedVariables false
set_option linter.unusedSimpArgs false
section
namespace Go.Proofs.YtccebdpjdpjgnaaGreatDoor.P
open Go.RowKit Go.Proofs.YtccebdpjdpjgnaaGreatDoorW.PrintWords Go.Proofs.YtccebdpjdpjgnaaGreatDoorW.PrintLast Go.Proofs.YtccebdpjdpjgnaaGreatDoorW.PrintMore
attribute [local go_sem] max2_int min2_int max_two min_two max_three min_three max_four min_four
mutual
def prime_IsPrime.j0 : Nat → Int → Bool → Option (Bool)
 | 0, _, _ => none
 | k + 1, x0, x9 => if x9 = true then (some false) else (prime_IsPrime.l0 k x0 2)
def prime_IsPrime.l0 : Nat → Int → Int → Option (Bool)
 | 0, _, _ => none
 | k + 1, x0, x3 => if (wrap64 (x3 * x3)) ≤ x0 then (if x3 = 0 then (none) else (if (Int.tmod x0 x3) = 0 then (some false) else (prime_IsPrime.l0 k x0 (wrap64 (x3 + 1))))) else (some true)
end
def prime_IsPrime.f (k : Nat) (a0 : Int) : Option (Bool) := if a0 < 2 then (prime_IsPrime.j0 k a0 true) else (prime_IsPrime.j0 k a0 (decide (a0 > 97)))
theorem prime_IsPrime.mono_l : ∀ k, (∀ y0 y1, LeO (prime_IsPrime.j0 k y0 y1) (prime_IsPrime.j0 (k + 1) y0 y1)) ∧ (∀ y0 y1, LeO (prime_IsPrime.l0 k y0 y1) (prime_IsPrime.l0 (k + 1) y0 y1))
 | 0 => ⟨fun _ _ r h => by simp [prime_IsPrime.j0] at h, fun _ _ r h => by simp [prime_IsPrime.l0] at h⟩
 | k + 1 => by
  obtain ⟨ih0, ih1⟩ := prime_IsPrime.mono_l k
  refine ⟨?_, ?_⟩
  ·intro y0 y1
   unfold prime_IsPrime.j0
   repeat' first
   | (with_reducible exact ih0 _ _)
   | (with_reducible exact ih1 _ _)
   | (with_reducible exact LeO.refl _)
   | (with_reducible exact LeO.none _)
   | (with_reducible refine LeO.ite ?_ ?_)
   | (with_reducible refine LeO.bind ?_ (fun _ => ?_))
  ·intro y0 y1
   unfold prime_IsPrime.l0
   repeat' first
   | (with_reducible exact ih0 _ _)
   | (with_reducible exact ih1 _ _)
   | (with_reducible exact LeO.refl _)
   | (with_reducible exact LeO.none _)
   | (with_reducible refine LeO.ite ?_ ?_)
   | (with_reducible refine LeO.bind ?_ (fun _ => ?_))
theorem prime_IsPrime.mono : ∀ a0 k, LeO (prime_IsPrime.f k a0) (prime_IsPrime.f (k + 1) a0) := by
 intro a0 k
 obtain ⟨ih0, ih1⟩ := prime_IsPrime.mono_l k
 unfold prime_IsPrime.f
 repeat' first
   | (with_reducible exact ih0 _ _)
   | (with_reducible exact ih1 _ _)
   | (with_reducible exact LeO.refl _)
   | (with_reducible exact LeO.none _)
   | (with_reducible refine LeO.ite ?_ ?_)
   | (with_reducible refine LeO.bind ?_ (fun _ => ?_))
set_option maxHeartbeats 8000000 in
set_option maxRecDepth 100000 in
theorem prime_IsPrime.calls (k : Nat) (a0 : Int) (r : Bool) (w : World) (h : prime_IsPrime.f k a0 = some r) :
  Calls Tryz.prog 59 #[.int .i64 a0] w fun e w' => e = .returned (.bool r) ∧ Drawn0 w w' := by
 have H : (if a0 < 2 then (prime_IsPrime.j0 k a0 true) else (prime_IsPrime.j0 k a0 (decide (a0 > 97)))) = some r := h
 clear h
 have HC2 := Aside0.mk H
 clear H
 go_enter Tryz.func59, Tryz.ntmps59
 go_upto_region 1 with (fail)
 go_cut [9] (fun v9 wc => ∃ (kq : Nat) (x9_1 : Bool), v9 = .bool x9_1 ∧ Aside0 (prime_IsPrime.j0 kq a0 x9_1 = some r) ∧ Aside0 (kq ≤ k) ∧ Drawn0 w wc)
 case first =>
  have H := HC2.out
  clear HC2
  by_cases c3 : a0 < 2
  ·rw [if_pos c3] at H
   have c3b0 : decide (a0 < 2) = true := decide_eq_true c3
   clear c3
   (first | rw [c3b0] | (simp only [i64_w, i32_w]; rw [c3b0]) | skip)
   have H' := Aside0.mk H
   clear H
   go_wp2
   go_meet
   case rel => exact ⟨_, (true), (by first | rfl | (simp; done) | (simp [*]; done)), H', ⟨by first | omega | exact Nat.le_refl _⟩, by repeat (first | exact Drawn0.refl _ | apply Drawn0.step)⟩
  ·rw [if_neg c3] at H
   have c3b0 : decide (a0 < 2) = false := decide_eq_false c3
   clear c3
   (first | rw [c3b0] | (simp only [i64_w, i32_w]; rw [c3b0]) | skip)
   have H' := Aside0.mk H
   clear H
   go_wp2
   go_meet
   case rel => exact ⟨_, (decide (a0 > 97)), (by first | rfl | (simp; done) | (simp [*]; done)), H', ⟨by first | omega | exact Nat.le_refl _⟩, by repeat (first | exact Drawn0.refl _ | apply Drawn0.step)⟩
 case rest =>
  clear HC2
  obtain ⟨kq, x9_1, rfl, HA, HJ1, ⟨mc1, rfl⟩⟩ := hcut
  cases kq with
  | zero => exact absurd HA.out (by simp [prime_IsPrime.j0])
  | succ kj1 =>
   have H := HA.out
   clear HA
   simp only [prime_IsPrime.j0] at H
   by_cases c4 : x9_1 = true
   ·subst c4
    have H1 : (some false) = some r := by rw [if_pos rfl] at H; exact H
    clear H
    have H := H1
    clear H1
    obtain rfl := Option.some.inj H
    go_wp2
    go_ret
    exact ⟨by first | rfl | (simp; done) | (simp [*]; done), by repeat (first | exact Drawn0.refl _ | apply Drawn0.step)⟩
   ·replace c4 := Bool.eq_false_iff.mpr c4
    subst c4
    have H1 : (prime_IsPrime.l0 kj1 a0 2) = some r := by rw [if_neg (show ¬ (false = true) by decide)] at H; exact H
    clear H
    have H := H1
    clear H1
    have H' := Aside0.mk H
    clear H
    go_wp2
    go_loopg [3] kj1 (fun kq v3 w' => ∃ (x3_2 : Int), v3 = .int .i64 x3_2 ∧ Aside0 (prime_IsPrime.l0 kq a0 x3_2 = some r) ∧ Aside0 (kq ≤ kj1) ∧ Drawn0 w w')
    case atStart => exact ⟨(2), (by first | rfl | (simp; done) | (simp [*]; done)), H', ⟨Nat.le_refl _⟩, by repeat (first | exact Drawn0.refl _ | apply Drawn0.step)⟩
    case round =>
     clear H'
     obtain ⟨x3_2, rfl, HA, HK2, ⟨m2, rfl⟩⟩ := hrel
     cases gk with
     | zero => exact absurd HA.out (by simp [prime_IsPrime.l0])
     | succ k2 =>
      have H := HA.out
      clear HA
      simp only [prime_IsPrime.l0] at H
      by_cases c5 : (wrap64 (x3_2 * x3_2)) ≤ a0
      ·rw [if_pos c5] at H
       have c5b0 : decide ((wrap64 (x3_2 * x3_2)) ≤ a0) = true := decide_eq_true c5
       clear c5
       by_cases c6 : x3_2 = 0
       case pos => rw [if_pos c6] at H; exact absurd H (by simp)
       rw [if_neg c6] at H
       have c6b0 : (x3_2 == 0) = false := beq_eq_false_iff_ne.mpr c6
       have c6b1 : (x3_2 != 0) = true := bne_iff_ne.mpr c6
       by_cases c7 : (Int.tmod a0 x3_2) = 0
       ·rw [if_pos c7] at H
        have c7b0 : ((Int.tmod a0 x3_2) == 0) = true := beq_iff_eq.mpr c7
        have c7b1 : ((Int.tmod a0 x3_2) != 0) = false := bne_eq_false_iff_eq.mpr c7
        clear c7
        obtain rfl := Option.some.inj H
        go_wp2
        go_ret
        exact ⟨by first | rfl | (simp; done) | (simp [*]; done), by repeat (first | exact Drawn0.refl _ | apply Drawn0.step)⟩
       ·rw [if_neg c7] at H
        have c7b0 : ((Int.tmod a0 x3_2) == 0) = false := beq_eq_false_iff_ne.mpr c7
        have c7b1 : ((Int.tmod a0 x3_2) != 0) = true := bne_iff_ne.mpr c7
        have H' := Aside0.mk H
        clear H
        go_wp2
        go_roundg k2
        case measure => have := HJ1.out; have := HK2.out; omega
        case rel => exact ⟨(wrap64 (x3_2 + 1)), (by first | rfl | (simp; done) | (simp [*]; done)), H', ⟨by have := HJ1.out; have := HK2.out; omega⟩, by repeat (first | exact Drawn0.refl _ | apply Drawn0.step)⟩
      ·rw [if_neg c5] at H
       have c5b0 : decide ((wrap64 (x3_2 * x3_2)) ≤ a0) = false := decide_eq_false c5
       clear c5
       obtain rfl := Option.some.inj H
       go_wp2
       go_ret
       exact ⟨by first | rfl | (simp; done) | (simp [*]; done), by repeat (first | exact Drawn0.refl _ | apply Drawn0.step)⟩
end Go.Proofs.YtccebdpjdpjgnaaGreatDoor.P
end
section
namespace Go.Proofs.YtccebdpjdpjgnaaGreatDoor.P
open Go.RowKit Go.Proofs.YtccebdpjdpjgnaaGreatDoorW.PrintWords Go.Proofs.YtccebdpjdpjgnaaGreatDoorW.PrintLast Go.Proofs.YtccebdpjdpjgnaaGreatDoorW.PrintMore
attribute [local go_sem] max2_int min2_int max_two min_two max_three min_three max_four min_four
def prime_Check.l0 : Nat → List Int → List Int → Int → Int → Option (Int)
 | 0, _, _, _, _ => none
 | k + 1, x0, x13, x14, x15 => if x15 < x14 then (if 0 ≤ x15 then (if x15 < (x13.length : Int) then ((prime_IsPrime.f k (rd x13 x15)).bind fun t109 => (if t109 = true then (if x15 > 0 then (if 0 ≤ (wrap64 (x15 - 1)) then (if (wrap64 (x15 - 1)) < (x0.length : Int) then (if (rd x13 x15) ≤ (rd x0 (wrap64 (x15 - 1))) then (some 6) else (prime_Check.l0 k x0 x13 x14 (wrap64 (x15 + 1)))) else (none)) else (none)) else (prime_Check.l0 k x0 x13 x14 (wrap64 (x15 + 1)))) else (some 25))) else (none)) else (none)) else (some 0)
def prime_Check.f (k : Nat) (l0 : List Int) : Option (Int) := if (l0.length : Int) = 0 then (some 13) else (if (l0.length : Int) > 6 then (some 4) else (prime_Check.l0 k l0 l0 (l0.length : Int) 0))
set_option maxHeartbeats 8000000 in
set_option maxRecDepth 100000 in
theorem prime_Check.calls (k : Nat) (A0 : Option Addr) (c0 : Nat) (l0 : List Int) (r : Int) (w : World) (hr0 : Kd.C (Kd.int .i64) w A0 l0.length l0) (hc0 : l0.length ≤ c0) (h : prime_Check.f k l0 = some r) :
  Calls Tryz.prog 29 #[.slice A0 l0.length c0] w fun e w' => e = .returned (.int .i64 r) ∧ Drawn0 w w' := by
 have HR0 := Aside0.mk hr0
 have HC0 := Aside0.mk hc0
 clear hr0 hc0
 have H : (if (l0.length : Int) = 0 then (some 13) else (if (l0.length : Int) > 6 then (some 4) else (prime_Check.l0 k l0 l0 (l0.length : Int) 0))) = some r := h
 clear h
 by_cases c2 : (l0.length : Int) = 0
 ·rw [if_pos c2] at H
  have c2b0 : ((l0.length : Int) == 0) = true := beq_iff_eq.mpr c2
  have c2b1 : ((l0.length : Int) != 0) = false := bne_eq_false_iff_eq.mpr c2
  clear c2
  obtain rfl := Option.some.inj H
  go_enter Tryz.func29, Tryz.ntmps29
  go_wp2
  go_ret
  exact ⟨by first | rfl | (simp; done) | (simp [*]; done), by repeat (first | exact Drawn0.refl _ | apply Drawn0.step)⟩
 ·rw [if_neg c2] at H
  have c2b0 : ((l0.length : Int) == 0) = false := beq_eq_false_iff_ne.mpr c2
  have c2b1 : ((l0.length : Int) != 0) = true := bne_iff_ne.mpr c2
  have c2b2 : ¬ (l0 = []) := fun h_ => c2 (by rw [h_]; rfl)
  by_cases c3 : (l0.length : Int) > 6
  ·rw [if_pos c3] at H
   have c3b0 : decide (6 < (l0.length : Int)) = true := decide_eq_true c3
   have c3b1 : decide (6 < l0.length) = true := decide_eq_true (by omega)
   clear c3
   obtain rfl := Option.some.inj H
   go_enter Tryz.func29, Tryz.ntmps29
   go_wp2
   go_ret
   exact ⟨by first | rfl | (simp; done) | (simp [*]; done), by repeat (first | exact Drawn0.refl _ | apply Drawn0.step)⟩
  ·rw [if_neg c3] at H
   have c3b0 : decide (6 < (l0.length : Int)) = false := decide_eq_false c3
   have c3b1 : decide (6 < l0.length) = false := decide_eq_false (by omega)
   clear c3
   have H' := Aside0.mk H
   clear H
   go_enter Tryz.func29, Tryz.ntmps29
   go_wp2
   go_loopg [15] k (fun kq v15 w' => ∃ (x15_1 : Int), v15 = .int .i64 x15_1 ∧ Aside0 (prime_Check.l0 kq l0 l0 (l0.length : Int) x15_1 = some r) ∧ Aside0 (kq ≤ k) ∧ Drawn0 w w')
   case atStart => exact ⟨(0), (by first | rfl | (simp; done) | (simp [*]; done)), H', ⟨Nat.le_refl _⟩, by repeat (first | exact Drawn0.refl _ | apply Drawn0.step)⟩
   case round =>
    clear H'
    obtain ⟨x15_1, rfl, HA, HK1, ⟨m1, rfl⟩⟩ := hrel
    cases gk with
    | zero => exact absurd HA.out (by simp [prime_Check.l0])
    | succ k1 =>
     have H := HA.out
     clear HA
     simp only [prime_Check.l0] at H
     by_cases c4 : x15_1 < (l0.length : Int)
     ·rw [if_pos c4] at H
      have c4b0 : decide (x15_1 < (l0.length : Int)) = true := decide_eq_true c4
      clear c4
      by_cases c5 : 0 ≤ x15_1
      case neg => rw [if_neg c5] at H; exact absurd H (by simp)
      rw [if_pos c5] at H
      have c5b0 : decide (0 ≤ x15_1) = true := decide_eq_true c5
      clear c5
      by_cases c6 : x15_1 < (l0.length : Int)
      case neg => rw [if_neg c6] at H; exact absurd H (by simp)
      rw [if_pos c6] at H
      have c6b0 : decide (x15_1 < (l0.length : Int)) = true := decide_eq_true c6
      clear c6
      replace H := Option.bind_eq_some_iff.mp H
      obtain ⟨t109, A70, H⟩ := H
      try dsimp only at H
      have A7 := Aside0.mk A70
      clear A70
      by_cases c8 : t109 = true
      ·subst c8
       have H1 : (if x15_1 > 0 then (if 0 ≤ (wrap64 (x15_1 - 1)) then (if (wrap64 (x15_1 - 1)) < (l0.length : Int) then (if (rd l0 x15_1) ≤ (rd l0 (wrap64 (x15_1 - 1))) then (some 6) else (prime_Check.l0 k1 l0 l0 (l0.length : Int) (wrap64 (x15_1 + 1)))) else (none)) else (none)) else (prime_Check.l0 k1 l0 l0 (l0.length : Int) (wrap64 (x15_1 + 1)))) = some r := by rw [if_pos rfl] at H; exact H
       clear H
       have H := H1
       clear H1
       by_cases c9 : x15_1 > 0
       ·rw [if_pos c9] at H
        have c9b0 : decide (0 < x15_1) = true := decide_eq_true c9
        clear c9
        obtain ⟨ji10, hji10⟩ : ∃ j_ : Int, (wrap64 (x15_1 - 1)) = j_ := ⟨_, rfl⟩
        replace H : (if 0 ≤ (ji10) then (if (ji10) < (l0.length : Int) then (if (rd l0 x15_1) ≤ (rd l0 (ji10)) then (some 6) else (prime_Check.l0 k1 l0 l0 (l0.length : Int) (wrap64 (x15_1 + 1)))) else (none)) else (none)) = some r := by first | (rw [hji10] at H; exact H) | (simp only [hji10] at H ⊢; exact H)
        (try rw [hji10] at A7)
        have hji10w : (IntKind.i64.wrap (x15_1 - 1)) = ji10 := (i64_w _).trans hji10
        by_cases c11 : 0 ≤ (ji10)
        case neg => rw [if_neg c11] at H; exact absurd H (by simp)
        rw [if_pos c11] at H
        have c11b0 : decide (0 ≤ (ji10)) = true := decide_eq_true c11
        clear c11
        by_cases c12 : (ji10) < (l0.length : Int)
        case neg => rw [if_neg c12] at H; exact absurd H (by simp)
        rw [if_pos c12] at H
        have c12b0 : decide ((ji10) < (l0.length : Int)) = true := decide_eq_true c12
        clear c12
        by_cases c13 : (rd l0 x15_1) ≤ (rd l0 (ji10))
        ·rw [if_pos c13] at H
         have c13b0 : decide ((rd l0 x15_1) ≤ (rd l0 (ji10))) = true := decide_eq_true c13
         clear c13
         obtain rfl := Option.some.inj H
         have p108 : 0 ≤ (x15_1 : Int) := of_decide_eq_true (by assumption)
         have q108 : x15_1 < (l0.length : Int) := of_decide_eq_true (by assumption)
         obtain ⟨ad108, e108, hx108_0⟩ := Kd.at_int HR0.out x15_1 p108 q108
         cases e108
         replace p108 := eq_true p108
         replace q108 := eq_true q108
         go_wp2_with (first | ((with_reducible refine gate_callee (f := 59) rfl ?_); refine goesK (some 21) Tryz.func59 [.int .i64 (rd l0 x15_1)] rfl rfl ?_; (with_reducible refine (prime_IsPrime.calls k1 (rd l0 x15_1) true _ A7.out).mono ?_); rintro e w' ⟨rfl, ⟨nd, rfl⟩⟩; refine ⟨_, rfl, ?_⟩; have p110 : 0 ≤ ((ji10) : Int) := of_decide_eq_true (by assumption); have q110 : (ji10) < (l0.length : Int) := of_decide_eq_true (by assumption); obtain ⟨ad110, e110, hx110_0⟩ := Kd.at_int HR0.out (ji10) p110 q110; obtain rfl : ad108 = ad110 := (by injection e110); replace p110 := eq_true p110; replace q110 := eq_true q110))
         go_ret
         exact ⟨by first | rfl | (simp; done) | (simp only [← hji10] <;> (first | rfl | simp)) | (simp [*]; done), by repeat (first | exact Drawn0.refl _ | apply Drawn0.step)⟩
        ·rw [if_neg c13] at H
         have c13b0 : decide ((rd l0 x15_1) ≤ (rd l0 (ji10))) = false := decide_eq_false c13
         clear c13
         have H' := Aside0.mk H
         clear H
         have p108 : 0 ≤ (x15_1 : Int) := of_decide_eq_true (by assumption)
         have q108 : x15_1 < (l0.length : Int) := of_decide_eq_true (by assumption)
         obtain ⟨ad108, e108, hx108_0⟩ := Kd.at_int HR0.out x15_1 p108 q108
         cases e108
         replace p108 := eq_true p108
         replace q108 := eq_true q108
         go_wp2_with (first | ((with_reducible refine gate_callee (f := 59) rfl ?_); refine goesK (some 21) Tryz.func59 [.int .i64 (rd l0 x15_1)] rfl rfl ?_; (with_reducible refine (prime_IsPrime.calls k1 (rd l0 x15_1) true _ A7.out).mono ?_); rintro e w' ⟨rfl, ⟨nd, rfl⟩⟩; refine ⟨_, rfl, ?_⟩; have p110 : 0 ≤ ((ji10) : Int) := of_decide_eq_true (by assumption); have q110 : (ji10) < (l0.length : Int) := of_decide_eq_true (by assumption); obtain ⟨ad110, e110, hx110_0⟩ := Kd.at_int HR0.out (ji10) p110 q110; obtain rfl : ad108 = ad110 := (by injection e110); replace p110 := eq_true p110; replace q110 := eq_true q110))
         go_roundg k1
         case measure => have := HK1.out; omega
         case rel => exact ⟨(wrap64 (x15_1 + 1)), (by first | rfl | (simp; done) | (simp [*]; done)), H', ⟨by have := HK1.out; omega⟩, by repeat (first | exact Drawn0.refl _ | apply Drawn0.step)⟩
       ·rw [if_neg c9] at H
        have c9b0 : decide (0 < x15_1) = false := decide_eq_false c9
        clear c9
        have H' := Aside0.mk H
        clear H
        have p108 : 0 ≤ (x15_1 : Int) := of_decide_eq_true (by assumption)
        have q108 : x15_1 < (l0.length : Int) := of_decide_eq_true (by assumption)
        obtain ⟨ad108, e108, hx108_0⟩ := Kd.at_int HR0.out x15_1 p108 q108
        cases e108
        replace p108 := eq_true p108
        replace q108 := eq_true q108
        go_wp2_with (first | ((with_reducible refine gate_callee (f := 59) rfl ?_); refine goesK (some 21) Tryz.func59 [.int .i64 (rd l0 x15_1)] rfl rfl ?_; (with_reducible refine (prime_IsPrime.calls k1 (rd l0 x15_1) true _ A7.out).mono ?_); rintro e w' ⟨rfl, ⟨nd, rfl⟩⟩; refine ⟨_, rfl, ?_⟩))
        go_roundg k1
        case measure => have := HK1.out; omega
        case rel => exact ⟨(wrap64 (x15_1 + 1)), (by first | rfl | (simp; done) | (simp [*]; done)), H', ⟨by have := HK1.out; omega⟩, by repeat (first | exact Drawn0.refl _ | apply Drawn0.step)⟩
      ·replace c8 := Bool.eq_false_iff.mpr c8
       subst c8
       have H1 : (some 25) = some r := by rw [if_neg (show ¬ (false = true) by decide)] at H; exact H
       clear H
       have H := H1
       clear H1
       obtain rfl := Option.some.inj H
       have p108 : 0 ≤ (x15_1 : Int) := of_decide_eq_true (by assumption)
       have q108 : x15_1 < (l0.length : Int) := of_decide_eq_true (by assumption)
       obtain ⟨ad108, e108, hx108_0⟩ := Kd.at_int HR0.out x15_1 p108 q108
       cases e108
       replace p108 := eq_true p108
       replace q108 := eq_true q108
       go_wp2_with (first | ((with_reducible refine gate_callee (f := 59) rfl ?_); refine goesK (some 21) Tryz.func59 [.int .i64 (rd l0 x15_1)] rfl rfl ?_; (with_reducible refine (prime_IsPrime.calls k1 (rd l0 x15_1) false _ A7.out).mono ?_); rintro e w' ⟨rfl, ⟨nd, rfl⟩⟩; refine ⟨_, rfl, ?_⟩))
       go_ret
       exact ⟨by first | rfl | (simp; done) | (simp [*]; done), by repeat (first | exact Drawn0.refl _ | apply Drawn0.step)⟩
     ·rw [if_neg c4] at H
      have c4b0 : decide (x15_1 < (l0.length : Int)) = false := decide_eq_false c4
      clear c4
      obtain rfl := Option.some.inj H
      go_wp2
      go_ret
      exact ⟨by first | rfl | (simp; done) | (simp [*]; done), by repeat (first | exact Drawn0.refl _ | apply Drawn0.step)⟩
end Go.Proofs.YtccebdpjdpjgnaaGreatDoor.P
end
section
namespace Go.Proofs.YtccebdpjdpjgnaaGreatDoor.P
open Go.RowKit Go.Proofs.YtccebdpjdpjgnaaGreatDoorW.PrintWords Go.Proofs.YtccebdpjdpjgnaaGreatDoorW.PrintLast Go.Proofs.YtccebdpjdpjgnaaGreatDoorW.PrintMore
attribute [local go_sem] max2_int min2_int max_two min_two max_three min_three max_four min_four
mutual
def monzo_CheckAll.l0 : Nat → List Int → List (List Int) → Int → Int → Option (Int)
 | 0, _, _, _, _ => none
 | k + 1, x0, x15, x16, x17 => if x17 < x16 then (if 0 ≤ x17 then (if x17 < (x15.length : Int) then (if ((rd_L2 x15 x17).length : Int) = (x0.length : Int) then (monzo_CheckAll.l1 k x0 x15 x16 x17 (rd_L2 x15 x17) ((rd_L2 x15 x17).length : Int) 0) else (some 5)) else (none)) else (none)) else (some 0)
def monzo_CheckAll.l1 : Nat → List Int → List (List Int) → Int → Int → List Int → Int → Int → Option (Int)
 | 0, _, _, _, _, _, _, _ => none
 | k + 1, x0, x15, x16, x17, x26, x27, x28 => if x28 < x27 then (if 0 ≤ x28 then (if x28 < (x26.length : Int) then (if (rd x26 x28) > 1000 then (some 4) else (if (rd x26 x28) < (-1000) then (some 4) else (monzo_CheckAll.l1 k x0 x15 x16 x17 x26 x27 (wrap64 (x28 + 1))))) else (none)) else (none)) else (monzo_CheckAll.l0 k x0 x15 x16 (wrap64 (x17 + 1)))
end
def monzo_CheckAll.f (k : Nat) (l0 : List Int) (l1 : List (List Int)) : Option (Int) := (prime_Check.f k l0).bind fun t111 => (if t111 = 0 then (monzo_CheckAll.l0 k l0 l1 (l1.length : Int) 0) else (some t111))
set_option maxHeartbeats 8000000 in
set_option maxRecDepth 100000 in
theorem monzo_CheckAll.calls (k : Nat) (A0 : Option Addr) (c0 : Nat) (l0 : List Int) (A1 : Option Addr) (c1 : Nat) (l1 : List (List Int)) (r : Int) (w : World) (hr0 : Kd.C (Kd.int .i64) w A0 l0.length l0) (hc0 : l0.length ≤ c0) (hr1 : Kd.C (Kd.slice 3 (Kd.int .i64)) w A1 l1.length l1) (hc1 : l1.length ≤ c1) (h : monzo_CheckAll.f k l0 l1 = some r) :
  Calls Tryz.prog 28 #[.slice A0 l0.length c0, .slice A1 l1.length c1] w fun e w' => e = .returned (.int .i64 r) ∧ Drawn0 w w' := by
 have HR0 := Aside0.mk hr0
 have HC0 := Aside0.mk hc0
 clear hr0 hc0
 have HR1 := Aside0.mk hr1
 have HC1 := Aside0.mk hc1
 clear hr1 hc1
 have H : ((prime_Check.f k l0).bind fun t111 => (if t111 = 0 then (monzo_CheckAll.l0 k l0 l1 (l1.length : Int) 0) else (some t111))) = some r := h
 clear h
 replace H := Option.bind_eq_some_iff.mp H
 obtain ⟨t111, A30, H⟩ := H
 try dsimp only at H
 have A3 := Aside0.mk A30
 clear A30
 by_cases c4 : t111 = 0
 ·rw [if_pos c4] at H
  have c4b0 : (t111 == 0) = true := beq_iff_eq.mpr c4
  have c4b1 : (t111 != 0) = false := bne_eq_false_iff_eq.mpr c4
  clear c4
  have H' := Aside0.mk H
  clear H
  go_enter Tryz.func28, Tryz.ntmps28
  go_wp2_with (first | ((with_reducible refine gate_callee (f := 29) rfl ?_); refine goesK (some 11) Tryz.func29 [.slice A0 l0.length c0] rfl rfl ?_; (with_reducible refine (prime_Check.calls k _ _ l0 t111 _ ?side1 ?side2 A3.out).mono ?_); (case side1 => apply_rules [HR0.out, Kd.C_alloc, Kd.C_drewN, Kd.C_drew]); (case side2 => exact HC0.out); rintro e w' ⟨rfl, ⟨nd, rfl⟩⟩; refine ⟨_, rfl, ?_⟩))
  go_loopg [17] k (fun kq v17 w' => ∃ (x17_1 : Int), v17 = .int .i64 x17_1 ∧ Aside0 (monzo_CheckAll.l0 kq l0 l1 (l1.length : Int) x17_1 = some r) ∧ Aside0 (kq ≤ k) ∧ Drawn0 w w')
  case atStart => exact ⟨(0), (by first | rfl | (simp; done) | (simp [*]; done)), H', ⟨Nat.le_refl _⟩, by repeat (first | exact Drawn0.refl _ | apply Drawn0.step)⟩
  case round =>
   clear H'
   obtain ⟨x17_1, rfl, HA, HK1, ⟨m1, rfl⟩⟩ := hrel
   cases gk with
   | zero => exact absurd HA.out (by simp [monzo_CheckAll.l0])
   | succ k1 =>
    have H := HA.out
    clear HA
    simp only [monzo_CheckAll.l0] at H
    by_cases c5 : x17_1 < (l1.length : Int)
    ·rw [if_pos c5] at H
     have c5b0 : decide (x17_1 < (l1.length : Int)) = true := decide_eq_true c5
     clear c5
     by_cases c6 : 0 ≤ x17_1
     case neg => rw [if_neg c6] at H; exact absurd H (by simp)
     rw [if_pos c6] at H
     have c6b0 : decide (0 ≤ x17_1) = true := decide_eq_true c6
     clear c6
     by_cases c7 : x17_1 < (l1.length : Int)
     case neg => rw [if_neg c7] at H; exact absurd H (by simp)
     rw [if_pos c7] at H
     have c7b0 : decide (x17_1 < (l1.length : Int)) = true := decide_eq_true c7
     clear c7
     by_cases c8 : ((rd_L2 l1 x17_1).length : Int) = (l0.length : Int)
     ·rw [if_pos c8] at H
      have c8b0 : (((rd_L2 l1 x17_1).length : Int) == (l0.length : Int)) = true := beq_iff_eq.mpr c8
      have c8b1 : (((rd_L2 l1 x17_1).length : Int) != (l0.length : Int)) = false := bne_eq_false_iff_eq.mpr c8
      have c8b2 : ((rd_L2 l1 x17_1).length == l0.length) = true := by first | simpa using c8 | (simp at c8 ⊢; omega)
      clear c8
      have H' := Aside0.mk H
      clear H
      have p112 : 0 ≤ (x17_1 : Int) := of_decide_eq_true (by assumption)
      have q112 : x17_1 < (l1.length : Int) := of_decide_eq_true (by assumption)
      obtain ⟨ad112, A112_0, c112_0, e112, hx112_0, hl112_0, hi112_0⟩ := at_L2 HR1.out x17_1 p112 q112
      cases e112
      have HR112_0 := Aside0.mk hi112_0
      have HC112_0 := Aside0.mk hl112_0
      clear hi112_0 hl112_0
      replace p112 := eq_true p112
      replace q112 := eq_true q112
      go_wp2
      go_loopg [28] k1 (fun kq v28 w' => ∃ (x28_2 : Int), v28 = .int .i64 x28_2 ∧ Aside0 (monzo_CheckAll.l1 kq l0 l1 (l1.length : Int) x17_1 (rd_L2 l1 x17_1) ((rd_L2 l1 x17_1).length : Int) x28_2 = some r) ∧ Aside0 (kq ≤ k1) ∧ Drawn0 w w')
      case atStart => exact ⟨(0), (by first | rfl | (simp; done) | (simp [*]; done)), H', ⟨Nat.le_refl _⟩, by repeat (first | exact Drawn0.refl _ | apply Drawn0.step)⟩
      case round =>
       clear H'
       obtain ⟨x28_2, rfl, HA, HK2, ⟨m2, rfl⟩⟩ := hrel
       cases gk with
       | zero => exact absurd HA.out (by simp [monzo_CheckAll.l1])
       | succ k2 =>
        have H := HA.out
        clear HA
        simp only [monzo_CheckAll.l1] at H
        by_cases c9 : x28_2 < ((rd_L2 l1 x17_1).length : Int)
        ·rw [if_pos c9] at H
         have c9b0 : decide (x28_2 < ((rd_L2 l1 x17_1).length : Int)) = true := decide_eq_true c9
         clear c9
         by_cases c10 : 0 ≤ x28_2
         case neg => rw [if_neg c10] at H; exact absurd H (by simp)
         rw [if_pos c10] at H
         have c10b0 : decide (0 ≤ x28_2) = true := decide_eq_true c10
         clear c10
         by_cases c11 : x28_2 < ((rd_L2 l1 x17_1).length : Int)
         case neg => rw [if_neg c11] at H; exact absurd H (by simp)
         rw [if_pos c11] at H
         have c11b0 : decide (x28_2 < ((rd_L2 l1 x17_1).length : Int)) = true := decide_eq_true c11
         clear c11
         by_cases c12 : (rd (rd_L2 l1 x17_1) x28_2) > 1000
         ·rw [if_pos c12] at H
          have c12b0 : decide (1000 < (rd (rd_L2 l1 x17_1) x28_2)) = true := decide_eq_true c12
          clear c12
          obtain rfl := Option.some.inj H
          have p113 : 0 ≤ (x28_2 : Int) := of_decide_eq_true (by assumption)
          have q113 : x28_2 < ((rd_L2 l1 x17_1).length : Int) := of_decide_eq_true (by assumption)
          obtain ⟨ad113, e113, hx113_0⟩ := Kd.at_int HR112_0.out x28_2 p113 q113
          cases e113
          replace p113 := eq_true p113
          replace q113 := eq_true q113
          go_wp2
          go_ret
          exact ⟨by first | rfl | (simp; done) | (simp [*]; done), by repeat (first | exact Drawn0.refl _ | apply Drawn0.step)⟩
         ·rw [if_neg c12] at H
          have c12b0 : decide (1000 < (rd (rd_L2 l1 x17_1) x28_2)) = false := decide_eq_false c12
          clear c12
          by_cases c13 : (rd (rd_L2 l1 x17_1) x28_2) < (-1000)
          ·rw [if_pos c13] at H
           have c13b0 : decide ((rd (rd_L2 l1 x17_1) x28_2) < (-1000)) = true := decide_eq_true c13
           clear c13
           obtain rfl := Option.some.inj H
           have p113 : 0 ≤ (x28_2 : Int) := of_decide_eq_true (by assumption)
           have q113 : x28_2 < ((rd_L2 l1 x17_1).length : Int) := of_decide_eq_true (by assumption)
           obtain ⟨ad113, e113, hx113_0⟩ := Kd.at_int HR112_0.out x28_2 p113 q113
           cases e113
           replace p113 := eq_true p113
           replace q113 := eq_true q113
           go_wp2
           go_ret
           exact ⟨by first | rfl | (simp; done) | (simp [*]; done), by repeat (first | exact Drawn0.refl _ | apply Drawn0.step)⟩
          ·rw [if_neg c13] at H
           have c13b0 : decide ((rd (rd_L2 l1 x17_1) x28_2) < (-1000)) = false := decide_eq_false c13
           clear c13
           have H' := Aside0.mk H
           clear H
           have p113 : 0 ≤ (x28_2 : Int) := of_decide_eq_true (by assumption)
           have q113 : x28_2 < ((rd_L2 l1 x17_1).length : Int) := of_decide_eq_true (by assumption)
           obtain ⟨ad113, e113, hx113_0⟩ := Kd.at_int HR112_0.out x28_2 p113 q113
           cases e113
           replace p113 := eq_true p113
           replace q113 := eq_true q113
           go_wp2
           go_roundg k2
           case measure => have := HK1.out; have := HK2.out; omega
           case rel => exact ⟨(wrap64 (x28_2 + 1)), (by first | rfl | (simp; done) | (simp [*]; done)), H', ⟨by have := HK1.out; have := HK2.out; omega⟩, by repeat (first | exact Drawn0.refl _ | apply Drawn0.step)⟩
        ·rw [if_neg c9] at H
         have c9b0 : decide (x28_2 < ((rd_L2 l1 x17_1).length : Int)) = false := decide_eq_false c9
         clear c9
         have H' := Aside0.mk H
         clear H
         go_wp2
         go_roundg k2
         case measure => have := HK1.out; have := HK2.out; omega
         case rel => exact ⟨(wrap64 (x17_1 + 1)), (by first | rfl | (simp; done) | (simp [*]; done)), H', ⟨by have := HK1.out; have := HK2.out; omega⟩, by repeat (first | exact Drawn0.refl _ | apply Drawn0.step)⟩
     ·rw [if_neg c8] at H
      have c8b0 : (((rd_L2 l1 x17_1).length : Int) == (l0.length : Int)) = false := beq_eq_false_iff_ne.mpr c8
      have c8b1 : (((rd_L2 l1 x17_1).length : Int) != (l0.length : Int)) = true := bne_iff_ne.mpr c8
      have c8b2 : ((rd_L2 l1 x17_1).length == l0.length) = false := by first | simpa using c8 | (simp at c8 ⊢; omega)
      obtain rfl := Option.some.inj H
      have p112 : 0 ≤ (x17_1 : Int) := of_decide_eq_true (by assumption)
      have q112 : x17_1 < (l1.length : Int) := of_decide_eq_true (by assumption)
      obtain ⟨ad112, A112_0, c112_0, e112, hx112_0, hl112_0, hi112_0⟩ := at_L2 HR1.out x17_1 p112 q112
      cases e112
      have HR112_0 := Aside0.mk hi112_0
      have HC112_0 := Aside0.mk hl112_0
      clear hi112_0 hl112_0
      replace p112 := eq_true p112
      replace q112 := eq_true q112
      go_wp2
      go_ret
      exact ⟨by first | rfl | (simp; done) | (simp [*]; done), by repeat (first | exact Drawn0.refl _ | apply Drawn0.step)⟩
    ·rw [if_neg c5] at H
     have c5b0 : decide (x17_1 < (l1.length : Int)) = false := decide_eq_false c5
     clear c5
     obtain rfl := Option.some.inj H
     go_wp2
     go_ret
     exact ⟨by first | rfl | (simp; done) | (simp [*]; done), by repeat (first | exact Drawn0.refl _ | apply Drawn0.step)⟩
 ·rw [if_neg c4] at H
  have c4b0 : (t111 == 0) = false := beq_eq_false_iff_ne.mpr c4
  have c4b1 : (t111 != 0) = true := bne_iff_ne.mpr c4
  obtain rfl := Option.some.inj H
  go_enter Tryz.func28, Tryz.ntmps28
  go_wp2_with (first | ((with_reducible refine gate_callee (f := 29) rfl ?_); refine goesK (some 11) Tryz.func29 [.slice A0 l0.length c0] rfl rfl ?_; (with_reducible refine (prime_Check.calls k _ _ l0 t111 _ ?side1 ?side2 A3.out).mono ?_); (case side1 => apply_rules [HR0.out, Kd.C_alloc, Kd.C_drewN, Kd.C_drew]); (case side2 => exact HC0.out); rintro e w' ⟨rfl, ⟨nd, rfl⟩⟩; refine ⟨_, rfl, ?_⟩))
  go_ret
  exact ⟨by first | rfl | (simp; done) | (simp [*]; done), by repeat (first | exact Drawn0.refl _ | apply Drawn0.step)⟩
end Go.Proofs.YtccebdpjdpjgnaaGreatDoor.P
end
section
namespace Go.Proofs.YtccebdpjdpjgnaaGreatDoor.P
open Go.RowKit Go.Proofs.YtccebdpjdpjgnaaGreatDoorW.PrintWords Go.Proofs.YtccebdpjdpjgnaaGreatDoorW.PrintLast Go.Proofs.YtccebdpjdpjgnaaGreatDoorW.PrintMore
attribute [local go_sem] max2_int min2_int max_two min_two max_three min_three max_four min_four
def monzo_Check.f (k : Nat) (l0 : List Int) (l1 : List Int) : Option (Int) := (monzo_CheckAll.f k l0 (([l1] : List (List Int)))).bind fun t117 => (some t117)
set_option maxHeartbeats 8000000 in
set_option maxRecDepth 100000 in
theorem monzo_Check.calls (k : Nat) (A0 : Option Addr) (c0 : Nat) (l0 : List Int) (P1_ : Nat → Prop) (A1 : Option Addr) (c1 : Nat) (l1 : List Int) (r : Int) (w : World) (hr0 : Kd.C (Kd.int .i64) w A0 l0.length l0) (hc0 : l0.length ≤ c0) (hs1 : Kd.V (Kd.int .i64) 3 w w.heap.size (fun k_ => P1_ k_) (.slice A1 l1.length c1) l1) (h : monzo_Check.f k l0 l1 = some r) :
  Calls Tryz.prog 27 #[.slice A0 l0.length c0, .slice A1 l1.length c1] w fun e w' => e = .returned (.int .i64 r) ∧ Below w.heap.size w w' := by
 have HR0 := Aside0.mk hr0
 have HC0 := Aside0.mk hc0
 clear hr0 hc0
 have HO1 := Aside0.mk (show Kd.V (Kd.int .i64) 3 w w.heap.size (fun k_ => (P1_ k_ ∨ w.heap.size ≤ k_)) (.slice A1 l1.length c1) l1 from Kd.V_mono hs1 (fun k_ hk => .inl hk))
 have HB := Aside0.mk (Below.refl w.heap.size w)
 have H : ((monzo_CheckAll.f k l0 (([l1] : List (List Int)))).bind fun t117 => (some t117)) = some r := h
 clear h
 obtain ⟨y114, hy114⟩ : ∃ y_ : List (List Int), y_ = (([l1] : List (List Int))) := ⟨_, rfl⟩
 replace H : ((monzo_CheckAll.f k l0 y114).bind fun t117 => (some t117)) = some r := by first | (rw [hy114]; with_reducible exact H) | (have H2_ := (Option.bind_some _ _).symm.trans H; rw [hy114]; with_reducible exact H2_) | (have H2_ := (Option.bind_some _ _).symm.trans H; with_reducible exact H2_) | with_reducible exact H | (rw [hy114]; exact H) | exact H
 have Ny114 := Aside0.mk hy114
 clear hy114
 replace H := Option.bind_eq_some_iff.mp H
 obtain ⟨t117, A30, H⟩ := H
 try dsimp only at H
 have A3 := Aside0.mk A30
 clear A30
 obtain rfl := Option.some.inj H
 go_enter Tryz.func27, Tryz.ntmps27
 go_wp2_with (first | ((with_reducible refine gate_dst (N := 7) rfl ?_); refine Kd.N_lit (Kd.slice 3 (Kd.int .i64)) _ 24 ?hg (N' := 7) ?hd (xs := ([l1] : List (List Int))) (inner := [.slice A1 l1.length c1]) (ok := (fun k_ => (P1_ k_ ∨ w.heap.size ≤ k_))) (okp := (fun k_ => (P1_ k_ ∨ w.heap.size ≤ k_))) ?hr ?hp (fun _ hk => hk) ((show ∀ k_, w.heap.size ≤ k_ → (fun k_ => (P1_ k_ ∨ w.heap.size ≤ k_)) k_ from fun k_ hk => (.inr (Nat.le_trans (below_size (by apply_rules [HB.out, below_alloc, pw_below_drewN, below_drew1])) hk))) _ (Nat.le_refl _)) (Below.refl _ _) (Nat.le_refl _) (by simp) ?_; (case hd => rfl); (case hg => rfl); (case hr => go_simp; try rfl); (case hp => exact (Reps.one (show Kd.FK (Kd.slice 3 (Kd.int .i64)) _ _ l1 [.slice A1 l1.length c1] from (Kd.FK_slice_mk (Kd.V_reads' (Kd.V_mono (ok' := (fun k_ => (P1_ k_ ∨ w.heap.size ≤ k_))) (HO1.out) (fun k_ hk => hk))).2.1 (Kd.V_F (Kd.V_mono (ok' := (fun k_ => (P1_ k_ ∨ w.heap.size ≤ k_))) (HO1.out) (fun k_ hk => hk))))) (Reps.none _ _))); intro v115 w4 ho5 hb hg_ hnew_; clear hg_ hnew_; (first | rw [← Ny114.out] at ho5 | (simp only [Int.reduceToNat] at ho5; rw [← Ny114.out] at ho5)); replace HO1 := Aside0.mk (Kd.V_elder' (by apply_rules [HO1.out, Kd.V_alloc, Kd.V_drewN, Kd.V_drew]) (Kd.N_base ho5) hb); have HO116 := Aside0.mk (Kd.N_lower ho5 (below_size (by apply_rules [HB.out, below_alloc, pw_below_drewN, below_drew1]))); replace HB := Aside0.mk (below_step (by apply_rules [HB.out, below_alloc, pw_below_drewN, below_drew1]) hb); clear hb ho5; obtain ⟨Ao6, co6, eo6⟩ := Kd.N_slice HO116.out; subst eo6) | ((with_reducible refine gate_callee (f := 28) rfl ?_); refine goesK (some 8) Tryz.func28 [.slice A0 l0.length c0, .slice Ao6 y114.length co6] rfl rfl ?_; (with_reducible refine (monzo_CheckAll.calls k _ _ l0 _ _ y114 t117 _ ?side1 ?side2 ?side3 ?side4 A3.out).mono ?_); (case side1 => apply_rules [(Kd.C_below HR0.out HB.out), Kd.C_alloc, Kd.C_drewN, Kd.C_drew]); (case side2 => exact HC0.out); (case side3 => apply_rules [(Kd.N_reads' HO116.out).2.2, Kd.C_alloc, Kd.C_drewN, Kd.C_drew]); (case side4 => exact (Kd.N_reads' HO116.out).2.1); rintro e w' ⟨rfl, ⟨nd, rfl⟩⟩; refine ⟨_, rfl, ?_⟩))
 go_ret
 exact ⟨by first | rfl | simp [*], by apply_rules [HB.out, below_alloc, pw_below_drewN, below_drew1]⟩
end Go.Proofs.YtccebdpjdpjgnaaGreatDoor.P
end
section
namespace Go.Proofs.YtccebdpjdpjgnaaGreatDoor.P
open Go.RowKit Go.Proofs.YtccebdpjdpjgnaaGreatDoorW.PrintWords Go.Proofs.YtccebdpjdpjgnaaGreatDoorW.PrintLast Go.Proofs.YtccebdpjdpjgnaaGreatDoorW.PrintMore
theorem cell_spot {w : World} {a : Addr} {v : Value} (h : w.cell? a = some v) : a.spot = none ∧ a.block < w.heap.size := by
 unfold World.cell? at h
 split at h
 ·next c e f hc =>
  refine ⟨?_, ?_⟩
  ·split at h
   ·cases h
   ·next hs => simpa using hs
  ·obtain ⟨hl, _⟩ := Array.getElem?_eq_some_iff.1 hc
   exact hl
 ·cases h
theorem C_flat {α : Type} {enc : α → Value} {h1 : ∀ x, (enc x).oneCell' = true} {w : World} {A : Option Addr} {n : Nat} {xs : List α} (h : (Kd.scalar enc h1).C w A n xs) (h0 : 0 < n) :
  ∃ b o, A = some ⟨b, o, none⟩ ∧ b < w.heap.size ∧ ∀ (j : Nat) x, xs[j]? = some x → w.cell? ⟨b, o + j, none⟩ = some (enc x) := by
 obtain ⟨hl, _, hc⟩ := h
 obtain ⟨ad, hA, hcell⟩ := hc h0
 have hget : ∀ (j : Nat) x, xs[j]? = some x → w.cell? (ad.add j) = some (enc x) := fun j x hj => by
  obtain ⟨c, _, hr, hu⟩ := hcell j x hj
  have hr' : c = [enc x] := hr
  have := hu 0 (enc x) (by rw [hr']; rfl)
  have e : (Kd.scalar enc h1).sz = 1 := rfl
  rw [e, Nat.mul_one, Nat.add_zero] at this
  exact this
 have hz : 0 < xs.length := by omega
 have h00 := hget 0 _ (List.getElem?_eq_getElem hz)
 have e0 : ad.add 0 = ad := rfl
 rw [e0] at h00
 obtain ⟨hs, hb⟩ := cell_spot h00
 obtain ⟨b, o, s⟩ := ad
 simp only at hs hb
 subst hs
 refine ⟨b, o, hA, hb, fun j x hj => ?_⟩
 have := hget j x hj
 unfold Addr.add at this
 split at this
 ·next hj0 => subst hj0; exact this
 ·exact this
def strings_Join.f (l0 : List ByteArray) (a1 : ByteArray) : Option ByteArray :=
 if (Lib.join (l0.map (·.data.toList)) a1.data.toList).length ≤ 140737488355328 ∧ l0.length ≤ 140737488355328 then some ⟨(Lib.join (l0.map (·.data.toList)) a1.data.toList).toArray⟩ else none
theorem strings_Join.calls (A0 : Option Addr) (c0 : Nat) (l0 : List ByteArray) (a1 : ByteArray) (r : ByteArray) (w : World) (hr0 : Kd.C Kd.string w A0 l0.length l0) (hc0 : l0.length ≤ c0) (h : strings_Join.f l0 a1 = some r) :
  Calls Tryz.prog 97 #[.slice A0 l0.length c0, .string a1] w fun e w' => e = .returned (.string r) ∧ Below w.heap.size w w' := by
 unfold strings_Join.f at h
 split at h
 ·next hb =>
  injection h with h
  subst h
  by_cases h0 : l0.length = 0
  ·obtain rfl := List.length_eq_zero_iff.1 h0
   refine (Tryz.strings_Join_none A0 c0 a1 w).mono ?_
   rintro e w' ⟨rfl, rfl⟩
   exact ⟨rfl, Below.refl _ _⟩
  ·obtain ⟨b, o, rfl, hbk, hcells⟩ := C_flat hr0 (by omega)
   exact Tryz.strings_Join b o c0 l0 a1 w hcells hbk hb.2 hc0 hb.1
 ·cases h
end Go.Proofs.YtccebdpjdpjgnaaGreatDoor.P
end
section
namespace Go.Proofs
def Tryz.lays130_ren : Go.Shelf.Ren := ⟨fun | 8 => 130 | 6 => 180 | n => n, fun | 22 => 24 | 23 => 3 | 25 => 80 | n => n, fun n => n⟩
theorem Tryz.lays130 : Go.Proofs.SlLaysH.n8 Tryz.prog Tryz.lays130_ren := {
 mixed := by kernel_rfl
 f6 := ⟨Tryz.f180.name, by decide, Tryz.func180.trans (congrArg some (by kernel_rfl))⟩
 f8 := ⟨Tryz.f130.name, by decide, Tryz.func130.trans (congrArg some (by kernel_rfl))⟩
 t0 := Tryz.underlying0
 a0 := Tryz.isAgg0
 z0 := Tryz.sizeOf0
 v0 := Tryz.zeroValue0
 t3 := Tryz.underlying3
 a3 := Tryz.isAgg3
 z3 := Tryz.sizeOf3
 v3 := Tryz.zeroValue3
 t4 := Tryz.underlying4
 a4 := Tryz.isAgg4
 z4 := Tryz.sizeOf4
 v4 := Tryz.zeroValue4
 t22 := Tryz.underlying24
 a22 := Tryz.isAgg24
 z22 := Tryz.sizeOf24
 v22 := Tryz.zeroValue24
 a23 := Tryz.isAgg3
 z23 := Tryz.sizeOf3
 t25 := Tryz.underlying80
 a25 := Tryz.isAgg80
 z25 := Tryz.sizeOf80
 v25 := Tryz.zeroValue80 }
end Go.Proofs
namespace Go.Proofs.YtccebdpjdpjgnaaGreatDoor.P
open Go.RowKit Go.Proofs.YtccebdpjdpjgnaaGreatDoorW.PrintWords Go.Proofs.YtccebdpjdpjgnaaGreatDoorW.PrintLast Go.Proofs.YtccebdpjdpjgnaaGreatDoorW.PrintMore
set_option linter.unusedVariables false
def badEntry (x : Int) : Bool := decide (x < -1000000000) || decide (x > 1000000000)
theorem check_lit (x : Int) (w : World) : Calls Tryz.prog 161 #[.int .i64 x] w fun e w' => e = .returned (.bool (badEntry x)) ∧ ∃ q, w' = w.drewN q := by
  unfold badEntry
  go_enter Tryz.func161, Tryz.ntmps161
  go_wp2
  all_goals
    rename_i h
    go_ret
    refine ⟨?_, 0, rfl⟩
    by_cases h1 : x < -1000000000
    · first | omega | simp [h1]
    · first
        | (exfalso; omega)
        | (rcases Int.lt_or_le 1000000000 x with h3 | h3
           · have h2 : ¬ x ≤ 1000000000 := by omega
             simp [h1, h2, h3]
           · have h2 : ¬ 1000000000 < x := by omega
             simp [h1, h2, h3])
theorem contains_any (A0 : Option Addr) (c0 : Nat) (l0 : List Int) (w : World) (hr0 : Kd.C (Kd.int .i64) w A0 l0.length l0) (hc0 : l0.length ≤ c0) :
  Calls Tryz.prog 130 #[.slice A0 l0.length c0, .func (.func 161) #[] #[]] w fun e w' => e = .returned (.bool (l0.any badEntry)) ∧ Below w.heap.size w w' := by
 by_cases h0 : l0.length = 0
 ·obtain rfl := List.length_eq_zero_iff.1 h0
  refine (AnyE.slices_ContainsFunc_empty Tryz.lays130 A0 c0 (.func (.func 161) #[] #[]) w).mono ?_
  rintro e w' ⟨rfl, rfl⟩
  exact ⟨rfl, Below.refl _ _⟩
 ·obtain ⟨b, o, rfl, hbk, hcells⟩ := C_flat hr0 (by omega)
  have := AnyE.slices_ContainsFunc Tryz.lays130 (α := Int) (Value.int .i64) badEntry 161 #[] (enters_ Tryz.func161 rfl rfl) b o l0.length c0 l0 w (fun W x _ => check_lit x W) (Nat.le_refl _) hr0.2.1 (fun j hj => by
   have := hcells j (l0[j]!) (by rw [List.getElem?_eq_getElem hj, getElem!_pos l0 j hj])
   exact this)
  rw [List.take_length] at this
  refine this.mono ?_
  rintro e w' ⟨rfl, q, rfl⟩
  exact ⟨rfl, pw_below_drewN (Below.refl _ _) q⟩
def row_Check.f (l0 : List Int) : Option Int := some (if l0.length > 64 ∨ l0.any (fun n => n < -1000000000 || n > 1000000000) = true then 4 else 0)
theorem row_Check.calls (A0 : Option Addr) (c0 : Nat) (l0 : List Int) (r : Int) (w : World) (hr0 : Kd.C (Kd.int .i64) w A0 l0.length l0) (hc0 : l0.length ≤ c0) (h : row_Check.f l0 = some r) :
  Calls Tryz.prog 95 #[.slice A0 l0.length c0] w fun e w' => e = .returned (.int .i64 r) ∧ Below w.heap.size w w' := by
 have hlen : l0.length ≤ 9223372036854775807 := hr0.2.1
 have hcon := contains_any A0 c0 l0 w hr0 hc0
 have hbe : (fun n : Int => decide (n < -1000000000) || decide (n > 1000000000)) = badEntry := rfl
 unfold row_Check.f at h
 rw [hbe] at h
 injection h with h
 by_cases h1 : l0.length > 64
 ·rw [if_pos (.inl h1)] at h
  subst h
  have d1 : (64 : Int) < (l0.length : Int) := by omega
  clear hcon hr0 h1
  go_enter Tryz.func95, Tryz.ntmps95
  go_wp2_with fail
  go_ret
  exact ⟨rfl, by first | exact Below.refl _ _ | exact pw_below_drewN (Below.refl _ _) _⟩
 ·have d1 : ¬ ((64 : Int) < (l0.length : Int)) := by omega
  by_cases h2 : l0.any badEntry = true
  ·rw [if_pos (.inr h2)] at h
   subst h
   rw [h2] at hcon
   clear hr0 h1
   go_enter Tryz.func95, Tryz.ntmps95
   go_wp2_with fail
   refine hcon.mono ?_
   rintro e w1 ⟨rfl, hb1⟩
   go_wp2
   go_ret
   exact ⟨rfl, by repeat (first | (with_reducible first | exact hb1 | apply below_alloc | apply pw_below_drewN | apply below_drew1) | exact hb1)⟩
  ·rw [if_neg (fun e => e.elim h1 h2)] at h
   subst h
   rw [Bool.not_eq_true] at h2
   rw [h2] at hcon
   clear hr0 h1
   go_enter Tryz.func95, Tryz.ntmps95
   go_wp2_with fail
   refine hcon.mono ?_
   rintro e w1 ⟨rfl, hb1⟩
   go_wp2
   go_ret
   exact ⟨rfl, by repeat (first | (with_reducible first | exact hb1 | apply below_alloc | apply pw_below_drewN | apply below_drew1) | exact hb1)⟩
end Go.Proofs.YtccebdpjdpjgnaaGreatDoor.P
end
section
namespace Go.Proofs.YtccebdpjdpjgnaaGreatDoor.P
open Go.RowKit Go.Proofs.YtccebdpjdpjgnaaGreatDoorW.PrintWords Go.Proofs.YtccebdpjdpjgnaaGreatDoorW.PrintLast Go.Proofs.YtccebdpjdpjgnaaGreatDoorW.PrintMore
attribute [local go_sem] max2_int min2_int max_two min_two max_three min_three max_four min_four
def row_Text.l0 : Nat → Bool → List ByteArray → List Int → Int → Int → Option (ByteArray × Int)
 | 0, _, _, _, _, _ => none
 | k + 1, x1, x7, x16, x17, x18 => if x18 < x17 then (if 0 ≤ x18 then (if x18 < (x16.length : Int) then ((strconv_Itoa.f (rd x16 x18)).bind fun t103 => (if x7.length < 8796093022208 then (row_Text.l0 k x1 (x7 ++ [t103]) x16 x17 (wrap64 (x18 + 1))) else (none))) else (none)) else (none)) else ((strings_Join.f x7 (⟨#[32]⟩ : ByteArray)).bind fun t107 => (if x1 = true then (if 1 + t107.size ≤ 9223372036854775807 then (if 1 + t107.size + 1 ≤ 9223372036854775807 then (some (((⟨#[91]⟩ : ByteArray) ++ t107) ++ (⟨#[62]⟩ : ByteArray), 0)) else (none)) else (none)) else (if 1 + t107.size ≤ 9223372036854775807 then (if 1 + t107.size + 1 ≤ 9223372036854775807 then (some (((⟨#[60]⟩ : ByteArray) ++ t107) ++ (⟨#[93]⟩ : ByteArray), 0)) else (none)) else (none))))
def row_Text.f (k : Nat) (l0 : List Int) (a1 : Bool) : Option (ByteArray × Int) := (row_Check.f l0).bind fun t101 => (if t101 = 0 then (row_Text.l0 k a1 ([] : List ByteArray) l0 (l0.length : Int) 0) else (some ((⟨#[]⟩ : ByteArray), t101)))
set_option maxHeartbeats 8000000 in
set_option maxRecDepth 100000 in
theorem row_Text.calls (k : Nat) (A0 : Option Addr) (c0 : Nat) (l0 : List Int) (a1 : Bool) (r1 : ByteArray) (r2 : Int) (w : World) (hT : TabW w) (hr0 : Kd.C (Kd.int .i64) w A0 l0.length l0) (hc0 : l0.length ≤ c0) (h : row_Text.f k l0 a1 = some (r1, r2)) :
  Calls Tryz.prog 26 #[.slice A0 l0.length c0, .bool a1] w fun e w' => e = .returned (.tuple #[.string r1, .int .i64 r2]) ∧ Below w.heap.size w w' := by
 have HR0 := Aside0.mk hr0
 have HC0 := Aside0.mk hc0
 clear hr0 hc0
 have HB := Aside0.mk (Below.refl w.heap.size w)
 have H : ((row_Check.f l0).bind fun t101 => (if t101 = 0 then (row_Text.l0 k a1 ([] : List ByteArray) l0 (l0.length : Int) 0) else (some ((⟨#[]⟩ : ByteArray), t101)))) = some (r1, r2) := h
 clear h
 replace H := Option.bind_eq_some_iff.mp H
 obtain ⟨t101, A30, H⟩ := H
 try dsimp only at H
 have A3 := Aside0.mk A30
 clear A30
 by_cases c4 : t101 = 0
 ·rw [if_pos c4] at H
  have c4b0 : (t101 == 0) = true := beq_iff_eq.mpr c4
  have c4b1 : (t101 != 0) = false := bne_eq_false_iff_eq.mpr c4
  clear c4
  have H' := Aside0.mk H
  clear H
  go_enter Tryz.func26, Tryz.ntmps26
  go_wp2_with (first | ((with_reducible refine gate_callee (f := 95) rfl ?_); refine goesK (some 12) Tryz.func95 [.slice A0 l0.length c0] rfl rfl ?_; (with_reducible refine (row_Check.calls _ _ l0 t101 _ ?side1 ?side2 A3.out).mono ?_); (case side1 => apply_rules [HR0.out, Kd.C_alloc, Kd.C_drewN, Kd.C_drew]); (case side2 => exact HC0.out); rintro e w5 ⟨rfl, hb⟩; refine ⟨_, rfl, ?_⟩; replace HB := Aside0.mk (below_step (by apply_rules [HB.out, below_alloc, pw_below_drewN, below_drew1]) hb); (try clear hb)))
  go_loopg [7, 18] k (fun kq v7 v18 w' => ∃ (x7_1 : List ByteArray) (x18_1 : Int), v18 = .int .i64 x18_1 ∧ Aside0 (row_Text.l0 kq a1 x7_1 l0 (l0.length : Int) x18_1 = some (r1, r2)) ∧ Aside0 (kq ≤ k) ∧ Aside0 (Kd.R Kd.string 9 w' w.heap.size (fun _ => True) v7 x7_1) ∧ Aside0 (Below w.heap.size w w'))
  case atStart => exact ⟨(([] : List ByteArray)), (0), (by first | rfl | (simp; done) | (simp [*]; done)), H', ⟨Nat.le_refl _⟩, ⟨by first | exact Kd.R_nil _ _ _ _ _ | exact Kd.N_nil _ _ _ _ _ | exact Kd.V_nil _ _ _ _ _ | exact Kd.Q_nil _ _ _ _ _ | exact Kd.S_nil _ _ _ _ _⟩, ⟨by apply_rules [HB.out, below_alloc, pw_below_drewN, below_drew1]⟩⟩
  case round =>
   clear H'
   obtain ⟨x7_1, x18_1, rfl, HA, HK1, HO_7, HB⟩ := hrel
   cases gk with
   | zero => exact absurd HA.out (by simp [row_Text.l0])
   | succ k1 =>
    have H := HA.out
    clear HA
    simp only [row_Text.l0] at H
    by_cases c6 : x18_1 < (l0.length : Int)
    ·rw [if_pos c6] at H
     have c6b0 : decide (x18_1 < (l0.length : Int)) = true := decide_eq_true c6
     clear c6
     by_cases c7 : 0 ≤ x18_1
     case neg => rw [if_neg c7] at H; exact absurd H (by simp)
     rw [if_pos c7] at H
     have c7b0 : decide (0 ≤ x18_1) = true := decide_eq_true c7
     clear c7
     by_cases c8 : x18_1 < (l0.length : Int)
     case neg => rw [if_neg c8] at H; exact absurd H (by simp)
     rw [if_pos c8] at H
     have c8b0 : decide (x18_1 < (l0.length : Int)) = true := decide_eq_true c8
     clear c8
     replace H := Option.bind_eq_some_iff.mp H
     obtain ⟨t103, A90, H⟩ := H
     try dsimp only at H
     have A9 := Aside0.mk A90
     clear A90
     by_cases c10 : x7_1.length < 8796093022208
     case neg => rw [if_neg c10] at H; exact absurd H (by simp)
     rw [if_pos c10] at H
     have LMc10 := Aside0.mk c10
     clear c10
     obtain ⟨y104, hy104⟩ : ∃ y_ : List ByteArray, y_ = (x7_1 ++ [t103]) := ⟨_, rfl⟩
     replace H : (row_Text.l0 k1 a1 y104 l0 (l0.length : Int) (wrap64 (x18_1 + 1))) = some (r1, r2) := by first | (rw [hy104]; with_reducible exact H) | (have H2_ := (Option.bind_some _ _).symm.trans H; rw [hy104]; with_reducible exact H2_) | (have H2_ := (Option.bind_some _ _).symm.trans H; with_reducible exact H2_) | with_reducible exact H | (rw [hy104]; exact H) | exact H
     have Ny104 := Aside0.mk hy104
     clear hy104
     have H' := Aside0.mk H
     clear H
     have p102 : 0 ≤ (x18_1 : Int) := of_decide_eq_true (by assumption)
     have q102 : x18_1 < (l0.length : Int) := of_decide_eq_true (by assumption)
     obtain ⟨ad102, e102, hx102_0⟩ := Kd.at_int HR0.out x18_1 p102 q102
     cases e102
     replace hx102_0 := (HB.out.cell (World.block_lt_of_cell? w _ hx102_0)).trans hx102_0
     replace p102 := eq_true p102
     replace q102 := eq_true q102
     go_wp2_with (first | ((with_reducible refine gate_callee (f := 96) rfl ?_); refine goesK (some 24) Tryz.func96 [.int .i64 (rd l0 x18_1)] rfl rfl ?_; (with_reducible refine (strconv_Itoa.calls (rd l0 x18_1) t103 _ ?side1 A9.out).mono ?_); (case side1 => refine TabW.below hT ?_; apply_rules [HB.out, below_alloc, pw_below_drewN, below_drew1]); rintro e w11 ⟨rfl, hb⟩; refine ⟨_, rfl, ?_⟩; replace HO_7 := Aside0.mk (Kd.R_below (by apply_rules [HO_7.out, Kd.R_alloc, Kd.R_drewN, Kd.R_drew]) hb); replace HB := Aside0.mk (below_step (by apply_rules [HB.out, below_alloc, pw_below_drewN, below_drew1]) hb); (try clear hb)) | ((with_reducible refine gate_builtin (b := .append) (xs := #[.tmp 22, .tmp 25]) rfl ?_); at_builtin; refine Kd.R_append Kd.string (w0 := w) w.heap.size rfl (.tmp 22) (.tmp 25) 126 9 (.string ⟨#[]⟩) 16 rfl Tryz.underlying126 info9 rfl (by decide) (by omega) u7 x7_1 t103 [.string t103] (fun _ => True) (fun _ => False) rfl rfl ?aP (fun _ hk => hk.elim) ?aF ?aO ?aB ?aS ?aL ?_; (case aP => exact rfl); (case aB => exact (by apply_rules [HB.out, below_alloc, pw_below_drewN, below_drew1])); (case aF => exact (fun _ _ => trivial)); (case aO => exact (by apply_rules [HO_7.out, Kd.R_alloc, Kd.R_drewN, Kd.R_drew])); (case aS => exact (below_size (by apply_rules [HB.out, below_alloc, pw_below_drewN, below_drew1]))); (case aL => have := LMc10.out; omega); intro v105 w12 ho hb hg hat; rw [← Ny104.out] at ho; replace HB := Aside0.mk (hb); have HO106 := Aside0.mk (ho); clear HO_7; clear ho hb hg hat))
     go_roundg k1
     case measure => have := HK1.out; omega
     case rel => exact ⟨(y104), (wrap64 (x18_1 + 1)), (by first | rfl | (simp; done) | (simp [*]; done)), H', ⟨by have := HK1.out; omega⟩, ⟨by apply_rules [HO106.out, Kd.R_alloc, Kd.R_drewN, Kd.R_drew]⟩, ⟨by apply_rules [HB.out, below_alloc, pw_below_drewN, below_drew1]⟩⟩
    ·rw [if_neg c6] at H
     have c6b0 : decide (x18_1 < (l0.length : Int)) = false := decide_eq_false c6
     clear c6
     replace H := Option.bind_eq_some_iff.mp H
     obtain ⟨t107, A130, H⟩ := H
     try dsimp only at H
     have A13 := Aside0.mk A130
     clear A130
     by_cases c14 : a1 = true
     ·subst c14
      have H1 : (if 1 + t107.size ≤ 9223372036854775807 then (if 1 + t107.size + 1 ≤ 9223372036854775807 then (some (((⟨#[91]⟩ : ByteArray) ++ t107) ++ (⟨#[62]⟩ : ByteArray), 0)) else (none)) else (none)) = some (r1, r2) := by rw [if_pos rfl] at H; exact H
      clear H
      have H := H1
      clear H1
      by_cases c15 : 1 + t107.size ≤ 9223372036854775807
      case neg => rw [if_neg c15] at H; exact absurd H (by simp)
      rw [if_pos c15] at H
      have c15b0 := eq_true c15
      have c15b1 : decide (1 + t107.size ≤ 9223372036854775807) = true := decide_eq_true c15
      try have c15b2 : (9223372036854775807 < 1 + t107.size) = False := eq_false (Nat.not_lt.2 c15)
      by_cases c16 : 1 + t107.size + 1 ≤ 9223372036854775807
      case neg => rw [if_neg c16] at H; exact absurd H (by simp)
      rw [if_pos c16] at H
      have c16b0 := eq_true c16
      have c16b1 : decide (1 + t107.size + 1 ≤ 9223372036854775807) = true := decide_eq_true c16
      try have c16b2 : (9223372036854775807 < 1 + t107.size + 1) = False := eq_false (Nat.not_lt.2 c16)
      simp only [Option.some.injEq, Prod.mk.injEq] at H
      obtain ⟨rfl, rfl⟩ := H
      obtain ⟨Ao17, co17, eo17⟩ := Kd.R_slice HO_7.out
      subst eo17
      go_wp2_with (first | ((with_reducible refine gate_callee (f := 97) rfl ?_); refine goesK (some 29) Tryz.func97 [.slice Ao17 x7_1.length co17, .string (⟨#[32]⟩ : ByteArray)] rfl rfl ?_; (with_reducible refine (strings_Join.calls _ _ x7_1 (⟨#[32]⟩ : ByteArray) t107 _ ?side1 ?side2 A13.out).mono ?_); (case side1 => apply_rules [(Kd.R_reads' HO_7.out).2.2, Kd.C_alloc, Kd.C_drewN, Kd.C_drew]); (case side2 => exact (Kd.R_reads' HO_7.out).2.1); rintro e w18 ⟨rfl, hb⟩; refine ⟨_, rfl, ?_⟩; replace HO_7 := Aside0.mk (Kd.R_below (by apply_rules [HO_7.out, Kd.R_alloc, Kd.R_drewN, Kd.R_drew]) hb); replace HB := Aside0.mk (below_step (by apply_rules [HB.out, below_alloc, pw_below_drewN, below_drew1]) hb); (try clear hb)))
      go_ret2
      exact ⟨by first | rfl | simp [*], by apply_rules [HB.out, below_alloc, pw_below_drewN, below_drew1]⟩
     ·replace c14 := Bool.eq_false_iff.mpr c14
      subst c14
      have H1 : (if 1 + t107.size ≤ 9223372036854775807 then (if 1 + t107.size + 1 ≤ 9223372036854775807 then (some (((⟨#[60]⟩ : ByteArray) ++ t107) ++ (⟨#[93]⟩ : ByteArray), 0)) else (none)) else (none)) = some (r1, r2) := by rw [if_neg (show ¬ (false = true) by decide)] at H; exact H
      clear H
      have H := H1
      clear H1
      by_cases c19 : 1 + t107.size ≤ 9223372036854775807
      case neg => rw [if_neg c19] at H; exact absurd H (by simp)
      rw [if_pos c19] at H
      have c19b0 := eq_true c19
      have c19b1 : decide (1 + t107.size ≤ 9223372036854775807) = true := decide_eq_true c19
      try have c19b2 : (9223372036854775807 < 1 + t107.size) = False := eq_false (Nat.not_lt.2 c19)
      by_cases c20 : 1 + t107.size + 1 ≤ 9223372036854775807
      case neg => rw [if_neg c20] at H; exact absurd H (by simp)
      rw [if_pos c20] at H
      have c20b0 := eq_true c20
      have c20b1 : decide (1 + t107.size + 1 ≤ 9223372036854775807) = true := decide_eq_true c20
      try have c20b2 : (9223372036854775807 < 1 + t107.size + 1) = False := eq_false (Nat.not_lt.2 c20)
      simp only [Option.some.injEq, Prod.mk.injEq] at H
      obtain ⟨rfl, rfl⟩ := H
      obtain ⟨Ao21, co21, eo21⟩ := Kd.R_slice HO_7.out
      subst eo21
      go_wp2_with (first | ((with_reducible refine gate_callee (f := 97) rfl ?_); refine goesK (some 29) Tryz.func97 [.slice Ao21 x7_1.length co21, .string (⟨#[32]⟩ : ByteArray)] rfl rfl ?_; (with_reducible refine (strings_Join.calls _ _ x7_1 (⟨#[32]⟩ : ByteArray) t107 _ ?side1 ?side2 A13.out).mono ?_); (case side1 => apply_rules [(Kd.R_reads' HO_7.out).2.2, Kd.C_alloc, Kd.C_drewN, Kd.C_drew]); (case side2 => exact (Kd.R_reads' HO_7.out).2.1); rintro e w22 ⟨rfl, hb⟩; refine ⟨_, rfl, ?_⟩; replace HO_7 := Aside0.mk (Kd.R_below (by apply_rules [HO_7.out, Kd.R_alloc, Kd.R_drewN, Kd.R_drew]) hb); replace HB := Aside0.mk (below_step (by apply_rules [HB.out, below_alloc, pw_below_drewN, below_drew1]) hb); (try clear hb)))
      go_ret2
      exact ⟨by first | rfl | simp [*], by apply_rules [HB.out, below_alloc, pw_below_drewN, below_drew1]⟩
 ·rw [if_neg c4] at H
  have c4b0 : (t101 == 0) = false := beq_eq_false_iff_ne.mpr c4
  have c4b1 : (t101 != 0) = true := bne_iff_ne.mpr c4
  simp only [Option.some.injEq, Prod.mk.injEq] at H
  obtain ⟨rfl, rfl⟩ := H
  go_enter Tryz.func26, Tryz.ntmps26
  go_wp2_with (first | ((with_reducible refine gate_callee (f := 95) rfl ?_); refine goesK (some 12) Tryz.func95 [.slice A0 l0.length c0] rfl rfl ?_; (with_reducible refine (row_Check.calls _ _ l0 t101 _ ?side1 ?side2 A3.out).mono ?_); (case side1 => apply_rules [HR0.out, Kd.C_alloc, Kd.C_drewN, Kd.C_drew]); (case side2 => exact HC0.out); rintro e w23 ⟨rfl, hb⟩; refine ⟨_, rfl, ?_⟩; replace HB := Aside0.mk (below_step (by apply_rules [HB.out, below_alloc, pw_below_drewN, below_drew1]) hb); (try clear hb)))
  go_ret2
  exact ⟨by first | rfl | simp [*], by apply_rules [HB.out, below_alloc, pw_below_drewN, below_drew1]⟩
end Go.Proofs.YtccebdpjdpjgnaaGreatDoor.P
end
