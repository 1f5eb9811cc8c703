/-
words of the walks
-/
import Derived.Test.YtccebdpjdpjgnaaGreatDoorBE35
import Derived.Test.YtccebdpjdpjgnaaGreatDoorBE41
import Derived.Test.YtccebdpjdpjgnaaGreatDoorBE37
import Derived.Test.YtccebdpjdpjgnaaGreatDoorBE39
set_option linter.unusedVariables false
set_option linter.unusedSimpArgs false
namespace Go.Proofs.YtccebdpjdpjgnaaGreatDoor.P
open Go.RowKit Go.Proofs.YtccebdpjdpjgnaaGreatDoorW.PrintWords Go.Proofs.YtccebdpjdpjgnaaGreatDoorW.PrintLast Go.Proofs.YtccebdpjdpjgnaaGreatDoorW.PrintMore
attribute [local go_sem] max2_int min2_int max_two min_two max_three min_three max_four min_four
set_option linter.unusedVariables false
set_option linter.unusedSimpArgs false
attribute [local go_sem high] eqA38
mutual
def schismalaw12_MonzoLong.j0 : Nat → Int → Bool → Option (Bool)
 | 0, _, _ => none
 | k + 1, x0, x30 => if x30 = true then ((schismalaw12_known.f k).bind fun t500 => (some t500)) else ((some (([2, 3] : List Int) : List Int)).bind fun y501 => ((schismalaw12_abs.f (wrap64 (x0))).bind fun t504 => ((some (([0, wrap64 (x0)] : List Int) : List Int)).bind fun y505 => ((decimal_Power.f k (⟨#[51]⟩ : ByteArray) t504).bind fun bt508 => ((monzo_Fraction.f k y501 y505).bind fun bt510 => ((monzo_Text.f k y501 y505).bind fun bt514 => ((monzo_Greater.f k y501 y505).bind fun bt516 => ((monzo_Product.f k y501 y505).bind fun bt518 => ((monzo_Sign.f k y501 (([(-1), wrap64 (x0)] : List Int))).bind fun bt523 => ((monzo_Compare.f k y501 y505 (([0, wrap64 (Int.tdiv (wrap64 (x0)) 2)] : List Int))).bind fun bt528 => (if x0 ≤ 0 then (schismalaw12_MonzoLong.j1 k x0 bt508.1 bt508.2 bt510.2.2 bt514.1 bt514.2 bt516.1 bt516.2 bt518.1 bt518.2 bt523.1 bt523.2 bt528.1 bt528.2 (-1) bt510.1 bt510.2.1) else (schismalaw12_MonzoLong.j1 k x0 bt508.1 bt508.2 bt510.2.2 bt514.1 bt514.2 bt516.1 bt516.2 bt518.1 bt518.2 bt523.1 bt523.2 bt528.1 bt528.2 1 bt510.1 bt510.2.1))))))))))))
def schismalaw12_MonzoLong.j1 : Nat → Int → ByteArray → Int → Int → ByteArray → Int → ByteArray → Int → ByteArray → Int → Int → Int → Int → Int → Int → ByteArray → ByteArray → Option (Bool)
 | 0, _, _, _, _, _, _, _, _, _, _, _, _, _, _, _, _, _ => none
 | k + 1, x0, x6, x7, x9, x10, x11, x12, x13, x14, x15, x16, x17, x18, x19, x20, x514000, x514001 => if x7 = 0 then (if x16 = x20 then (if x17 = 0 then (if x19 = 0 then (if x0 > 1 then (if x18 = 1 then (if x0 < (-1) then (if x18 = (-1) then (if x0 = 0 then (schismalaw12_MonzoLong.j2 k x6 x9 x10 x11 x12 x13 x14 x15 (x18 != 0) x514000 x514001) else (schismalaw12_MonzoLong.j2 k x6 x9 x10 x11 x12 x13 x14 x15 false x514000 x514001)) else (schismalaw12_MonzoLong.j2 k x6 x9 x10 x11 x12 x13 x14 x15 true x514000 x514001)) else (if x0 = 0 then (schismalaw12_MonzoLong.j2 k x6 x9 x10 x11 x12 x13 x14 x15 (x18 != 0) x514000 x514001) else (schismalaw12_MonzoLong.j2 k x6 x9 x10 x11 x12 x13 x14 x15 false x514000 x514001))) else (schismalaw12_MonzoLong.j2 k x6 x9 x10 x11 x12 x13 x14 x15 true x514000 x514001)) else (if x0 < (-1) then (if x18 = (-1) then (if x0 = 0 then (schismalaw12_MonzoLong.j2 k x6 x9 x10 x11 x12 x13 x14 x15 (x18 != 0) x514000 x514001) else (schismalaw12_MonzoLong.j2 k x6 x9 x10 x11 x12 x13 x14 x15 false x514000 x514001)) else (schismalaw12_MonzoLong.j2 k x6 x9 x10 x11 x12 x13 x14 x15 true x514000 x514001)) else (if x0 = 0 then (schismalaw12_MonzoLong.j2 k x6 x9 x10 x11 x12 x13 x14 x15 (x18 != 0) x514000 x514001) else (schismalaw12_MonzoLong.j2 k x6 x9 x10 x11 x12 x13 x14 x15 false x514000 x514001)))) else (schismalaw12_MonzoLong.j2 k x6 x9 x10 x11 x12 x13 x14 x15 true x514000 x514001)) else (schismalaw12_MonzoLong.j2 k x6 x9 x10 x11 x12 x13 x14 x15 true x514000 x514001)) else (schismalaw12_MonzoLong.j2 k x6 x9 x10 x11 x12 x13 x14 x15 true x514000 x514001)) else (schismalaw12_MonzoLong.j2 k x6 x9 x10 x11 x12 x13 x14 x15 true x514000 x514001)
def schismalaw12_MonzoLong.j2 : Nat → ByteArray → Int → ByteArray → Int → ByteArray → Int → ByteArray → Int → Bool → ByteArray → ByteArray → Option (Bool)
 | 0, _, _, _, _, _, _, _, _, _, _, _ => none
 | k + 1, x6, x9, x10, x11, x12, x13, x14, x15, x126, x514000, x514001 => if x126 = true then (some false) else (if (x6.size : Int) > 400 then (if (x514000.toList == ([] : List UInt8) && (x514001.toList == ([] : List UInt8))) = true then (if x9 = 4 then (if x10.toList = ([] : List UInt8) then (if x11 = 4 then (if x12.toList = ([] : List UInt8) then (if x13 = 4 then (if x14.toList = ([] : List UInt8) then (some (x15 == 4)) else (some false)) else (some false)) else (some false)) else (some false)) else (some false)) else (some false)) else (some false)) else (if x514000.toList = x6.toList then (if x9 = 0 then (if x10.toList = ([] : List UInt8) then (some false) else (if x11 = 0 then (if x12.toList = x6.toList then (if x13 = 0 then (if x14.toList = x6.toList then (some (x15 == 0)) else (some false)) else (some false)) else (some false)) else (some false))) else (some false)) else (if x514001.toList = x6.toList then (if x9 = 0 then (if x10.toList = ([] : List UInt8) then (some false) else (if x11 = 0 then (if x12.toList = x6.toList then (if x13 = 0 then (if x14.toList = x6.toList then (some (x15 == 0)) else (some false)) else (some false)) else (some false)) else (some false))) else (some false)) else (some false))))
end
def schismalaw12_MonzoLong.f (k : Nat) (a0 : Int) : Option (Bool) := (schismalaw12_known.f k).bind fun t499 => (if t499 = true then (if a0 > 1000 then (schismalaw12_MonzoLong.j0 k a0 true) else (schismalaw12_MonzoLong.j0 k a0 (decide (a0 < (-1000))))) else (schismalaw12_MonzoLong.j0 k a0 true))
theorem schismalaw12_MonzoLong.j2_no {k : Nat} {x6 x9 x10 x11 x12 x13 x14 x15 x514000 x514001} {r : Bool} (h : schismalaw12_MonzoLong.j2 k x6 x9 x10 x11 x12 x13 x14 x15 true x514000 x514001 = some r) (e : r = true) : False := by
 subst e
 cases k <;> simp [schismalaw12_MonzoLong.j2] at h
set_option maxHeartbeats 8000000 in
set_option maxRecDepth 100000 in
theorem schismalaw12_MonzoLong.calls (k : Nat) (a0 : Int) (r : Bool) (w : World) (hT : TabW w) (h : schismalaw12_MonzoLong.f k a0 = some r) (hr : r = true) (hk : ∀ k, schismalaw12_known.f k ≠ some false) :
  Calls Tryz.prog 6 #[.int .i16 a0] w fun e w' => e = .returned (.bool r) ∧ Below w.heap.size w w' := by
 have hu38 := Tryz.underlying38
 have HB := Aside0.mk (Below.refl w.heap.size w)
 have H : ((schismalaw12_known.f k).bind fun t499 => (if t499 = true then (if a0 > 1000 then (schismalaw12_MonzoLong.j0 k a0 true) else (schismalaw12_MonzoLong.j0 k a0 (decide (a0 < (-1000))))) else (schismalaw12_MonzoLong.j0 k a0 true))) = some r := h
 clear h
 have HC2 := Aside0.mk H
 clear H
 go_enter Tryz.func6, Tryz.ntmps6
 go_upto_region 1 with (fail)
 go_cut [30] (fun v30 wc => ∃ (kq : Nat) (x30_1 : Bool), v30 = .bool x30_1 ∧ Aside0 (schismalaw12_MonzoLong.j0 kq a0 x30_1 = some r) ∧ Aside0 (kq ≤ k) ∧ Aside0 (Below w.heap.size w wc))
 case first =>
  as_aux_lemma =>
   have H := HC2.out
   clear HC2
   replace H := Option.bind_eq_some_iff.mp H
   obtain ⟨t499, A30, H⟩ := H
   try dsimp only at H
   have A3 := Aside0.mk A30
   clear A30
   by_cases c4 : t499 = true
   ·subst c4
    have H1 : (if a0 > 1000 then (schismalaw12_MonzoLong.j0 k a0 true) else (schismalaw12_MonzoLong.j0 k a0 (decide (a0 < (-1000))))) = some r := by rw [if_pos rfl] at H; exact H
    clear H
    have H := H1
    clear H1
    by_cases c5 : a0 > 1000
    ·rw [if_pos c5] at H
     have c5b0 : decide (1000 < a0) = true := decide_eq_true c5
     clear c5
     (first | rw [c5b0] | (simp only [i64_w, i32_w]; rw [c5b0]) | skip)
     have H' := Aside0.mk H
     clear H
     go_wp2_with (first | ((with_reducible refine gate_callee (f := 22) rfl ?_); refine goesK (some 21) Tryz.func22 [] rfl rfl ?_; (with_reducible refine (schismalaw12_known.calls k  true _ ?side1 A3.out (by first | rfl | assumption)).mono ?_); (case side1 => refine TabW.below hT ?_; apply_rules [HB.out, below_alloc, pw_below_drewN, below_drew1]); rintro e w6 ⟨rfl, hb⟩; refine ⟨_, rfl, ?_⟩; replace HB := Aside0.mk (below_step (by apply_rules [HB.out, below_alloc, pw_below_drewN, below_drew1]) hb); (try clear hb)))
     go_meet
     case rel => exact ⟨_, (true), (by first | rfl | (simp; done) | (simp [*]; done)), H', ⟨by first | omega | exact Nat.le_refl _⟩, ⟨by apply_rules [HB.out, below_alloc, pw_below_drewN, below_drew1]⟩⟩
    ·rw [if_neg c5] at H
     have c5b0 : decide (1000 < a0) = false := decide_eq_false c5
     clear c5
     (first | rw [c5b0] | (simp only [i64_w, i32_w]; rw [c5b0]) | skip)
     have H' := Aside0.mk H
     clear H
     go_wp2_with (first | ((with_reducible refine gate_callee (f := 22) rfl ?_); refine goesK (some 21) Tryz.func22 [] rfl rfl ?_; (with_reducible refine (schismalaw12_known.calls k  true _ ?side1 A3.out (by first | rfl | assumption)).mono ?_); (case side1 => refine TabW.below hT ?_; apply_rules [HB.out, below_alloc, pw_below_drewN, below_drew1]); rintro e w7 ⟨rfl, hb⟩; refine ⟨_, rfl, ?_⟩; replace HB := Aside0.mk (below_step (by apply_rules [HB.out, below_alloc, pw_below_drewN, below_drew1]) hb); (try clear hb)))
     go_meet
     case rel => exact ⟨_, (decide (a0 < (-1000))), (by first | rfl | (simp; done) | (simp [*]; done)), H', ⟨by first | omega | exact Nat.le_refl _⟩, ⟨by apply_rules [HB.out, below_alloc, pw_below_drewN, below_drew1]⟩⟩
   ·replace c4 := Bool.eq_false_iff.mpr c4
    subst c4
    have H1 : (schismalaw12_MonzoLong.j0 k a0 true) = some r := by rw [if_neg (show ¬ (false = true) by decide)] at H; exact H
    clear H
    have H := H1
    clear H1
    have H' := Aside0.mk H
    clear H
    exact absurd A3.out (hk _)
 case rest =>
  as_aux_lemma =>
   clear HC2
   obtain ⟨kq, x30_1, rfl, HA, HJ1, HB⟩ := hcut
   cases kq with
   | zero => exact absurd HA.out (by simp [schismalaw12_MonzoLong.j0])
   | succ kj1 =>
    have H := HA.out
    clear HA
    simp only [schismalaw12_MonzoLong.j0] at H
    by_cases c9 : x30_1 = true
    ·subst c9
     have H1 : ((schismalaw12_known.f kj1).bind fun t500 => (some t500)) = some r := by rw [if_pos rfl] at H; exact H
     clear H
     have H := H1
     clear H1
     replace H := Option.bind_eq_some_iff.mp H
     obtain ⟨t500, A100, H⟩ := H
     try dsimp only at H
     have A10 := Aside0.mk A100
     clear A100
     obtain rfl := Option.some.inj H
     go_wp2_with (first | ((with_reducible refine gate_callee (f := 22) rfl ?_); refine goesK (some 31) Tryz.func22 [] rfl rfl ?_; (with_reducible refine (schismalaw12_known.calls kj1  t500 _ ?side1 A10.out (by first | rfl | assumption)).mono ?_); (case side1 => refine TabW.below hT ?_; apply_rules [HB.out, below_alloc, pw_below_drewN, below_drew1]); rintro e w11 ⟨rfl, hb⟩; refine ⟨_, rfl, ?_⟩; replace HB := Aside0.mk (below_step (by apply_rules [HB.out, below_alloc, pw_below_drewN, below_drew1]) hb); (try clear hb)))
     go_ret
     exact ⟨by first | rfl | simp [*], by apply_rules [HB.out, below_alloc, pw_below_drewN, below_drew1]⟩
    ·replace c9 := Bool.eq_false_iff.mpr c9
     subst c9
     have H1 : ((some (([2, 3] : List Int) : List Int)).bind fun y501 => ((schismalaw12_abs.f (wrap64 (a0))).bind fun t504 => ((some (([0, wrap64 (a0)] : List Int) : List Int)).bind fun y505 => ((decimal_Power.f kj1 (⟨#[51]⟩ : ByteArray) t504).bind fun bt508 => ((monzo_Fraction.f kj1 y501 y505).bind fun bt510 => ((monzo_Text.f kj1 y501 y505).bind fun bt514 => ((monzo_Greater.f kj1 y501 y505).bind fun bt516 => ((monzo_Product.f kj1 y501 y505).bind fun bt518 => ((monzo_Sign.f kj1 y501 (([(-1), wrap64 (a0)] : List Int))).bind fun bt523 => ((monzo_Compare.f kj1 y501 y505 (([0, wrap64 (Int.tdiv (wrap64 (a0)) 2)] : List Int))).bind fun bt528 => (if a0 ≤ 0 then (schismalaw12_MonzoLong.j1 kj1 a0 bt508.1 bt508.2 bt510.2.2 bt514.1 bt514.2 bt516.1 bt516.2 bt518.1 bt518.2 bt523.1 bt523.2 bt528.1 bt528.2 (-1) bt510.1 bt510.2.1) else (schismalaw12_MonzoLong.j1 kj1 a0 bt508.1 bt508.2 bt510.2.2 bt514.1 bt514.2 bt516.1 bt516.2 bt518.1 bt518.2 bt523.1 bt523.2 bt528.1 bt528.2 1 bt510.1 bt510.2.1)))))))))))) = some r := by rw [if_neg (show ¬ (false = true) by decide)] at H; exact H
     clear H
     have H := H1
     clear H1
     obtain ⟨y501, hy501⟩ : ∃ y_ : List Int, y_ = (([2, 3] : List Int)) := ⟨_, rfl⟩
     replace H : ((schismalaw12_abs.f (wrap64 (a0))).bind fun t504 => ((some (([0, wrap64 (a0)] : List Int) : List Int)).bind fun y505 => ((decimal_Power.f kj1 (⟨#[51]⟩ : ByteArray) t504).bind fun bt508 => ((monzo_Fraction.f kj1 y501 y505).bind fun bt510 => ((monzo_Text.f kj1 y501 y505).bind fun bt514 => ((monzo_Greater.f kj1 y501 y505).bind fun bt516 => ((monzo_Product.f kj1 y501 y505).bind fun bt518 => ((monzo_Sign.f kj1 y501 (([(-1), wrap64 (a0)] : List Int))).bind fun bt523 => ((monzo_Compare.f kj1 y501 y505 (([0, wrap64 (Int.tdiv (wrap64 (a0)) 2)] : List Int))).bind fun bt528 => (if a0 ≤ 0 then (schismalaw12_MonzoLong.j1 kj1 a0 bt508.1 bt508.2 bt510.2.2 bt514.1 bt514.2 bt516.1 bt516.2 bt518.1 bt518.2 bt523.1 bt523.2 bt528.1 bt528.2 (-1) bt510.1 bt510.2.1) else (schismalaw12_MonzoLong.j1 kj1 a0 bt508.1 bt508.2 bt510.2.2 bt514.1 bt514.2 bt516.1 bt516.2 bt518.1 bt518.2 bt523.1 bt523.2 bt528.1 bt528.2 1 bt510.1 bt510.2.1))))))))))) = some r := by first | (rw [hy501]; with_reducible exact H) | (have H2_ := (Option.bind_some _ _).symm.trans H; rw [hy501]; with_reducible exact H2_) | (have H2_ := (Option.bind_some _ _).symm.trans H; with_reducible exact H2_) | with_reducible exact H | (rw [hy501]; exact H) | exact H
     have Ny501 := Aside0.mk hy501
     clear hy501
     replace H := Option.bind_eq_some_iff.mp H
     obtain ⟨t504, A120, H⟩ := H
     try dsimp only at H
     have A12 := Aside0.mk A120
     clear A120
     obtain ⟨y505, hy505⟩ : ∃ y_ : List Int, y_ = (([0, wrap64 (a0)] : List Int)) := ⟨_, rfl⟩
     replace H : ((decimal_Power.f kj1 (⟨#[51]⟩ : ByteArray) t504).bind fun bt508 => ((monzo_Fraction.f kj1 y501 y505).bind fun bt510 => ((monzo_Text.f kj1 y501 y505).bind fun bt514 => ((monzo_Greater.f kj1 y501 y505).bind fun bt516 => ((monzo_Product.f kj1 y501 y505).bind fun bt518 => ((monzo_Sign.f kj1 y501 (([(-1), wrap64 (a0)] : List Int))).bind fun bt523 => ((monzo_Compare.f kj1 y501 y505 (([0, wrap64 (Int.tdiv (wrap64 (a0)) 2)] : List Int))).bind fun bt528 => (if a0 ≤ 0 then (schismalaw12_MonzoLong.j1 kj1 a0 bt508.1 bt508.2 bt510.2.2 bt514.1 bt514.2 bt516.1 bt516.2 bt518.1 bt518.2 bt523.1 bt523.2 bt528.1 bt528.2 (-1) bt510.1 bt510.2.1) else (schismalaw12_MonzoLong.j1 kj1 a0 bt508.1 bt508.2 bt510.2.2 bt514.1 bt514.2 bt516.1 bt516.2 bt518.1 bt518.2 bt523.1 bt523.2 bt528.1 bt528.2 1 bt510.1 bt510.2.1))))))))) = some r := by first | (rw [hy505]; with_reducible exact H) | (have H2_ := (Option.bind_some _ _).symm.trans H; rw [hy505]; with_reducible exact H2_) | (have H2_ := (Option.bind_some _ _).symm.trans H; with_reducible exact H2_) | with_reducible exact H | (rw [hy505]; exact H) | exact H
     have Ny505 := Aside0.mk hy505
     clear hy505
     replace H := Option.bind_eq_some_iff.mp H
     obtain ⟨⟨t508, t509⟩, A130, H⟩ := H
     try dsimp only at H
     have A13 := Aside0.mk A130
     clear A130
     replace H := Option.bind_eq_some_iff.mp H
     obtain ⟨⟨t510, t511, t512⟩, A140, H⟩ := H
     try dsimp only at H
     have A14 := Aside0.mk A140
     clear A140
     replace H := Option.bind_eq_some_iff.mp H
     obtain ⟨⟨t514, t515⟩, A150, H⟩ := H
     try dsimp only at H
     have A15 := Aside0.mk A150
     clear A150
     replace H := Option.bind_eq_some_iff.mp H
     obtain ⟨⟨t516, t517⟩, A160, H⟩ := H
     try dsimp only at H
     have A16 := Aside0.mk A160
     clear A160
     replace H := Option.bind_eq_some_iff.mp H
     obtain ⟨⟨t518, t519⟩, A170, H⟩ := H
     try dsimp only at H
     have A17 := Aside0.mk A170
     clear A170
     obtain ⟨y520, hy520⟩ : ∃ y_ : List Int, y_ = (([(-1), wrap64 (a0)] : List Int)) := ⟨_, rfl⟩
     replace H : ((monzo_Sign.f kj1 y501 y520).bind fun bt523 => ((monzo_Compare.f kj1 y501 y505 (([0, wrap64 (Int.tdiv (wrap64 (a0)) 2)] : List Int))).bind fun bt528 => (if a0 ≤ 0 then (schismalaw12_MonzoLong.j1 kj1 a0 t508 t509 t512 t514 t515 t516 t517 t518 t519 bt523.1 bt523.2 bt528.1 bt528.2 (-1) t510 t511) else (schismalaw12_MonzoLong.j1 kj1 a0 t508 t509 t512 t514 t515 t516 t517 t518 t519 bt523.1 bt523.2 bt528.1 bt528.2 1 t510 t511)))) = some r := by first | (rw [hy520]; with_reducible exact H) | (have H2_ := (Option.bind_some _ _).symm.trans H; rw [hy520]; with_reducible exact H2_) | (have H2_ := (Option.bind_some _ _).symm.trans H; with_reducible exact H2_) | with_reducible exact H | (rw [hy520]; exact H) | exact H
     have Ny520 := Aside0.mk hy520
     clear hy520
     replace H := Option.bind_eq_some_iff.mp H
     obtain ⟨⟨t523, t524⟩, A180, H⟩ := H
     try dsimp only at H
     have A18 := Aside0.mk A180
     clear A180
     obtain ⟨y525, hy525⟩ : ∃ y_ : List Int, y_ = (([0, wrap64 (Int.tdiv (wrap64 (a0)) 2)] : List Int)) := ⟨_, rfl⟩
     replace H : ((monzo_Compare.f kj1 y501 y505 y525).bind fun bt528 => (if a0 ≤ 0 then (schismalaw12_MonzoLong.j1 kj1 a0 t508 t509 t512 t514 t515 t516 t517 t518 t519 t523 t524 bt528.1 bt528.2 (-1) t510 t511) else (schismalaw12_MonzoLong.j1 kj1 a0 t508 t509 t512 t514 t515 t516 t517 t518 t519 t523 t524 bt528.1 bt528.2 1 t510 t511))) = some r := by first | (rw [hy525]; with_reducible exact H) | (have H2_ := (Option.bind_some _ _).symm.trans H; rw [hy525]; with_reducible exact H2_) | (have H2_ := (Option.bind_some _ _).symm.trans H; with_reducible exact H2_) | with_reducible exact H | (rw [hy525]; exact H) | exact H
     have Ny525 := Aside0.mk hy525
     clear hy525
     replace H := Option.bind_eq_some_iff.mp H
     obtain ⟨⟨t528, t529⟩, A190, H⟩ := H
     try dsimp only at H
     have A19 := Aside0.mk A190
     clear A190
     have HC20 := Aside0.mk H
     clear H
     go_upto_if 87 with (first | ((with_reducible refine gate_dst (N := 32) rfl ?_); refine Kd.R_lit (Kd.int .i64) _ 3 ?hg (N := 32) ?hd (xs := ([2, 3] : List Int)) (inner := [.int .i64 2, .int .i64 3]) (ok := fun _ => True) (okp := fun _ => True) ?hr ?hp (fun _ hk => hk) trivial (Below.refl _ _) (Nat.le_refl _) (by simp) ?_; (case hd => rfl); (case hg => rfl); (case hr => go_simp; try rfl); (case hp => exact (Reps.one (show Kd.M (Kd.int .i64) _ _ _ 2 [.int .i64 2] from rfl) (Reps.one (show Kd.M (Kd.int .i64) _ _ _ 3 [.int .i64 3] from rfl) (Reps.none _ _)))); intro v502 w21 ho22 hb hg_ hnew_; clear hg_ hnew_; (first | rw [← Ny501.out] at ho22 | (simp only [Int.reduceToNat] at ho22; rw [← Ny501.out] at ho22)); have n0_ := Aside0.mk (Kd.R_lower ho22 (below_size (by apply_rules [HB.out, below_alloc, pw_below_drewN, below_drew1]))); have n1_ := Aside0.mk (below_step (by apply_rules [HB.out, below_alloc, pw_below_drewN, below_drew1]) hb); clear HB; have HO503 := n0_; have HB := n1_; clear n0_ n1_; clear hb ho22) | ((with_reducible refine gate_callee (f := 40) rfl ?_); refine goesK (some 35) Tryz.func40 [.int .i64 (wrap64 (a0))] rfl rfl ?_; (with_reducible refine (schismalaw12_abs.calls (wrap64 (a0)) t504 _ A12.out).mono ?_); rintro e w' ⟨rfl, ⟨nd, rfl⟩⟩; refine ⟨_, rfl, ?_⟩; (try (rw [drewN_self w21]; generalize hq_ : World.drewN w21 _ = w21; have n0_ : Aside0 (Kd.R (Kd.int .i64) 3 w21 w.heap.size (fun _ => True) v502 y501) := ⟨by rw [← hq_]; exact (by apply_rules [HO503.out, Kd.R_alloc, Kd.R_drewN, Kd.R_drew])⟩; have n1_ : Aside0 (Below w.heap.size w w21) := ⟨by rw [← hq_]; exact (by apply_rules [HB.out, below_alloc, pw_below_drewN, below_drew1])⟩; clear HO503 HB hq_; have HO503 := n0_; have HB := n1_; clear n0_ n1_))) | ((with_reducible refine gate_dst (N := 38) rfl ?_); refine Kd.R_lit (Kd.int .i64) _ 3 ?hg (N := 38) ?hd (xs := ([0, wrap64 (a0)] : List Int)) (inner := [.int .i64 0, .int .i64 (wrap64 (a0))]) (ok := fun _ => True) (okp := fun _ => True) ?hr ?hp (fun _ hk => hk) trivial (Below.refl _ _) (Nat.le_refl _) (by simp) ?_; (case hd => rfl); (case hg => rfl); (case hr => go_simp; try rfl); (case hp => exact (Reps.one (show Kd.M (Kd.int .i64) _ _ _ 0 [.int .i64 0] from rfl) (Reps.one (show Kd.M (Kd.int .i64) _ _ _ (wrap64 (a0)) [.int .i64 (wrap64 (a0))] from rfl) (Reps.none _ _)))); intro v506 w23 ho24 hb hg_ hnew_; clear hg_ hnew_; (first | rw [← Ny505.out] at ho24 | (simp only [Int.reduceToNat] at ho24; rw [← Ny505.out] at ho24)); have n0_ := Aside0.mk (Kd.R_elder' (by apply_rules [HO503.out, Kd.R_alloc, Kd.R_drewN, Kd.R_drew]) (Kd.R_base ho24) hb); have n1_ := Aside0.mk (Kd.R_lower (Kd.R_new' ho24 (Kd.R_lt (by apply_rules [HO503.out, Kd.R_alloc, Kd.R_drewN, Kd.R_drew]))) (below_size (by apply_rules [HB.out, below_alloc, pw_below_drewN, below_drew1]))); have n2_ := Aside0.mk (below_step (by apply_rules [HB.out, below_alloc, pw_below_drewN, below_drew1]) hb); clear HO503; clear HB; have HO503 := n0_; have HO507 := n1_; have HB := n2_; clear n0_ n1_ n2_; clear hb ho24) | ((with_reducible refine gate_callee (f := 41) rfl ?_); refine goesK (some 41) Tryz.func41 [.string (⟨#[51]⟩ : ByteArray), .int .i64 t504] rfl rfl ?_; (with_reducible refine (decimal_Power.calls kj1 (⟨#[51]⟩ : ByteArray) t504 t508 t509 _ ?side1 A13.out).mono ?_); (case side1 => refine TabW.below hT ?_; apply_rules [HB.out, below_alloc, pw_below_drewN, below_drew1]); rintro e w25 ⟨rfl, hb⟩; refine ⟨_, rfl, ?_⟩; have n0_ := Aside0.mk (Kd.R_below (by apply_rules [HO503.out, Kd.R_alloc, Kd.R_drewN, Kd.R_drew]) hb); have n1_ := Aside0.mk (Kd.R_below (by apply_rules [HO507.out, Kd.R_alloc, Kd.R_drewN, Kd.R_drew]) hb); have n2_ := Aside0.mk (below_step (by apply_rules [HB.out, below_alloc, pw_below_drewN, below_drew1]) hb); clear HO503; clear HO507; clear HB; have HO503 := n0_; have HO507 := n1_; have HB := n2_; clear n0_ n1_ n2_; (try clear hb); obtain ⟨Ao26, co26, eo26⟩ := Kd.R_slice HO503.out; subst eo26; obtain ⟨Ao27, co27, eo27⟩ := Kd.R_slice HO507.out; subst eo27) | ((with_reducible refine gate_callee (f := 37) rfl ?_); refine goesK (some 47) Tryz.func37 [.slice Ao26 y501.length co26, .slice Ao27 y505.length co27] rfl rfl ?_; (with_reducible refine (monzo_Fraction.calls kj1 _ _ y501 _ _ y505 t510 t511 t512 _ ?side1 ?side2 ?side3 ?side4 ?side5 A14.out).mono ?_); (case side1 => refine TabW.below hT ?_; apply_rules [HB.out, below_alloc, pw_below_drewN, below_drew1]); (case side2 => repeat (first | exact (Kd.R_reads' HO503.out).2.2 | (with_reducible refine Kd.C_alloc ?_ _) | (with_reducible refine Kd.C_drewN ?_ _) | (with_reducible refine Kd.C_drew ?_))); (case side3 => exact (Kd.R_reads' HO503.out).2.1); (case side4 => repeat (first | exact (Kd.R_reads' HO507.out).2.2 | (with_reducible refine Kd.C_alloc ?_ _) | (with_reducible refine Kd.C_drewN ?_ _) | (with_reducible refine Kd.C_drew ?_))); (case side5 => exact (Kd.R_reads' HO507.out).2.1); rintro e w28 ⟨rfl, hb⟩; refine ⟨_, rfl, ?_⟩; have n0_ := Aside0.mk (Kd.R_below (by apply_rules [HO503.out, Kd.R_alloc, Kd.R_drewN, Kd.R_drew]) hb); have n1_ := Aside0.mk (Kd.R_below (by apply_rules [HO507.out, Kd.R_alloc, Kd.R_drewN, Kd.R_drew]) hb); have n2_ := Aside0.mk (below_step (by apply_rules [HB.out, below_alloc, pw_below_drewN, below_drew1]) hb); clear HO503; clear HO507; clear HB; have HO503 := n0_; have HO507 := n1_; have HB := n2_; clear n0_ n1_ n2_; (try clear hb)) | ((with_reducible refine gate_dst (N := 8) rfl ?_); refine box_event ?hg (N := 8) ?hd (cs := #[.string (⟨#[]⟩ : ByteArray), .string (⟨#[]⟩ : ByteArray)]) (t := 38) ?hr ?_; (case hd => rfl); (case hg => rfl); (case hr => go_simp; try rfl); intro gb513 hg w29 hbox hb; have n0_ := Aside0.mk (Kd.R_below (by apply_rules [HO503.out, Kd.R_alloc, Kd.R_drewN, Kd.R_drew]) hb); have n1_ := Aside0.mk (Kd.R_below (by apply_rules [HO507.out, Kd.R_alloc, Kd.R_drewN, Kd.R_drew]) hb); have n2_ := Aside0.mk (below_step (by apply_rules [HB.out, below_alloc, pw_below_drewN, below_drew1]) hb); have n3_ := Aside0.mk (hbox); have n4_ := Aside0.mk ((by rw [hg]; exact (below_size (by apply_rules [HB.out, below_alloc, pw_below_drewN, below_drew1])) : w.heap.size ≤ gb513)); have n5_ := Aside0.mk ((by rw [hg]; exact (below_size (by apply_rules [HB.out, below_alloc, pw_below_drewN, below_drew1])) : w.heap.size ≤ gb513)); clear HO503; clear HO507; clear HB; have HO503 := n0_; have HO507 := n1_; have HB := n2_; have BK513 := n3_; have GW513 := n4_; have GE513 := n5_; clear n0_ n1_ n2_ n3_ n4_ n5_; clear hb hbox hg; have hcz30_0 : w29.cell? ⟨gb513, 0, none⟩ = some (.string (⟨#[]⟩ : ByteArray)) := (blk_cell BK513.out 0).trans rfl; have hcz30_1 : w29.cell? ⟨gb513, 1, none⟩ = some (.string (⟨#[]⟩ : ByteArray)) := (blk_cell BK513.out 1).trans rfl; have hfz30_0 := blk_frozen BK513.out 0; have hfz30_1 := blk_frozen BK513.out 1) | ((with_reducible refine gate_callee (f := 38) rfl ?_); refine goesK (some 53) Tryz.func38 [.slice Ao26 y501.length co26, .slice Ao27 y505.length co27] rfl rfl ?_; (with_reducible refine (monzo_Text.calls kj1 _ _ y501 _ _ y505 t514 t515 _ ?side1 ?side2 ?side3 ?side4 ?side5 A15.out).mono ?_); (case side1 => refine TabW.below hT ?_; apply_rules [HB.out, below_alloc, pw_below_drewN, below_drew1, below_set, GE513.out]); (case side2 => refine (Kd.R_reads' (e := 3) (base := w.heap.size) (ok := fun k_ => (True ∧ some k_ ≠ (.slice Ao27 y505.length co27 : Value).ownBlock)) (n := y501.length) (c := co26) ?_).2.2; exact (by (with_reducible repeat (first | apply Kd.R_alloc | apply Kd.R_drewN | apply Kd.R_drew)); exact (Kd.R_mono (Kd.R_far (p := ⟨gb513, 1, none⟩) (Kd.R_far (p := ⟨gb513, 0, none⟩) (Kd.R_types HO503.out BK513.out (by decide)) (fun _ hk => hk.2) (.string t510)) (fun _ hk => hk.2) (.string t511)) (fun _ h_ => h_.1)))); (case side3 => exact (Kd.R_reads' HO503.out).2.1); (case side4 => refine (Kd.R_reads' (e := 3) (base := w.heap.size) (ok := fun k_ => (True ∧ some k_ ≠ (.slice Ao26 y501.length co26 : Value).ownBlock)) (n := y505.length) (c := co27) ?_).2.2; exact (by (with_reducible repeat (first | apply Kd.R_alloc | apply Kd.R_drewN | apply Kd.R_drew)); exact (Kd.R_mono (Kd.R_far (p := ⟨gb513, 1, none⟩) (Kd.R_far (p := ⟨gb513, 0, none⟩) (Kd.R_types HO507.out BK513.out (by decide)) (fun _ hk => hk.2) (.string t510)) (fun _ hk => hk.2) (.string t511)) (fun _ h_ => h_.1)))); (case side5 => exact (Kd.R_reads' HO507.out).2.1); rintro e w31 ⟨rfl, hb⟩; refine ⟨_, rfl, ?_⟩; have n0_ := Aside0.mk (Kd.R_below (by (with_reducible repeat (first | apply Kd.R_alloc | apply Kd.R_drewN | apply Kd.R_drew)); exact (Kd.R_mono (Kd.R_far (p := ⟨gb513, 1, none⟩) (Kd.R_far (p := ⟨gb513, 0, none⟩) (Kd.R_types HO503.out BK513.out (by decide)) (fun _ hk => hk.2) (.string t510)) (fun _ hk => hk.2) (.string t511)) (fun _ h_ => h_.1))) hb); have n1_ := Aside0.mk (Kd.R_below (by (with_reducible repeat (first | apply Kd.R_alloc | apply Kd.R_drewN | apply Kd.R_drew)); exact (Kd.R_mono (Kd.R_far (p := ⟨gb513, 1, none⟩) (Kd.R_far (p := ⟨gb513, 0, none⟩) (Kd.R_types HO507.out BK513.out (by decide)) (fun _ hk => hk.2) (.string t510)) (fun _ hk => hk.2) (.string t511)) (fun _ h_ => h_.1))) hb); have n2_ := Aside0.mk (blk_below (g := gb513) (o := .cells #[.string t510, .string t511] 38 (0, 0)) (by (with_reducible repeat (first | refine blk_drewN ?_ _ | refine blk_drew ?_ | refine blk_alloc ?_ _)); refine blk_put (cs := #[.string t510, .string (⟨#[]⟩ : ByteArray)]) ?_ 1 _ rfl; (with_reducible repeat (first | refine blk_drewN ?_ _ | refine blk_drew ?_ | refine blk_alloc ?_ _)); refine blk_put (cs := #[.string (⟨#[]⟩ : ByteArray), .string (⟨#[]⟩ : ByteArray)]) ?_ 0 _ rfl; apply_rules [BK513.out, blk_drewN, blk_drew, blk_alloc]) hb); have n3_ := Aside0.mk (below_step (by apply_rules [HB.out, below_alloc, pw_below_drewN, below_drew1, below_set, GE513.out]) hb); clear HO503; clear HO507; clear BK513; clear HB; have HO503 := n0_; have HO507 := n1_; have BK513 := n2_; have HB := n3_; clear n0_ n1_ n2_ n3_; (try clear hb)) | ((with_reducible refine gate_callee (f := 42) rfl ?_); refine goesK (some 59) Tryz.func42 [.slice Ao26 y501.length co26, .slice Ao27 y505.length co27] rfl rfl ?_; (with_reducible refine (monzo_Greater.calls kj1 _ _ y501 _ _ y505 t516 t517 _ ?side1 ?side2 ?side3 ?side4 ?side5 A16.out).mono ?_); (case side1 => refine TabW.below hT ?_; apply_rules [HB.out, below_alloc, pw_below_drewN, below_drew1, below_set, GE513.out]); (case side2 => repeat (first | exact (Kd.R_reads' HO503.out).2.2 | (with_reducible refine Kd.C_alloc ?_ _) | (with_reducible refine Kd.C_drewN ?_ _) | (with_reducible refine Kd.C_drew ?_))); (case side3 => exact (Kd.R_reads' HO503.out).2.1); (case side4 => repeat (first | exact (Kd.R_reads' HO507.out).2.2 | (with_reducible refine Kd.C_alloc ?_ _) | (with_reducible refine Kd.C_drewN ?_ _) | (with_reducible refine Kd.C_drew ?_))); (case side5 => exact (Kd.R_reads' HO507.out).2.1); rintro e w32 ⟨rfl, hb⟩; refine ⟨_, rfl, ?_⟩; have n0_ := Aside0.mk (Kd.R_below (by apply_rules [HO503.out, Kd.R_alloc, Kd.R_drewN, Kd.R_drew]) hb); have n1_ := Aside0.mk (Kd.R_below (by apply_rules [HO507.out, Kd.R_alloc, Kd.R_drewN, Kd.R_drew]) hb); have n2_ := Aside0.mk (blk_below (g := gb513) (o := .cells #[.string t510, .string t511] 38 (0, 0)) (by apply_rules [BK513.out, blk_drewN, blk_drew, blk_alloc]) hb); have n3_ := Aside0.mk (below_step (by apply_rules [HB.out, below_alloc, pw_below_drewN, below_drew1, below_set, GE513.out]) hb); clear HO503; clear HO507; clear BK513; clear HB; have HO503 := n0_; have HO507 := n1_; have BK513 := n2_; have HB := n3_; clear n0_ n1_ n2_ n3_; (try clear hb)) | ((with_reducible refine gate_callee (f := 43) rfl ?_); refine goesK (some 65) Tryz.func43 [.slice Ao26 y501.length co26, .slice Ao27 y505.length co27] rfl rfl ?_; (with_reducible refine (monzo_Product.calls kj1 _ _ y501 _ _ y505 t518 t519 _ ?side1 ?side2 ?side3 ?side4 ?side5 A17.out).mono ?_); (case side1 => refine TabW.below hT ?_; apply_rules [HB.out, below_alloc, pw_below_drewN, below_drew1, below_set, GE513.out]); (case side2 => repeat (first | exact (Kd.R_reads' HO503.out).2.2 | (with_reducible refine Kd.C_alloc ?_ _) | (with_reducible refine Kd.C_drewN ?_ _) | (with_reducible refine Kd.C_drew ?_))); (case side3 => exact (Kd.R_reads' HO503.out).2.1); (case side4 => repeat (first | exact (Kd.R_reads' HO507.out).2.2 | (with_reducible refine Kd.C_alloc ?_ _) | (with_reducible refine Kd.C_drewN ?_ _) | (with_reducible refine Kd.C_drew ?_))); (case side5 => exact (Kd.R_reads' HO507.out).2.1); rintro e w33 ⟨rfl, hb⟩; refine ⟨_, rfl, ?_⟩; have n0_ := Aside0.mk (Kd.R_below (by apply_rules [HO503.out, Kd.R_alloc, Kd.R_drewN, Kd.R_drew]) hb); have n1_ := Aside0.mk (Kd.R_below (by apply_rules [HO507.out, Kd.R_alloc, Kd.R_drewN, Kd.R_drew]) hb); have n2_ := Aside0.mk (blk_below (g := gb513) (o := .cells #[.string t510, .string t511] 38 (0, 0)) (by apply_rules [BK513.out, blk_drewN, blk_drew, blk_alloc]) hb); have n3_ := Aside0.mk (below_step (by apply_rules [HB.out, below_alloc, pw_below_drewN, below_drew1, below_set, GE513.out]) hb); clear HO503; clear HO507; clear BK513; clear HB; have HO503 := n0_; have HO507 := n1_; have BK513 := n2_; have HB := n3_; clear n0_ n1_ n2_ n3_; (try clear hb)) | ((with_reducible refine gate_dst (N := 72) rfl ?_); refine Kd.R_lit (Kd.int .i64) _ 3 ?hg (N := 72) ?hd (xs := ([(-1), wrap64 (a0)] : List Int)) (inner := [.int .i64 (-1), .int .i64 (wrap64 (a0))]) (ok := fun _ => True) (okp := fun _ => True) ?hr ?hp (fun _ hk => hk) trivial (Below.refl _ _) (Nat.le_refl _) (by simp) ?_; (case hd => rfl); (case hg => rfl); (case hr => go_simp; try rfl); (case hp => exact (Reps.one (show Kd.M (Kd.int .i64) _ _ _ (-1) [.int .i64 (-1)] from rfl) (Reps.one (show Kd.M (Kd.int .i64) _ _ _ (wrap64 (a0)) [.int .i64 (wrap64 (a0))] from rfl) (Reps.none _ _)))); intro v521 w34 ho35 hb hg_ hnew_; clear hg_ hnew_; (first | rw [← Ny520.out] at ho35 | (simp only [Int.reduceToNat] at ho35; rw [← Ny520.out] at ho35)); have n0_ := Aside0.mk (Kd.R_elder' (by apply_rules [HO503.out, Kd.R_alloc, Kd.R_drewN, Kd.R_drew]) (Kd.R_base ho35) hb); have n1_ := Aside0.mk (Kd.R_elder' (by apply_rules [HO507.out, Kd.R_alloc, Kd.R_drewN, Kd.R_drew]) (Kd.R_base ho35) hb); have n2_ := Aside0.mk (Kd.R_lower (Kd.R_new' (Kd.R_new' ho35 (Kd.R_lt (by apply_rules [HO503.out, Kd.R_alloc, Kd.R_drewN, Kd.R_drew]))) (Kd.R_lt (by apply_rules [HO507.out, Kd.R_alloc, Kd.R_drewN, Kd.R_drew]))) (below_size (by apply_rules [HB.out, below_alloc, pw_below_drewN, below_drew1, below_set, GE513.out]))); have n3_ := Aside0.mk (blk_below (g := gb513) (o := .cells #[.string t510, .string t511] 38 (0, 0)) (by apply_rules [BK513.out, blk_drewN, blk_drew, blk_alloc]) hb); have n4_ := Aside0.mk (below_step (by apply_rules [HB.out, below_alloc, pw_below_drewN, below_drew1, below_set, GE513.out]) hb); clear HO503; clear HO507; clear BK513; clear HB; have HO503 := n0_; have HO507 := n1_; have HO522 := n2_; have BK513 := n3_; have HB := n4_; clear n0_ n1_ n2_ n3_ n4_; clear hb ho35; obtain ⟨Ao36, co36, eo36⟩ := Kd.R_slice HO522.out; subst eo36) | ((with_reducible refine gate_callee (f := 44) rfl ?_); refine goesK (some 73) Tryz.func44 [.slice Ao26 y501.length co26, .slice Ao36 y520.length co36] rfl rfl ?_; (with_reducible refine (monzo_Sign.calls kj1 _ _ y501 _ _ y520 t523 t524 _ ?side1 ?side2 ?side3 ?side4 ?side5 A18.out).mono ?_); (case side1 => refine TabW.below hT ?_; apply_rules [HB.out, below_alloc, pw_below_drewN, below_drew1, below_set, GE513.out]); (case side2 => repeat (first | exact (Kd.R_reads' HO503.out).2.2 | (with_reducible refine Kd.C_alloc ?_ _) | (with_reducible refine Kd.C_drewN ?_ _) | (with_reducible refine Kd.C_drew ?_))); (case side3 => exact (Kd.R_reads' HO503.out).2.1); (case side4 => repeat (first | exact (Kd.R_reads' HO522.out).2.2 | (with_reducible refine Kd.C_alloc ?_ _) | (with_reducible refine Kd.C_drewN ?_ _) | (with_reducible refine Kd.C_drew ?_))); (case side5 => exact (Kd.R_reads' HO522.out).2.1); rintro e w37 ⟨rfl, hb⟩; refine ⟨_, rfl, ?_⟩; have n0_ := Aside0.mk (Kd.R_below (by apply_rules [HO503.out, Kd.R_alloc, Kd.R_drewN, Kd.R_drew]) hb); have n1_ := Aside0.mk (Kd.R_below (by apply_rules [HO507.out, Kd.R_alloc, Kd.R_drewN, Kd.R_drew]) hb); have n2_ := Aside0.mk (Kd.R_below (by apply_rules [HO522.out, Kd.R_alloc, Kd.R_drewN, Kd.R_drew]) hb); have n3_ := Aside0.mk (blk_below (g := gb513) (o := .cells #[.string t510, .string t511] 38 (0, 0)) (by apply_rules [BK513.out, blk_drewN, blk_drew, blk_alloc]) hb); have n4_ := Aside0.mk (below_step (by apply_rules [HB.out, below_alloc, pw_below_drewN, below_drew1, below_set, GE513.out]) hb); clear HO503; clear HO507; clear HO522; clear BK513; clear HB; have HO503 := n0_; have HO507 := n1_; have HO522 := n2_; have BK513 := n3_; have HB := n4_; clear n0_ n1_ n2_ n3_ n4_; (try clear hb)) | ((with_reducible refine gate_dst (N := 82) rfl ?_); refine Kd.R_lit (Kd.int .i64) _ 3 ?hg (N := 82) ?hd (xs := ([0, wrap64 (Int.tdiv (wrap64 (a0)) 2)] : List Int)) (inner := [.int .i64 0, .int .i64 (wrap64 (Int.tdiv (wrap64 (a0)) 2))]) (ok := fun _ => True) (okp := fun _ => True) ?hr ?hp (fun _ hk => hk) trivial (Below.refl _ _) (Nat.le_refl _) (by simp) ?_; (case hd => rfl); (case hg => rfl); (case hr => go_simp; try rfl); (case hp => exact (Reps.one (show Kd.M (Kd.int .i64) _ _ _ 0 [.int .i64 0] from rfl) (Reps.one (show Kd.M (Kd.int .i64) _ _ _ (wrap64 (Int.tdiv (wrap64 (a0)) 2)) [.int .i64 (wrap64 (Int.tdiv (wrap64 (a0)) 2))] from rfl) (Reps.none _ _)))); intro v526 w38 ho39 hb hg_ hnew_; clear hg_ hnew_; (first | rw [← Ny525.out] at ho39 | (simp only [Int.reduceToNat] at ho39; rw [← Ny525.out] at ho39)); have n0_ := Aside0.mk (Kd.R_elder' (by apply_rules [HO503.out, Kd.R_alloc, Kd.R_drewN, Kd.R_drew]) (Kd.R_base ho39) hb); have n1_ := Aside0.mk (Kd.R_elder' (by apply_rules [HO507.out, Kd.R_alloc, Kd.R_drewN, Kd.R_drew]) (Kd.R_base ho39) hb); have n2_ := Aside0.mk (Kd.R_elder' (by apply_rules [HO522.out, Kd.R_alloc, Kd.R_drewN, Kd.R_drew]) (Kd.R_base ho39) hb); have n3_ := Aside0.mk (Kd.R_lower (Kd.R_new' (Kd.R_new' (Kd.R_new' ho39 (Kd.R_lt (by apply_rules [HO503.out, Kd.R_alloc, Kd.R_drewN, Kd.R_drew]))) (Kd.R_lt (by apply_rules [HO507.out, Kd.R_alloc, Kd.R_drewN, Kd.R_drew]))) (Kd.R_lt (by apply_rules [HO522.out, Kd.R_alloc, Kd.R_drewN, Kd.R_drew]))) (below_size (by apply_rules [HB.out, below_alloc, pw_below_drewN, below_drew1, below_set, GE513.out]))); have n4_ := Aside0.mk (blk_below (g := gb513) (o := .cells #[.string t510, .string t511] 38 (0, 0)) (by apply_rules [BK513.out, blk_drewN, blk_drew, blk_alloc]) hb); have n5_ := Aside0.mk (below_step (by apply_rules [HB.out, below_alloc, pw_below_drewN, below_drew1, below_set, GE513.out]) hb); clear HO503; clear HO507; clear HO522; clear BK513; clear HB; have HO503 := n0_; have HO507 := n1_; have HO522 := n2_; have HO527 := n3_; have BK513 := n4_; have HB := n5_; clear n0_ n1_ n2_ n3_ n4_ n5_; clear hb ho39; obtain ⟨Ao40, co40, eo40⟩ := Kd.R_slice HO527.out; subst eo40) | ((with_reducible refine gate_callee (f := 45) rfl ?_); refine goesK (some 83) Tryz.func45 [.slice Ao26 y501.length co26, .slice Ao27 y505.length co27, .slice Ao40 y525.length co40] rfl rfl ?_; (with_reducible refine (monzo_Compare.calls kj1 _ _ y501 (fun k_ => some k_ = (.slice Ao27 y505.length co27 : Value).ownBlock) _ _ y505 (fun k_ => some k_ = (.slice Ao40 y525.length co40 : Value).ownBlock) _ _ y525 t528 t529 _ ?side1 ?side2 ?side3 ?side4 ?side5 A19.out).mono ?_); (case side1 => refine TabW.below hT ?_; apply_rules [HB.out, below_alloc, pw_below_drewN, below_drew1, below_set, GE513.out]); (case side2 => repeat (first | exact (Kd.R_reads' HO503.out).2.2 | (with_reducible refine Kd.C_alloc ?_ _) | (with_reducible refine Kd.C_drewN ?_ _) | (with_reducible refine Kd.C_drew ?_))); (case side3 => exact (Kd.R_reads' HO503.out).2.1); (case side4 => exact Kd.R_V (Kd.R_tight rfl (Kd.R_types (HO507.out) BK513.out (by decide)))); (case side5 => exact Kd.R_V (Kd.R_tight rfl (Kd.R_types (HO527.out) BK513.out (by decide)))); rintro e w41 ⟨rfl, hb⟩; refine ⟨_, rfl, ?_⟩; have n0_ := Aside0.mk (Kd.R_below (by apply_rules [HO503.out, Kd.R_alloc, Kd.R_drewN, Kd.R_drew]) hb); have n1_ := Aside0.mk (Kd.R_below (by apply_rules [HO507.out, Kd.R_alloc, Kd.R_drewN, Kd.R_drew]) hb); have n2_ := Aside0.mk (Kd.R_below (by apply_rules [HO522.out, Kd.R_alloc, Kd.R_drewN, Kd.R_drew]) hb); have n3_ := Aside0.mk (Kd.R_below (by apply_rules [HO527.out, Kd.R_alloc, Kd.R_drewN, Kd.R_drew]) hb); have n4_ := Aside0.mk (blk_below (g := gb513) (o := .cells #[.string t510, .string t511] 38 (0, 0)) (by apply_rules [BK513.out, blk_drewN, blk_drew, blk_alloc]) hb); have n5_ := Aside0.mk (below_step (by apply_rules [HB.out, below_alloc, pw_below_drewN, below_drew1, below_set, GE513.out]) hb); clear HO503; clear HO507; clear HO522; clear HO527; clear BK513; clear HB; have HO503 := n0_; have HO507 := n1_; have HO522 := n2_; have HO527 := n3_; have BK513 := n4_; have HB := n5_; clear n0_ n1_ n2_ n3_ n4_ n5_; (try clear hb)))
     (try simp only [Act.put, List.setIfInBounds_toArray, List.set_cons_zero, List.set_cons_succ])
     go_cut [20] (fun v20 wc => ∃ (kq : Nat) (x20_19 : Int), v20 = .int .i64 x20_19 ∧ Aside0 (schismalaw12_MonzoLong.j1 kq a0 t508 t509 t512 t514 t515 t516 t517 t518 t519 t523 t524 t528 t529 x20_19 t510 t511 = some r) ∧ Aside0 (kq ≤ kj1) ∧ Aside0 (wc.heap[gb513]? = some (.cells #[.string t510, .string t511] 38 (0, 0))) ∧ Aside0 (Below w.heap.size w wc))
     case first =>
      as_aux_lemma =>
       have H := HC20.out
       clear HC20
       by_cases c42 : a0 ≤ 0
       ·rw [if_pos c42] at H
        have c42b0 : decide (a0 ≤ 0) = true := decide_eq_true c42
        clear c42
        (first | rw [c42b0] | (simp only [i64_w, i32_w]; rw [c42b0]) | skip)
        have H' := Aside0.mk H
        clear H
        go_wp2
        go_meet
        case rel => exact ⟨_, ((-1)), (by first | rfl | (simp; done) | (simp [*]; done)), H', ⟨by have := HJ1.out; first | omega | exact Nat.le_refl _⟩, ⟨by apply_rules [BK513.out, blk_drewN, blk_drew, blk_alloc]⟩, ⟨by apply_rules [HB.out, below_alloc, pw_below_drewN, below_drew1, below_set, GE513.out]⟩⟩
       ·rw [if_neg c42] at H
        have c42b0 : decide (a0 ≤ 0) = false := decide_eq_false c42
        clear c42
        (first | rw [c42b0] | (simp only [i64_w, i32_w]; rw [c42b0]) | skip)
        have H' := Aside0.mk H
        clear H
        go_wp2
        go_meet
        case rel => exact ⟨_, (1), (by first | rfl | (simp; done) | (simp [*]; done)), H', ⟨by have := HJ1.out; first | omega | exact Nat.le_refl _⟩, ⟨by apply_rules [BK513.out, blk_drewN, blk_drew, blk_alloc]⟩, ⟨by apply_rules [HB.out, below_alloc, pw_below_drewN, below_drew1, below_set, GE513.out]⟩⟩
     case rest =>
      as_aux_lemma =>
       clear HC20
       obtain ⟨kq, x20_19, rfl, HA, HJ19, BK513, HB⟩ := hcut
       cases kq with
       | zero => exact absurd HA.out (by simp [schismalaw12_MonzoLong.j1])
       | succ kj19 =>
        have H := HA.out
        clear HA
        simp only [schismalaw12_MonzoLong.j1] at H
        have HC43 := Aside0.mk H
        clear H
        go_upto_region 16 with (fail)
        go_cut [126] (fun v126 wc => ∃ (kq : Nat) (x126_42 : Bool), v126 = .bool x126_42 ∧ Aside0 (schismalaw12_MonzoLong.j2 kq t508 t512 t514 t515 t516 t517 t518 t519 x126_42 t510 t511 = some r) ∧ Aside0 (kq ≤ kj19) ∧ Aside0 (wc.heap[gb513]? = some (.cells #[.string t510, .string t511] 38 (0, 0))) ∧ Aside0 (Below w.heap.size w wc))
        case first =>
         as_aux_lemma =>
          have H := HC43.out
          clear HC43
          by_cases c44 : t509 = 0
          case neg => rw [if_neg c44] at H; have c44b0 : (t509 == 0) = false := beq_eq_false_iff_ne.mpr c44; have c44b1 : (t509 != 0) = true := bne_iff_ne.mpr c44; (first | rw [c44b0] | (simp only [i64_w, i32_w]; rw [c44b0]) | skip); exact (schismalaw12_MonzoLong.j2_no H hr).elim
          rw [if_pos c44] at H
          have c44b0 : (t509 == 0) = true := beq_iff_eq.mpr c44
          have c44b1 : (t509 != 0) = false := bne_eq_false_iff_eq.mpr c44
          clear c44
          (first | rw [c44b0] | (simp only [i64_w, i32_w]; rw [c44b0]) | skip)
          by_cases c45 : t523 = x20_19
          case neg => rw [if_neg c45] at H; have c45b0 : (t523 == x20_19) = false := beq_eq_false_iff_ne.mpr c45; have c45b1 : (t523 != x20_19) = true := bne_iff_ne.mpr c45; exact (schismalaw12_MonzoLong.j2_no H hr).elim
          rw [if_pos c45] at H
          have c45b0 : (t523 == x20_19) = true := beq_iff_eq.mpr c45
          have c45b1 : (t523 != x20_19) = false := bne_eq_false_iff_eq.mpr c45
          clear c45
          by_cases c46 : t524 = 0
          case neg => rw [if_neg c46] at H; have c46b0 : (t524 == 0) = false := beq_eq_false_iff_ne.mpr c46; have c46b1 : (t524 != 0) = true := bne_iff_ne.mpr c46; exact (schismalaw12_MonzoLong.j2_no H hr).elim
          rw [if_pos c46] at H
          have c46b0 : (t524 == 0) = true := beq_iff_eq.mpr c46
          have c46b1 : (t524 != 0) = false := bne_eq_false_iff_eq.mpr c46
          clear c46
          by_cases c47 : t529 = 0
          case neg => rw [if_neg c47] at H; have c47b0 : (t529 == 0) = false := beq_eq_false_iff_ne.mpr c47; have c47b1 : (t529 != 0) = true := bne_iff_ne.mpr c47; exact (schismalaw12_MonzoLong.j2_no H hr).elim
          rw [if_pos c47] at H
          have c47b0 : (t529 == 0) = true := beq_iff_eq.mpr c47
          have c47b1 : (t529 != 0) = false := bne_eq_false_iff_eq.mpr c47
          clear c47
          by_cases c48 : a0 > 1
          ·rw [if_pos c48] at H
           have c48b0 : decide (1 < a0) = true := decide_eq_true c48
           clear c48
           by_cases c49 : t528 = 1
           case neg => rw [if_neg c49] at H; have c49b0 : (t528 == 1) = false := beq_eq_false_iff_ne.mpr c49; have c49b1 : (t528 != 1) = true := bne_iff_ne.mpr c49; exact (schismalaw12_MonzoLong.j2_no H hr).elim
           rw [if_pos c49] at H
           have c49b0 : (t528 == 1) = true := beq_iff_eq.mpr c49
           have c49b1 : (t528 != 1) = false := bne_eq_false_iff_eq.mpr c49
           clear c49
           by_cases c50 : a0 < (-1)
           ·rw [if_pos c50] at H
            have c50b0 : decide (a0 < (-1)) = true := decide_eq_true c50
            clear c50
            by_cases c51 : t528 = (-1)
            case neg => rw [if_neg c51] at H; have c51b0 : (t528 == (-1)) = false := beq_eq_false_iff_ne.mpr c51; have c51b1 : (t528 != (-1)) = true := bne_iff_ne.mpr c51; exact (schismalaw12_MonzoLong.j2_no H hr).elim
            rw [if_pos c51] at H
            have c51b0 : (t528 == (-1)) = true := beq_iff_eq.mpr c51
            have c51b1 : (t528 != (-1)) = false := bne_eq_false_iff_eq.mpr c51
            clear c51
            by_cases c52 : a0 = 0
            ·rw [if_pos c52] at H
             have c52b0 : (a0 == 0) = true := beq_iff_eq.mpr c52
             have c52b1 : (a0 != 0) = false := bne_eq_false_iff_eq.mpr c52
             clear c52
             have H' := Aside0.mk H
             clear H
             go_wp2
             go_meet
             case rel => exact ⟨_, ((t528 != 0)), (by first | rfl | (simp; done) | (simp [*]; done)), H', ⟨by have := HJ1.out; have := HJ19.out; first | omega | exact Nat.le_refl _⟩, ⟨by apply_rules [BK513.out, blk_drewN, blk_drew, blk_alloc]⟩, ⟨by apply_rules [HB.out, below_alloc, pw_below_drewN, below_drew1, below_set, GE513.out]⟩⟩
            ·rw [if_neg c52] at H
             have c52b0 : (a0 == 0) = false := beq_eq_false_iff_ne.mpr c52
             have c52b1 : (a0 != 0) = true := bne_iff_ne.mpr c52
             have H' := Aside0.mk H
             clear H
             go_wp2
             go_meet
             case rel => exact ⟨_, (false), (by first | rfl | (simp; done) | (simp [*]; done)), H', ⟨by have := HJ1.out; have := HJ19.out; first | omega | exact Nat.le_refl _⟩, ⟨by apply_rules [BK513.out, blk_drewN, blk_drew, blk_alloc]⟩, ⟨by apply_rules [HB.out, below_alloc, pw_below_drewN, below_drew1, below_set, GE513.out]⟩⟩
           ·rw [if_neg c50] at H
            have c50b0 : decide (a0 < (-1)) = false := decide_eq_false c50
            clear c50
            by_cases c53 : a0 = 0
            ·rw [if_pos c53] at H
             have c53b0 : (a0 == 0) = true := beq_iff_eq.mpr c53
             have c53b1 : (a0 != 0) = false := bne_eq_false_iff_eq.mpr c53
             clear c53
             have H' := Aside0.mk H
             clear H
             go_wp2
             go_meet
             case rel => exact ⟨_, ((t528 != 0)), (by first | rfl | (simp; done) | (simp [*]; done)), H', ⟨by have := HJ1.out; have := HJ19.out; first | omega | exact Nat.le_refl _⟩, ⟨by apply_rules [BK513.out, blk_drewN, blk_drew, blk_alloc]⟩, ⟨by apply_rules [HB.out, below_alloc, pw_below_drewN, below_drew1, below_set, GE513.out]⟩⟩
            ·rw [if_neg c53] at H
             have c53b0 : (a0 == 0) = false := beq_eq_false_iff_ne.mpr c53
             have c53b1 : (a0 != 0) = true := bne_iff_ne.mpr c53
             have H' := Aside0.mk H
             clear H
             go_wp2
             go_meet
             case rel => exact ⟨_, (false), (by first | rfl | (simp; done) | (simp [*]; done)), H', ⟨by have := HJ1.out; have := HJ19.out; first | omega | exact Nat.le_refl _⟩, ⟨by apply_rules [BK513.out, blk_drewN, blk_drew, blk_alloc]⟩, ⟨by apply_rules [HB.out, below_alloc, pw_below_drewN, below_drew1, below_set, GE513.out]⟩⟩
          ·rw [if_neg c48] at H
           have c48b0 : decide (1 < a0) = false := decide_eq_false c48
           clear c48
           by_cases c54 : a0 < (-1)
           ·rw [if_pos c54] at H
            have c54b0 : decide (a0 < (-1)) = true := decide_eq_true c54
            clear c54
            by_cases c55 : t528 = (-1)
            case neg => rw [if_neg c55] at H; have c55b0 : (t528 == (-1)) = false := beq_eq_false_iff_ne.mpr c55; have c55b1 : (t528 != (-1)) = true := bne_iff_ne.mpr c55; exact (schismalaw12_MonzoLong.j2_no H hr).elim
            rw [if_pos c55] at H
            have c55b0 : (t528 == (-1)) = true := beq_iff_eq.mpr c55
            have c55b1 : (t528 != (-1)) = false := bne_eq_false_iff_eq.mpr c55
            clear c55
            by_cases c56 : a0 = 0
            ·rw [if_pos c56] at H
             have c56b0 : (a0 == 0) = true := beq_iff_eq.mpr c56
             have c56b1 : (a0 != 0) = false := bne_eq_false_iff_eq.mpr c56
             clear c56
             have H' := Aside0.mk H
             clear H
             go_wp2
             go_meet
             case rel => exact ⟨_, ((t528 != 0)), (by first | rfl | (simp; done) | (simp [*]; done)), H', ⟨by have := HJ1.out; have := HJ19.out; first | omega | exact Nat.le_refl _⟩, ⟨by apply_rules [BK513.out, blk_drewN, blk_drew, blk_alloc]⟩, ⟨by apply_rules [HB.out, below_alloc, pw_below_drewN, below_drew1, below_set, GE513.out]⟩⟩
            ·rw [if_neg c56] at H
             have c56b0 : (a0 == 0) = false := beq_eq_false_iff_ne.mpr c56
             have c56b1 : (a0 != 0) = true := bne_iff_ne.mpr c56
             have H' := Aside0.mk H
             clear H
             go_wp2
             go_meet
             case rel => exact ⟨_, (false), (by first | rfl | (simp; done) | (simp [*]; done)), H', ⟨by have := HJ1.out; have := HJ19.out; first | omega | exact Nat.le_refl _⟩, ⟨by apply_rules [BK513.out, blk_drewN, blk_drew, blk_alloc]⟩, ⟨by apply_rules [HB.out, below_alloc, pw_below_drewN, below_drew1, below_set, GE513.out]⟩⟩
           ·rw [if_neg c54] at H
            have c54b0 : decide (a0 < (-1)) = false := decide_eq_false c54
            clear c54
            by_cases c57 : a0 = 0
            ·rw [if_pos c57] at H
             have c57b0 : (a0 == 0) = true := beq_iff_eq.mpr c57
             have c57b1 : (a0 != 0) = false := bne_eq_false_iff_eq.mpr c57
             clear c57
             have H' := Aside0.mk H
             clear H
             go_wp2
             go_meet
             case rel => exact ⟨_, ((t528 != 0)), (by first | rfl | (simp; done) | (simp [*]; done)), H', ⟨by have := HJ1.out; have := HJ19.out; first | omega | exact Nat.le_refl _⟩, ⟨by apply_rules [BK513.out, blk_drewN, blk_drew, blk_alloc]⟩, ⟨by apply_rules [HB.out, below_alloc, pw_below_drewN, below_drew1, below_set, GE513.out]⟩⟩
            ·rw [if_neg c57] at H
             have c57b0 : (a0 == 0) = false := beq_eq_false_iff_ne.mpr c57
             have c57b1 : (a0 != 0) = true := bne_iff_ne.mpr c57
             have H' := Aside0.mk H
             clear H
             go_wp2
             go_meet
             case rel => exact ⟨_, (false), (by first | rfl | (simp; done) | (simp [*]; done)), H', ⟨by have := HJ1.out; have := HJ19.out; first | omega | exact Nat.le_refl _⟩, ⟨by apply_rules [BK513.out, blk_drewN, blk_drew, blk_alloc]⟩, ⟨by apply_rules [HB.out, below_alloc, pw_below_drewN, below_drew1, below_set, GE513.out]⟩⟩
        case rest =>
         as_aux_lemma =>
          clear HC43
          obtain ⟨kq, x126_42, rfl, HA, HJ42, BK513, HB⟩ := hcut
          cases kq with
          | zero => exact absurd HA.out (by simp [schismalaw12_MonzoLong.j2])
          | succ kj42 =>
           have H := HA.out
           clear HA
           simp only [schismalaw12_MonzoLong.j2] at H
           by_cases c58 : x126_42 = true
           ·subst c58
            have H1 : (some false) = some r := by rw [if_pos rfl] at H; exact H
            clear H
            have H := H1
            clear H1
            exact absurd ((Option.some.inj H).trans hr) Bool.false_ne_true
           ·replace c58 := Bool.eq_false_iff.mpr c58
            subst c58
            have H1 : (if (t508.size : Int) > 400 then (if (t510.toList == ([] : List UInt8) && (t511.toList == ([] : List UInt8))) = true then (if t512 = 4 then (if t514.toList = ([] : List UInt8) then (if t515 = 4 then (if t516.toList = ([] : List UInt8) then (if t517 = 4 then (if t518.toList = ([] : List UInt8) then (some (t519 == 4)) else (some false)) else (some false)) else (some false)) else (some false)) else (some false)) else (some false)) else (some false)) else (if t510.toList = t508.toList then (if t512 = 0 then (if t514.toList = ([] : List UInt8) then (some false) else (if t515 = 0 then (if t516.toList = t508.toList then (if t517 = 0 then (if t518.toList = t508.toList then (some (t519 == 0)) else (some false)) else (some false)) else (some false)) else (some false))) else (some false)) else (if t511.toList = t508.toList then (if t512 = 0 then (if t514.toList = ([] : List UInt8) then (some false) else (if t515 = 0 then (if t516.toList = t508.toList then (if t517 = 0 then (if t518.toList = t508.toList then (some (t519 == 0)) else (some false)) else (some false)) else (some false)) else (some false))) else (some false)) else (some false)))) = some r := by rw [if_neg (show ¬ (false = true) by decide)] at H; exact H
            clear H
            have H := H1
            clear H1
            by_cases c59 : (t508.size : Int) > 400
            ·rw [if_pos c59] at H
             have c59b0 : decide (400 < (t508.size : Int)) = true := decide_eq_true c59
             have c59b1 : decide (400 < t508.size) = true := decide_eq_true (by omega)
             clear c59
             by_cases c60 : (t510.toList == ([] : List UInt8) && (t511.toList == ([] : List UInt8))) = true
             ·rw [if_pos c60] at H
              have c60b0 : (t510.toList == ([] : List UInt8) && (t511.toList == ([] : List UInt8))) = true := c60
              (try (have c60b1 : decide (t510.toList = ([] : List UInt8) && (t511.toList == ([] : List UInt8))) = true := by simpa using c60))
              (try (have c60b2 : (t510.toList == ([] : List UInt8) && (t511.toList == ([] : List UInt8))) = true := by simpa using c60))
              clear c60
              by_cases c61 : t512 = 4
              case neg => rw [if_neg c61] at H; have c61b0 : (t512 == 4) = false := beq_eq_false_iff_ne.mpr c61; have c61b1 : (t512 != 4) = true := bne_iff_ne.mpr c61; exact absurd ((Option.some.inj H).trans hr) Bool.false_ne_true
              rw [if_pos c61] at H
              have c61b0 : (t512 == 4) = true := beq_iff_eq.mpr c61
              have c61b1 : (t512 != 4) = false := bne_eq_false_iff_eq.mpr c61
              clear c61
              by_cases c62 : t514.toList = ([] : List UInt8)
              case neg => rw [if_neg c62] at H; have c62b0 : (t514.toList == ([] : List UInt8)) = false := beq_eq_false_iff_ne.mpr c62; have c62b1 : (t514.toList != ([] : List UInt8)) = true := bne_iff_ne.mpr c62; exact absurd ((Option.some.inj H).trans hr) Bool.false_ne_true
              rw [if_pos c62] at H
              have c62b0 : (t514.toList == ([] : List UInt8)) = true := beq_iff_eq.mpr c62
              have c62b1 : (t514.toList != ([] : List UInt8)) = false := bne_eq_false_iff_eq.mpr c62
              clear c62
              by_cases c63 : t515 = 4
              case neg => rw [if_neg c63] at H; have c63b0 : (t515 == 4) = false := beq_eq_false_iff_ne.mpr c63; have c63b1 : (t515 != 4) = true := bne_iff_ne.mpr c63; exact absurd ((Option.some.inj H).trans hr) Bool.false_ne_true
              rw [if_pos c63] at H
              have c63b0 : (t515 == 4) = true := beq_iff_eq.mpr c63
              have c63b1 : (t515 != 4) = false := bne_eq_false_iff_eq.mpr c63
              clear c63
              by_cases c64 : t516.toList = ([] : List UInt8)
              case neg => rw [if_neg c64] at H; have c64b0 : (t516.toList == ([] : List UInt8)) = false := beq_eq_false_iff_ne.mpr c64; have c64b1 : (t516.toList != ([] : List UInt8)) = true := bne_iff_ne.mpr c64; exact absurd ((Option.some.inj H).trans hr) Bool.false_ne_true
              rw [if_pos c64] at H
              have c64b0 : (t516.toList == ([] : List UInt8)) = true := beq_iff_eq.mpr c64
              have c64b1 : (t516.toList != ([] : List UInt8)) = false := bne_eq_false_iff_eq.mpr c64
              clear c64
              by_cases c65 : t517 = 4
              case neg => rw [if_neg c65] at H; have c65b0 : (t517 == 4) = false := beq_eq_false_iff_ne.mpr c65; have c65b1 : (t517 != 4) = true := bne_iff_ne.mpr c65; exact absurd ((Option.some.inj H).trans hr) Bool.false_ne_true
              rw [if_pos c65] at H
              have c65b0 : (t517 == 4) = true := beq_iff_eq.mpr c65
              have c65b1 : (t517 != 4) = false := bne_eq_false_iff_eq.mpr c65
              clear c65
              by_cases c66 : t518.toList = ([] : List UInt8)
              case neg => rw [if_neg c66] at H; have c66b0 : (t518.toList == ([] : List UInt8)) = false := beq_eq_false_iff_ne.mpr c66; have c66b1 : (t518.toList != ([] : List UInt8)) = true := bne_iff_ne.mpr c66; exact absurd ((Option.some.inj H).trans hr) Bool.false_ne_true
              rw [if_pos c66] at H
              have c66b0 : (t518.toList == ([] : List UInt8)) = true := beq_iff_eq.mpr c66
              have c66b1 : (t518.toList != ([] : List UInt8)) = false := bne_eq_false_iff_eq.mpr c66
              clear c66
              obtain rfl := Option.some.inj H
              have hcz67_0 : wc.cell? ⟨gb513, 0, none⟩ = some (.string t510) := (blk_cell BK513.out 0).trans rfl
              have hcz67_1 : wc.cell? ⟨gb513, 1, none⟩ = some (.string t511) := (blk_cell BK513.out 1).trans rfl
              have hfz67_0 := blk_frozen BK513.out 0
              have hfz67_1 := blk_frozen BK513.out 1
              go_wp2
              go_ret
              exact ⟨by first | rfl | simp [*], by apply_rules [HB.out, below_alloc, pw_below_drewN, below_drew1, below_set, GE513.out]⟩
              all_goals (rename_i hz_; exact absurd (by simpa using c60b0) hz_)
             ·rw [if_neg c60] at H
              have c60b0 : (t510.toList == ([] : List UInt8) && (t511.toList == ([] : List UInt8))) = false := by simpa using c60
              (try (have c60b1 : decide (t510.toList = ([] : List UInt8) && (t511.toList == ([] : List UInt8))) = false := by simpa using c60))
              (try (have c60b2 : (t510.toList == ([] : List UInt8) && (t511.toList == ([] : List UInt8))) = false := by simpa using c60))
              (try (have c60b3 : ¬ (t510.toList = ([] : List UInt8) && (t511.toList == ([] : List UInt8))) := by simpa using c60))
              clear c60
              exact absurd ((Option.some.inj H).trans hr) Bool.false_ne_true
            ·rw [if_neg c59] at H
             have c59b0 : decide (400 < (t508.size : Int)) = false := decide_eq_false c59
             have c59b1 : decide (400 < t508.size) = false := decide_eq_false (by omega)
             clear c59
             by_cases c75 : t510.toList = t508.toList
             ·rw [if_pos c75] at H
              have c75b0 : (t510.toList == t508.toList) = true := beq_iff_eq.mpr c75
              have c75b1 : (t510.toList != t508.toList) = false := bne_eq_false_iff_eq.mpr c75
              clear c75
              by_cases c76 : t512 = 0
              case neg => rw [if_neg c76] at H; have c76b0 : (t512 == 0) = false := beq_eq_false_iff_ne.mpr c76; have c76b1 : (t512 != 0) = true := bne_iff_ne.mpr c76; exact absurd ((Option.some.inj H).trans hr) Bool.false_ne_true
              rw [if_pos c76] at H
              have c76b0 : (t512 == 0) = true := beq_iff_eq.mpr c76
              have c76b1 : (t512 != 0) = false := bne_eq_false_iff_eq.mpr c76
              clear c76
              by_cases c77 : t514.toList = ([] : List UInt8)
              case pos => rw [if_pos c77] at H; have c77b0 : (t514.toList == ([] : List UInt8)) = true := beq_iff_eq.mpr c77; have c77b1 : (t514.toList != ([] : List UInt8)) = false := bne_eq_false_iff_eq.mpr c77; clear c77; exact absurd ((Option.some.inj H).trans hr) Bool.false_ne_true
              rw [if_neg c77] at H
              have c77b0 : (t514.toList == ([] : List UInt8)) = false := beq_eq_false_iff_ne.mpr c77
              have c77b1 : (t514.toList != ([] : List UInt8)) = true := bne_iff_ne.mpr c77
              by_cases c79 : t515 = 0
              case neg => rw [if_neg c79] at H; have c79b0 : (t515 == 0) = false := beq_eq_false_iff_ne.mpr c79; have c79b1 : (t515 != 0) = true := bne_iff_ne.mpr c79; exact absurd ((Option.some.inj H).trans hr) Bool.false_ne_true
              rw [if_pos c79] at H
              have c79b0 : (t515 == 0) = true := beq_iff_eq.mpr c79
              have c79b1 : (t515 != 0) = false := bne_eq_false_iff_eq.mpr c79
              clear c79
              by_cases c80 : t516.toList = t508.toList
              case neg => rw [if_neg c80] at H; have c80b0 : (t516.toList == t508.toList) = false := beq_eq_false_iff_ne.mpr c80; have c80b1 : (t516.toList != t508.toList) = true := bne_iff_ne.mpr c80; exact absurd ((Option.some.inj H).trans hr) Bool.false_ne_true
              rw [if_pos c80] at H
              have c80b0 : (t516.toList == t508.toList) = true := beq_iff_eq.mpr c80
              have c80b1 : (t516.toList != t508.toList) = false := bne_eq_false_iff_eq.mpr c80
              clear c80
              by_cases c81 : t517 = 0
              case neg => rw [if_neg c81] at H; have c81b0 : (t517 == 0) = false := beq_eq_false_iff_ne.mpr c81; have c81b1 : (t517 != 0) = true := bne_iff_ne.mpr c81; exact absurd ((Option.some.inj H).trans hr) Bool.false_ne_true
              rw [if_pos c81] at H
              have c81b0 : (t517 == 0) = true := beq_iff_eq.mpr c81
              have c81b1 : (t517 != 0) = false := bne_eq_false_iff_eq.mpr c81
              clear c81
              by_cases c82 : t518.toList = t508.toList
              case neg => rw [if_neg c82] at H; have c82b0 : (t518.toList == t508.toList) = false := beq_eq_false_iff_ne.mpr c82; have c82b1 : (t518.toList != t508.toList) = true := bne_iff_ne.mpr c82; exact absurd ((Option.some.inj H).trans hr) Bool.false_ne_true
              rw [if_pos c82] at H
              have c82b0 : (t518.toList == t508.toList) = true := beq_iff_eq.mpr c82
              have c82b1 : (t518.toList != t508.toList) = false := bne_eq_false_iff_eq.mpr c82
              clear c82
              obtain rfl := Option.some.inj H
              have hcz83_0 : wc.cell? ⟨gb513, 0, none⟩ = some (.string t510) := (blk_cell BK513.out 0).trans rfl
              have hcz83_1 : wc.cell? ⟨gb513, 1, none⟩ = some (.string t511) := (blk_cell BK513.out 1).trans rfl
              have hfz83_0 := blk_frozen BK513.out 0
              have hfz83_1 := blk_frozen BK513.out 1
              go_wp2
              go_ret
              exact ⟨by first | rfl | simp [*], by apply_rules [HB.out, below_alloc, pw_below_drewN, below_drew1, below_set, GE513.out]⟩
             ·rw [if_neg c75] at H
              have c75b0 : (t510.toList == t508.toList) = false := beq_eq_false_iff_ne.mpr c75
              have c75b1 : (t510.toList != t508.toList) = true := bne_iff_ne.mpr c75
              by_cases c89 : t511.toList = t508.toList
              case neg => rw [if_neg c89] at H; have c89b0 : (t511.toList == t508.toList) = false := beq_eq_false_iff_ne.mpr c89; have c89b1 : (t511.toList != t508.toList) = true := bne_iff_ne.mpr c89; exact absurd ((Option.some.inj H).trans hr) Bool.false_ne_true
              rw [if_pos c89] at H
              have c89b0 : (t511.toList == t508.toList) = true := beq_iff_eq.mpr c89
              have c89b1 : (t511.toList != t508.toList) = false := bne_eq_false_iff_eq.mpr c89
              clear c89
              by_cases c90 : t512 = 0
              case neg => rw [if_neg c90] at H; have c90b0 : (t512 == 0) = false := beq_eq_false_iff_ne.mpr c90; have c90b1 : (t512 != 0) = true := bne_iff_ne.mpr c90; exact absurd ((Option.some.inj H).trans hr) Bool.false_ne_true
              rw [if_pos c90] at H
              have c90b0 : (t512 == 0) = true := beq_iff_eq.mpr c90
              have c90b1 : (t512 != 0) = false := bne_eq_false_iff_eq.mpr c90
              clear c90
              by_cases c91 : t514.toList = ([] : List UInt8)
              case pos => rw [if_pos c91] at H; have c91b0 : (t514.toList == ([] : List UInt8)) = true := beq_iff_eq.mpr c91; have c91b1 : (t514.toList != ([] : List UInt8)) = false := bne_eq_false_iff_eq.mpr c91; clear c91; exact absurd ((Option.some.inj H).trans hr) Bool.false_ne_true
              rw [if_neg c91] at H
              have c91b0 : (t514.toList == ([] : List UInt8)) = false := beq_eq_false_iff_ne.mpr c91
              have c91b1 : (t514.toList != ([] : List UInt8)) = true := bne_iff_ne.mpr c91
              by_cases c93 : t515 = 0
              case neg => rw [if_neg c93] at H; have c93b0 : (t515 == 0) = false := beq_eq_false_iff_ne.mpr c93; have c93b1 : (t515 != 0) = true := bne_iff_ne.mpr c93; exact absurd ((Option.some.inj H).trans hr) Bool.false_ne_true
              rw [if_pos c93] at H
              have c93b0 : (t515 == 0) = true := beq_iff_eq.mpr c93
              have c93b1 : (t515 != 0) = false := bne_eq_false_iff_eq.mpr c93
              clear c93
              by_cases c94 : t516.toList = t508.toList
              case neg => rw [if_neg c94] at H; have c94b0 : (t516.toList == t508.toList) = false := beq_eq_false_iff_ne.mpr c94; have c94b1 : (t516.toList != t508.toList) = true := bne_iff_ne.mpr c94; exact absurd ((Option.some.inj H).trans hr) Bool.false_ne_true
              rw [if_pos c94] at H
              have c94b0 : (t516.toList == t508.toList) = true := beq_iff_eq.mpr c94
              have c94b1 : (t516.toList != t508.toList) = false := bne_eq_false_iff_eq.mpr c94
              clear c94
              by_cases c95 : t517 = 0
              case neg => rw [if_neg c95] at H; have c95b0 : (t517 == 0) = false := beq_eq_false_iff_ne.mpr c95; have c95b1 : (t517 != 0) = true := bne_iff_ne.mpr c95; exact absurd ((Option.some.inj H).trans hr) Bool.false_ne_true
              rw [if_pos c95] at H
              have c95b0 : (t517 == 0) = true := beq_iff_eq.mpr c95
              have c95b1 : (t517 != 0) = false := bne_eq_false_iff_eq.mpr c95
              clear c95
              by_cases c96 : t518.toList = t508.toList
              case neg => rw [if_neg c96] at H; have c96b0 : (t518.toList == t508.toList) = false := beq_eq_false_iff_ne.mpr c96; have c96b1 : (t518.toList != t508.toList) = true := bne_iff_ne.mpr c96; exact absurd ((Option.some.inj H).trans hr) Bool.false_ne_true
              rw [if_pos c96] at H
              have c96b0 : (t518.toList == t508.toList) = true := beq_iff_eq.mpr c96
              have c96b1 : (t518.toList != t508.toList) = false := bne_eq_false_iff_eq.mpr c96
              clear c96
              obtain rfl := Option.some.inj H
              have hcz97_0 : wc.cell? ⟨gb513, 0, none⟩ = some (.string t510) := (blk_cell BK513.out 0).trans rfl
              have hcz97_1 : wc.cell? ⟨gb513, 1, none⟩ = some (.string t511) := (blk_cell BK513.out 1).trans rfl
              have hfz97_0 := blk_frozen BK513.out 0
              have hfz97_1 := blk_frozen BK513.out 1
              go_wp2
              go_ret
              exact ⟨by first | rfl | simp [*], by apply_rules [HB.out, below_alloc, pw_below_drewN, below_drew1, below_set, GE513.out]⟩
end Go.Proofs.YtccebdpjdpjgnaaGreatDoor.P
