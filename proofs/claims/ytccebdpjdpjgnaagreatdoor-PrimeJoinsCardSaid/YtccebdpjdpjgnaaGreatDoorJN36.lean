/-
parts of the walks and of the plain laws: Pprimetwo PapiPrimesint70 PprimeIndex Pprimemove PprimeEmbed PprimeRestrict Pschismalaw11PrimeEmbeds
-/
import Derived.Test.YtccebdpjdpjgnaaGreatDoorJN32
import Derived.Test.YtccebdpjdpjgnaaGreatDoorJN34
set_option linter.unusedVariables false
set_option linter.unusedSimpArgs false
section
namespace Go.Proofs.YtccebdpjdpjgnaaGreatDoor.P
open Go.RowKit Go.Proofs.YtccebdpjdpjgnaaGreatDoorW.PrintWords Go.Proofs.YtccebdpjdpjgnaaGreatDoorW.PrintLast Go.Proofs.YtccebdpjdpjgnaaGreatDoorW.PrintMore
attribute [local go_sem] max2_int min2_int max_two min_two max_three min_three max_four min_four
def prime_two.f (k : Nat) (l0 : List Int) (l1 : List Int) : Option (Int) := (prime_Check.f k l0).bind fun t1145 => (if t1145 = 0 then ((prime_Check.f k l1).bind fun t1146 => (some t1146)) else (some t1145))
set_option maxHeartbeats 8000000 in
set_option maxRecDepth 100000 in
theorem prime_two.calls (k : Nat) (A0 : Option Addr) (c0 : Nat) (l0 : List Int) (A1 : Option Addr) (c1 : Nat) (l1 : List Int) (r : Int) (w : World) (hr0 : Kd.C (Kd.int .i64) w A0 l0.length l0) (hc0 : l0.length ≤ c0) (hr1 : Kd.C (Kd.int .i64) w A1 l1.length l1) (hc1 : l1.length ≤ c1) (h : prime_two.f k l0 l1 = some r) :
  Calls Tryz.prog 127 #[.slice A0 l0.length c0, .slice A1 l1.length c1] w fun e w' => e = .returned (.int .i64 r) ∧ Drawn0 w w' := by
 have HR0 := Aside0.mk hr0
 have HC0 := Aside0.mk hc0
 clear hr0 hc0
 have HR1 := Aside0.mk hr1
 have HC1 := Aside0.mk hc1
 clear hr1 hc1
 have H : ((prime_Check.f k l0).bind fun t1145 => (if t1145 = 0 then ((prime_Check.f k l1).bind fun t1146 => (some t1146)) else (some t1145))) = some r := h
 clear h
 replace H := Option.bind_eq_some_iff.mp H
 obtain ⟨t1145, A30, H⟩ := H
 try dsimp only at H
 have A3 := Aside0.mk A30
 clear A30
 by_cases c4 : t1145 = 0
 ·rw [if_pos c4] at H
  have c4b0 : (t1145 == 0) = true := beq_iff_eq.mpr c4
  have c4b1 : (t1145 != 0) = false := bne_eq_false_iff_eq.mpr c4
  clear c4
  replace H := Option.bind_eq_some_iff.mp H
  obtain ⟨t1146, A50, H⟩ := H
  try dsimp only at H
  have A5 := Aside0.mk A50
  clear A50
  obtain rfl := Option.some.inj H
  go_enter Tryz.func127, Tryz.ntmps127
  go_wp2_with (first | ((with_reducible refine gate_callee (f := 29) rfl ?_); refine goesK (some 7) Tryz.func29 [.slice A0 l0.length c0] rfl rfl ?_; (with_reducible refine (prime_Check.calls k _ _ l0 t1145 _ ?side1 ?side2 A3.out).mono ?_); (case side1 => apply_rules [HR0.out, Kd.C_alloc, Kd.C_drewN, Kd.C_drew]); (case side2 => exact HC0.out); rintro e w' ⟨rfl, ⟨nd, rfl⟩⟩; refine ⟨_, rfl, ?_⟩) | ((with_reducible refine gate_callee (f := 29) rfl ?_); refine goesK (some 12) Tryz.func29 [.slice A1 l1.length c1] rfl rfl ?_; (with_reducible refine (prime_Check.calls k _ _ l1 t1146 _ ?side1 ?side2 A5.out).mono ?_); (case side1 => apply_rules [HR1.out, Kd.C_alloc, Kd.C_drewN, Kd.C_drew]); (case side2 => exact HC1.out); rintro e w' ⟨rfl, ⟨nd, rfl⟩⟩; refine ⟨_, rfl, ?_⟩))
  go_ret
  exact ⟨by first | rfl | (simp; done) | (simp [*]; done), by repeat (first | exact Drawn0.refl _ | apply Drawn0.step)⟩
 ·rw [if_neg c4] at H
  have c4b0 : (t1145 == 0) = false := beq_eq_false_iff_ne.mpr c4
  have c4b1 : (t1145 != 0) = true := bne_iff_ne.mpr c4
  obtain rfl := Option.some.inj H
  go_enter Tryz.func127, Tryz.ntmps127
  go_wp2_with (first | ((with_reducible refine gate_callee (f := 29) rfl ?_); refine goesK (some 7) Tryz.func29 [.slice A0 l0.length c0] rfl rfl ?_; (with_reducible refine (prime_Check.calls k _ _ l0 t1145 _ ?side1 ?side2 A3.out).mono ?_); (case side1 => apply_rules [HR0.out, Kd.C_alloc, Kd.C_drewN, Kd.C_drew]); (case side2 => exact HC0.out); rintro e w' ⟨rfl, ⟨nd, rfl⟩⟩; refine ⟨_, rfl, ?_⟩))
  go_ret
  exact ⟨by first | rfl | (simp; done) | (simp [*]; done), by repeat (first | exact Drawn0.refl _ | apply Drawn0.step)⟩
def api_Primes_int_70.l0 : Nat → List Int → Int → Int → Int → Option (Int)
 | 0, _, _, _, _ => none
 | k + 1, x0, x1, x7, x8 => if x8 < x7 then (if 0 ≤ x8 then (if x8 < (x0.length : Int) then (if x1 = (rd x0 x8) then (some x8) else (api_Primes_int_70.l0 k x0 x1 x7 (wrap64 (x8 + 1)))) else (none)) else (none)) else (some (-1))
def api_Primes_int_70.f (k : Nat) (l0 : List Int) (a1 : Int) : Option (Int) := api_Primes_int_70.l0 k l0 a1 (l0.length : Int) 0
set_option maxHeartbeats 8000000 in
set_option maxRecDepth 100000 in
theorem api_Primes_int_70.calls (k : Nat) (A0 : Option Addr) (c0 : Nat) (l0 : List Int) (a1 : Int) (r : Int) (w : World) (hr0 : Kd.C (Kd.int .i64) w A0 l0.length l0) (hc0 : l0.length ≤ c0) (h : api_Primes_int_70.f k l0 a1 = some r) :
  Calls Tryz.prog 70 #[.slice A0 l0.length c0, .int .i64 a1] w fun e w' => e = .returned (.int .i64 r) ∧ Drawn0 w w' := by
 have HR0 := Aside0.mk hr0
 have HC0 := Aside0.mk hc0
 clear hr0 hc0
 have H : (api_Primes_int_70.l0 k l0 a1 (l0.length : Int) 0) = some r := h
 clear h
 have H' := Aside0.mk H
 clear H
 go_enter Tryz.func70, Tryz.ntmps70
 go_wp2
 go_loopg [8] k (fun kq v8 w' => ∃ (x8_1 : Int), v8 = .int .i64 x8_1 ∧ Aside0 (api_Primes_int_70.l0 kq l0 a1 (l0.length : Int) x8_1 = some r) ∧ Aside0 (kq ≤ k) ∧ Drawn0 w w')
 case atStart => exact ⟨(0), (by first | rfl | (simp; done) | (simp [*]; done)), H', ⟨Nat.le_refl _⟩, by repeat (first | exact Drawn0.refl _ | apply Drawn0.step)⟩
 case round =>
  clear H'
  obtain ⟨x8_1, rfl, HA, HK1, ⟨m1, rfl⟩⟩ := hrel
  cases gk with
  | zero => exact absurd HA.out (by simp [api_Primes_int_70.l0])
  | succ k1 =>
   have H := HA.out
   clear HA
   simp only [api_Primes_int_70.l0] at H
   by_cases c3 : x8_1 < (l0.length : Int)
   ·rw [if_pos c3] at H
    have c3b0 : decide (x8_1 < (l0.length : Int)) = true := decide_eq_true c3
    clear c3
    by_cases c4 : 0 ≤ x8_1
    case neg => rw [if_neg c4] at H; exact absurd H (by simp)
    rw [if_pos c4] at H
    have c4b0 : decide (0 ≤ x8_1) = true := decide_eq_true c4
    clear c4
    by_cases c5 : x8_1 < (l0.length : Int)
    case neg => rw [if_neg c5] at H; exact absurd H (by simp)
    rw [if_pos c5] at H
    have c5b0 : decide (x8_1 < (l0.length : Int)) = true := decide_eq_true c5
    clear c5
    by_cases c6 : a1 = (rd l0 x8_1)
    ·rw [if_pos c6] at H
     have c6b0 : (a1 == (rd l0 x8_1)) = true := beq_iff_eq.mpr c6
     have c6b1 : (a1 != (rd l0 x8_1)) = false := bne_eq_false_iff_eq.mpr c6
     clear c6
     obtain rfl := Option.some.inj H
     have p1147 : 0 ≤ (x8_1 : Int) := of_decide_eq_true (by assumption)
     have q1147 : x8_1 < (l0.length : Int) := of_decide_eq_true (by assumption)
     obtain ⟨ad1147, e1147, hx1147_0⟩ := Kd.at_int HR0.out x8_1 p1147 q1147
     cases e1147
     replace p1147 := eq_true p1147
     replace q1147 := eq_true q1147
     go_wp2
     go_ret
     exact ⟨by first | rfl | (simp; done) | (simp [*]; done), by repeat (first | exact Drawn0.refl _ | apply Drawn0.step)⟩
    ·rw [if_neg c6] at H
     have c6b0 : (a1 == (rd l0 x8_1)) = false := beq_eq_false_iff_ne.mpr c6
     have c6b1 : (a1 != (rd l0 x8_1)) = true := bne_iff_ne.mpr c6
     have H' := Aside0.mk H
     clear H
     have p1147 : 0 ≤ (x8_1 : Int) := of_decide_eq_true (by assumption)
     have q1147 : x8_1 < (l0.length : Int) := of_decide_eq_true (by assumption)
     obtain ⟨ad1147, e1147, hx1147_0⟩ := Kd.at_int HR0.out x8_1 p1147 q1147
     cases e1147
     replace p1147 := eq_true p1147
     replace q1147 := eq_true q1147
     go_wp2
     go_roundg k1
     case measure => have := HK1.out; omega
     case rel => exact ⟨(wrap64 (x8_1 + 1)), (by first | rfl | (simp; done) | (simp [*]; done)), H', ⟨by have := HK1.out; omega⟩, by repeat (first | exact Drawn0.refl _ | apply Drawn0.step)⟩
   ·rw [if_neg c3] at H
    have c3b0 : decide (x8_1 < (l0.length : Int)) = false := decide_eq_false c3
    clear c3
    obtain rfl := Option.some.inj H
    go_wp2
    go_ret
    exact ⟨by first | rfl | (simp; done) | (simp [*]; done), by repeat (first | exact Drawn0.refl _ | apply Drawn0.step)⟩
def prime_Index.f (k : Nat) (l0 : List Int) (a1 : Int) : Option (Int × Bool) := (api_Primes_int_70.f k l0 a1).bind fun t1148 => (some (mx t1148 0, decide (t1148 ≥ 0)))
set_option maxHeartbeats 8000000 in
set_option maxRecDepth 100000 in
theorem prime_Index.calls (k : Nat) (A0 : Option Addr) (c0 : Nat) (l0 : List Int) (a1 : Int) (r1 : Int) (r2 : Bool) (w : World) (hr0 : Kd.C (Kd.int .i64) w A0 l0.length l0) (hc0 : l0.length ≤ c0) (h : prime_Index.f k l0 a1 = some (r1, r2)) :
  Calls Tryz.prog 86 #[.slice A0 l0.length c0, .int .i64 a1] w fun e w' => e = .returned (.tuple #[.int .i64 r1, .bool r2]) ∧ Below w.heap.size w w' := by
 have HR0 := Aside0.mk hr0
 have HC0 := Aside0.mk hc0
 clear hr0 hc0
 have HB := Aside0.mk (Below.refl w.heap.size w)
 have H : ((api_Primes_int_70.f k l0 a1).bind fun t1148 => (some (mx t1148 0, decide (t1148 ≥ 0)))) = some (r1, r2) := h
 clear h
 replace H := Option.bind_eq_some_iff.mp H
 obtain ⟨t1148, A30, H⟩ := H
 try dsimp only at H
 have A3 := Aside0.mk A30
 clear A30
 obtain ⟨ji4, hji4⟩ : ∃ j_ : Int, (mx t1148 0) = j_ := ⟨_, rfl⟩
 replace H : (some (ji4, decide (t1148 ≥ 0))) = some (r1, r2) := by first | (rw [hji4] at H; exact H) | (simp only [hji4] at H ⊢; exact H)
 (try rw [hji4] at A3)
 (try (have hji4l : 0 ≤ ji4 := by (rw [← hji4]; unfold mx; (repeat' split) <;> omega)))
 (try (have hji4m : 0 ≤ ji4 := by omega))
 have hji4_ : (if t1148 < 0 then 0 else t1148) = ji4 := hji4
 simp only [Option.some.injEq, Prod.mk.injEq] at H
 obtain ⟨rfl, rfl⟩ := H
 go_enter Tryz.func86, Tryz.ntmps86
 go_wp2_with (first | ((with_reducible refine gate_callee (f := 70) rfl ?_); refine goesK (some 9) Tryz.func70 [.slice A0 l0.length c0, .int .i64 a1] rfl rfl ?_; (with_reducible refine (api_Primes_int_70.calls k _ _ l0 a1 t1148 _ ?side1 ?side2 A3.out).mono ?_); (case side1 => apply_rules [HR0.out, Kd.C_alloc, Kd.C_drewN, Kd.C_drew]); (case side2 => exact HC0.out); rintro e w' ⟨rfl, ⟨nd, rfl⟩⟩; refine ⟨_, rfl, ?_⟩))
 go_ret2
 exact ⟨by first | rfl | (simp [errW_none, errW_some] <;> rfl) | (simp only [← hji4]; first | rfl | (simp [errW_none, errW_some] <;> rfl)) | (simp [*, errW_none, errW_some] <;> rfl), by apply_rules [HB.out, below_alloc, pw_below_drewN, below_drew1]⟩



end Go.Proofs.YtccebdpjdpjgnaaGreatDoor.P
end
section
namespace Go.Proofs.YtccebdpjdpjgnaaGreatDoor.P
open Go.RowKit Go.Proofs.YtccebdpjdpjgnaaGreatDoorW.PrintWords Go.Proofs.YtccebdpjdpjgnaaGreatDoorW.PrintLast Go.Proofs.YtccebdpjdpjgnaaGreatDoorW.PrintMore
attribute [local go_sem] max2_int min2_int max_two min_two max_three min_three max_four min_four
end Go.Proofs.YtccebdpjdpjgnaaGreatDoor.P
end
