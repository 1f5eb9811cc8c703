/-
words of the walks
-/
import Derived.Test.YtccebdpjdpjgnaaGreatDoorBH22
set_option linter.unusedVariables false
set_option linter.unusedSimpArgs false
namespace Go.Proofs.YtccebdpjdpjgnaaGreatDoor.P
open Go.RowKit Go.Proofs.YtccebdpjdpjgnaaGreatDoorW.PrintWords Go.Proofs.YtccebdpjdpjgnaaGreatDoorW.PrintLast Go.Proofs.YtccebdpjdpjgnaaGreatDoorW.PrintMore
attribute [local go_sem] max2_int min2_int max_two min_two max_three min_three max_four min_four
set_option linter.unusedVariables false
set_option linter.unusedSimpArgs false
mutual
def schismalaw12_Value.l0 : Nat → List Int → List Int → ByteArray → ByteArray → Int → Option (ByteArray × ByteArray)
 | 0, _, _, _, _, _ => none
 | k + 1, x0, x1, x4, x5, x6 => if x6 < (x0.length : Int) then (schismalaw12_Value.j1 k x0 x1 x4 x5 x6 (decide (x6 < (x1.length : Int)))) else (schismalaw12_Value.j1 k x0 x1 x4 x5 x6 false)
def schismalaw12_Value.j1 : Nat → List Int → List Int → ByteArray → ByteArray → Int → Bool → Option (ByteArray × ByteArray)
 | 0, _, _, _, _, _, _ => none
 | k + 1, x0, x1, x4, x5, x6, x18 => if x18 = true then (schismalaw12_Value.l1 k x0 x1 x4 x5 x6 0) else (some (x4, x5))
def schismalaw12_Value.l1 : Nat → List Int → List Int → ByteArray → ByteArray → Int → Int → Option (ByteArray × ByteArray)
 | 0, _, _, _, _, _, _ => none
 | k + 1, x0, x1, x4, x5, x6, x7 => if 0 ≤ x6 then (if x6 < (x1.length : Int) then (if x7 < (rd x1 x6) then (if x6 < (x0.length : Int) then ((whole_Of.f (rd x0 x6)).bind fun t599 => ((whole_Mul.f k x4 t599).bind fun t600 => (schismalaw12_Value.l1 k x0 x1 t600 x5 x6 (wrap64 (x7 + 1))))) else (none)) else (schismalaw12_Value.l2 k x0 x1 x4 x5 x6 0)) else (none)) else (none)
def schismalaw12_Value.l2 : Nat → List Int → List Int → ByteArray → ByteArray → Int → Int → Option (ByteArray × ByteArray)
 | 0, _, _, _, _, _, _ => none
 | k + 1, x0, x1, x4, x5, x6, x8 => if 0 ≤ x6 then (if x6 < (x1.length : Int) then (if x8 > (rd x1 x6) then (if x6 < (x0.length : Int) then ((whole_Of.f (rd x0 x6)).bind fun t603 => ((whole_Mul.f k x5 t603).bind fun t604 => (schismalaw12_Value.l2 k x0 x1 x4 t604 x6 (wrap64 (x8 - 1))))) else (none)) else (schismalaw12_Value.l0 k x0 x1 x4 x5 (wrap64 (x6 + 1)))) else (none)) else (none)
end
def schismalaw12_Value.f (k : Nat) (l0 : List Int) (l1 : List Int) : Option (ByteArray × ByteArray) := schismalaw12_Value.l0 k l0 l1 (⟨#[49]⟩ : ByteArray) (⟨#[49]⟩ : ByteArray) 0
set_option maxHeartbeats 8000000 in
set_option maxRecDepth 100000 in
theorem schismalaw12_Value.calls (k : Nat) (A0 : Option Addr) (c0 : Nat) (l0 : List Int) (A1 : Option Addr) (c1 : Nat) (l1 : List Int) (r1 : ByteArray) (r2 : ByteArray) (w : World) (hT : TabW w) (hr0 : Kd.C (Kd.int .i64) w A0 l0.length l0) (hc0 : l0.length ≤ c0) (hr1 : Kd.C (Kd.int .i64) w A1 l1.length l1) (hc1 : l1.length ≤ c1) (h : schismalaw12_Value.f k l0 l1 = some (r1, r2)) :
  Calls Tryz.prog 36 #[.slice A0 l0.length c0, .slice A1 l1.length c1] w fun e w' => e = .returned (.tuple #[.string r1, .string r2]) ∧ Below w.heap.size w w' := by
 have HR0 := Aside0.mk hr0
 have HC0 := Aside0.mk hc0
 clear hr0 hc0
 have HR1 := Aside0.mk hr1
 have HC1 := Aside0.mk hc1
 clear hr1 hc1
 have HB := Aside0.mk (Below.refl w.heap.size w)
 have H : (schismalaw12_Value.l0 k l0 l1 (⟨#[49]⟩ : ByteArray) (⟨#[49]⟩ : ByteArray) 0) = some (r1, r2) := h
 clear h
 have H' := Aside0.mk H
 clear H
 go_enter Tryz.func36, Tryz.ntmps36
 go_wp2
 go_loopg [4, 5, 6] k (fun kq v4 v5 v6 w' => ∃ (x4_1 : ByteArray) (x5_1 : ByteArray) (x6_1 : Int), v4 = .string x4_1 ∧ v5 = .string x5_1 ∧ v6 = .int .i64 x6_1 ∧ Aside0 (schismalaw12_Value.l0 kq l0 l1 x4_1 x5_1 x6_1 = some (r1, r2)) ∧ Aside0 (kq ≤ k) ∧ Aside0 (Below w.heap.size w w'))
 case atStart => exact ⟨((⟨#[49]⟩ : ByteArray)), ((⟨#[49]⟩ : ByteArray)), (0), (by first | rfl | (simp; done) | (simp [*]; done)), (by first | rfl | (simp; done) | (simp [*]; done)), (by first | rfl | (simp; done) | (simp [*]; done)), H', ⟨Nat.le_refl _⟩, ⟨by apply_rules [HB.out, below_alloc, pw_below_drewN, below_drew1]⟩⟩
 case round =>
  clear H'
  obtain ⟨x4_1, x5_1, x6_1, rfl, rfl, rfl, HA, HK1, HB⟩ := hrel
  cases gk with
  | zero => exact absurd HA.out (by simp [schismalaw12_Value.l0])
  | succ k1 =>
   have H := HA.out
   clear HA
   simp only [schismalaw12_Value.l0] at H
   have HC3 := Aside0.mk H
   clear H
   go_upto_region 3 with (fail)
   go_cut [18] (fun v18 wc => ∃ (kq : Nat) (x18_2 : Bool), v18 = .bool x18_2 ∧ Aside0 (schismalaw12_Value.j1 kq l0 l1 x4_1 x5_1 x6_1 x18_2 = some (r1, r2)) ∧ Aside0 (kq ≤ k1) ∧ Aside0 (Below w.heap.size w wc))
   case first =>
    have H := HC3.out
    clear HC3
    by_cases c4 : x6_1 < (l0.length : Int)
    ·rw [if_pos c4] at H
     have c4b0 : decide (x6_1 < (l0.length : Int)) = true := decide_eq_true c4
     clear c4
     (first | rw [c4b0] | (simp only [i64_w, i32_w]; rw [c4b0]) | skip)
     have H' := Aside0.mk H
     clear H
     go_wp2
     go_meet
     case rel => exact ⟨_, (decide (x6_1 < (l1.length : Int))), (by first | rfl | (simp; done) | (simp [*]; done)), H', ⟨by have := HK1.out; first | omega | exact Nat.le_refl _⟩, ⟨by apply_rules [HB.out, below_alloc, pw_below_drewN, below_drew1]⟩⟩
    ·rw [if_neg c4] at H
     have c4b0 : decide (x6_1 < (l0.length : Int)) = false := decide_eq_false c4
     clear c4
     (first | rw [c4b0] | (simp only [i64_w, i32_w]; rw [c4b0]) | skip)
     have H' := Aside0.mk H
     clear H
     go_wp2
     go_meet
     case rel => exact ⟨_, (false), (by first | rfl | (simp; done) | (simp [*]; done)), H', ⟨by have := HK1.out; first | omega | exact Nat.le_refl _⟩, ⟨by apply_rules [HB.out, below_alloc, pw_below_drewN, below_drew1]⟩⟩
   case rest =>
    clear HC3
    obtain ⟨kq, x18_2, rfl, HA, HJ2, HB⟩ := hcut
    cases kq with
    | zero => exact absurd HA.out (by simp [schismalaw12_Value.j1])
    | succ kj2 =>
     have H := HA.out
     clear HA
     simp only [schismalaw12_Value.j1] at H
     by_cases c5 : x18_2 = true
     ·subst c5
      have H1 : (schismalaw12_Value.l1 kj2 l0 l1 x4_1 x5_1 x6_1 0) = some (r1, r2) := by rw [if_pos rfl] at H; exact H
      clear H
      have H := H1
      clear H1
      have H' := Aside0.mk H
      clear H
      go_wp2
      go_loopg [4, 7] kj2 (fun kq v4 v7 w' => ∃ (x4_3 : ByteArray) (x7_3 : Int), v4 = .string x4_3 ∧ v7 = .int .i64 x7_3 ∧ Aside0 (schismalaw12_Value.l1 kq l0 l1 x4_3 x5_1 x6_1 x7_3 = some (r1, r2)) ∧ Aside0 (kq ≤ kj2) ∧ Aside0 (Below w.heap.size w w'))
      case atStart => exact ⟨(x4_1), (0), (by first | rfl | (simp; done) | (simp [*]; done)), (by first | rfl | (simp; done) | (simp [*]; done)), H', ⟨Nat.le_refl _⟩, ⟨by apply_rules [HB.out, below_alloc, pw_below_drewN, below_drew1]⟩⟩
      case round =>
       clear H'
       obtain ⟨x4_3, x7_3, rfl, rfl, HA, HK3, HB⟩ := hrel
       cases gk with
       | zero => exact absurd HA.out (by simp [schismalaw12_Value.l1])
       | succ k3 =>
        have H := HA.out
        clear HA
        simp only [schismalaw12_Value.l1] at H
        by_cases c6 : 0 ≤ x6_1
        case neg => rw [if_neg c6] at H; exact absurd H (by simp)
        rw [if_pos c6] at H
        have c6b0 : decide (0 ≤ x6_1) = true := decide_eq_true c6
        clear c6
        by_cases c7 : x6_1 < (l1.length : Int)
        case neg => rw [if_neg c7] at H; exact absurd H (by simp)
        rw [if_pos c7] at H
        have c7b0 : decide (x6_1 < (l1.length : Int)) = true := decide_eq_true c7
        clear c7
        by_cases c8 : x7_3 < (rd l1 x6_1)
        ·rw [if_pos c8] at H
         have c8b0 : decide (x7_3 < (rd l1 x6_1)) = true := decide_eq_true c8
         clear c8
         by_cases c9 : x6_1 < (l0.length : Int)
         case neg => rw [if_neg c9] at H; exact absurd H (by simp)
         rw [if_pos c9] at H
         have c9b0 : decide (x6_1 < (l0.length : Int)) = true := decide_eq_true c9
         clear c9
         replace H := Option.bind_eq_some_iff.mp H
         obtain ⟨t599, A100, H⟩ := H
         try dsimp only at H
         have A10 := Aside0.mk A100
         clear A100
         replace H := Option.bind_eq_some_iff.mp H
         obtain ⟨t600, A110, H⟩ := H
         try dsimp only at H
         have A11 := Aside0.mk A110
         clear A110
         have H' := Aside0.mk H
         clear H
         have p597 : 0 ≤ (x6_1 : Int) := of_decide_eq_true (by assumption)
         have q597 : x6_1 < (l1.length : Int) := of_decide_eq_true (by assumption)
         obtain ⟨ad597, e597, hx597_0⟩ := Kd.at_int HR1.out x6_1 p597 q597
         cases e597
         replace hx597_0 := (HB.out.cell (World.block_lt_of_cell? w _ hx597_0)).trans hx597_0
         replace p597 := eq_true p597
         replace q597 := eq_true q597
         have p598 : 0 ≤ (x6_1 : Int) := of_decide_eq_true (by assumption)
         have q598 : x6_1 < (l0.length : Int) := of_decide_eq_true (by assumption)
         obtain ⟨ad598, e598, hx598_0⟩ := Kd.at_int HR0.out x6_1 p598 q598
         cases e598
         replace hx598_0 := (HB.out.cell (World.block_lt_of_cell? w _ hx598_0)).trans hx598_0
         replace p598 := eq_true p598
         replace q598 := eq_true q598
         go_wp2_with (first | ((with_reducible refine gate_callee (f := 104) rfl ?_); refine goesK (some 34) Tryz.func104 [.int .i64 (rd l0 x6_1)] rfl rfl ?_; (with_reducible refine (whole_Of.calls (rd l0 x6_1) t599 _ ?side1 A10.out).mono ?_); (case side1 => refine TabW.below hT ?_; apply_rules [HB.out, below_alloc, pw_below_drewN, below_drew1]); rintro e w12 ⟨rfl, hb⟩; refine ⟨_, rfl, ?_⟩; replace HB := Aside0.mk (below_step (by apply_rules [HB.out, below_alloc, pw_below_drewN, below_drew1]) hb); (try clear hb)) | ((with_reducible refine gate_callee (f := 52) rfl ?_); refine goesK (some 35) Tryz.func52 [.string x4_3, .string t599] rfl rfl ?_; (with_reducible refine (whole_Mul.calls k3 x4_3 t599 t600 _ ?side1 A11.out).mono ?_); (case side1 => refine TabW.below hT ?_; apply_rules [HB.out, below_alloc, pw_below_drewN, below_drew1]); rintro e w13 ⟨rfl, hb⟩; refine ⟨_, rfl, ?_⟩; replace HB := Aside0.mk (below_step (by apply_rules [HB.out, below_alloc, pw_below_drewN, below_drew1]) hb); (try clear hb)))
         go_roundg k3
         case measure => have := HK1.out; have := HJ2.out; have := HK3.out; omega
         case rel => exact ⟨(t600), (wrap64 (x7_3 + 1)), (by first | rfl | (simp; done) | (simp [*]; done)), (by first | rfl | (simp; done) | (simp [*]; done)), H', ⟨by have := HK1.out; have := HJ2.out; have := HK3.out; omega⟩, ⟨by apply_rules [HB.out, below_alloc, pw_below_drewN, below_drew1]⟩⟩
        ·rw [if_neg c8] at H
         have c8b0 : decide (x7_3 < (rd l1 x6_1)) = false := decide_eq_false c8
         clear c8
         have H' := Aside0.mk H
         clear H
         have p597 : 0 ≤ (x6_1 : Int) := of_decide_eq_true (by assumption)
         have q597 : x6_1 < (l1.length : Int) := of_decide_eq_true (by assumption)
         obtain ⟨ad597, e597, hx597_0⟩ := Kd.at_int HR1.out x6_1 p597 q597
         cases e597
         replace hx597_0 := (HB.out.cell (World.block_lt_of_cell? w _ hx597_0)).trans hx597_0
         replace p597 := eq_true p597
         replace q597 := eq_true q597
         go_wp2
         go_loopg [5, 8] k3 (fun kq v5 v8 w' => ∃ (x5_4 : ByteArray) (x8_4 : Int), v5 = .string x5_4 ∧ v8 = .int .i64 x8_4 ∧ Aside0 (schismalaw12_Value.l2 kq l0 l1 x4_3 x5_4 x6_1 x8_4 = some (r1, r2)) ∧ Aside0 (kq ≤ k3) ∧ Aside0 (Below w.heap.size w w'))
         case atStart => exact ⟨(x5_1), (0), (by first | rfl | (simp; done) | (simp [*]; done)), (by first | rfl | (simp; done) | (simp [*]; done)), H', ⟨Nat.le_refl _⟩, ⟨by apply_rules [HB.out, below_alloc, pw_below_drewN, below_drew1]⟩⟩
         case round =>
          clear H'
          obtain ⟨x5_4, x8_4, rfl, rfl, HA, HK4, HB⟩ := hrel
          cases gk with
          | zero => exact absurd HA.out (by simp [schismalaw12_Value.l2])
          | succ k4 =>
           have H := HA.out
           clear HA
           simp only [schismalaw12_Value.l2] at H
           by_cases c14 : 0 ≤ x6_1
           case neg => rw [if_neg c14] at H; exact absurd H (by simp)
           rw [if_pos c14] at H
           have c14b0 : decide (0 ≤ x6_1) = true := decide_eq_true c14
           clear c14
           by_cases c15 : x6_1 < (l1.length : Int)
           case neg => rw [if_neg c15] at H; exact absurd H (by simp)
           rw [if_pos c15] at H
           have c15b0 : decide (x6_1 < (l1.length : Int)) = true := decide_eq_true c15
           clear c15
           by_cases c16 : x8_4 > (rd l1 x6_1)
           ·rw [if_pos c16] at H
            have c16b0 : decide ((rd l1 x6_1) < x8_4) = true := decide_eq_true c16
            clear c16
            by_cases c17 : x6_1 < (l0.length : Int)
            case neg => rw [if_neg c17] at H; exact absurd H (by simp)
            rw [if_pos c17] at H
            have c17b0 : decide (x6_1 < (l0.length : Int)) = true := decide_eq_true c17
            clear c17
            replace H := Option.bind_eq_some_iff.mp H
            obtain ⟨t603, A180, H⟩ := H
            try dsimp only at H
            have A18 := Aside0.mk A180
            clear A180
            replace H := Option.bind_eq_some_iff.mp H
            obtain ⟨t604, A190, H⟩ := H
            try dsimp only at H
            have A19 := Aside0.mk A190
            clear A190
            have H' := Aside0.mk H
            clear H
            have p601 : 0 ≤ (x6_1 : Int) := of_decide_eq_true (by assumption)
            have q601 : x6_1 < (l1.length : Int) := of_decide_eq_true (by assumption)
            obtain ⟨ad601, e601, hx601_0⟩ := Kd.at_int HR1.out x6_1 p601 q601
            obtain rfl : ad597 = ad601 := (by injection e601)
            replace hx601_0 := (HB.out.cell (World.block_lt_of_cell? w _ hx601_0)).trans hx601_0
            replace p601 := eq_true p601
            replace q601 := eq_true q601
            have p602 : 0 ≤ (x6_1 : Int) := of_decide_eq_true (by assumption)
            have q602 : x6_1 < (l0.length : Int) := of_decide_eq_true (by assumption)
            obtain ⟨ad602, e602, hx602_0⟩ := Kd.at_int HR0.out x6_1 p602 q602
            cases e602
            replace hx602_0 := (HB.out.cell (World.block_lt_of_cell? w _ hx602_0)).trans hx602_0
            replace p602 := eq_true p602
            replace q602 := eq_true q602
            go_wp2_with (first | ((with_reducible refine gate_callee (f := 104) rfl ?_); refine goesK (some 49) Tryz.func104 [.int .i64 (rd l0 x6_1)] rfl rfl ?_; (with_reducible refine (whole_Of.calls (rd l0 x6_1) t603 _ ?side1 A18.out).mono ?_); (case side1 => refine TabW.below hT ?_; apply_rules [HB.out, below_alloc, pw_below_drewN, below_drew1]); rintro e w20 ⟨rfl, hb⟩; refine ⟨_, rfl, ?_⟩; replace HB := Aside0.mk (below_step (by apply_rules [HB.out, below_alloc, pw_below_drewN, below_drew1]) hb); (try clear hb)) | ((with_reducible refine gate_callee (f := 52) rfl ?_); refine goesK (some 50) Tryz.func52 [.string x5_4, .string t603] rfl rfl ?_; (with_reducible refine (whole_Mul.calls k4 x5_4 t603 t604 _ ?side1 A19.out).mono ?_); (case side1 => refine TabW.below hT ?_; apply_rules [HB.out, below_alloc, pw_below_drewN, below_drew1]); rintro e w21 ⟨rfl, hb⟩; refine ⟨_, rfl, ?_⟩; replace HB := Aside0.mk (below_step (by apply_rules [HB.out, below_alloc, pw_below_drewN, below_drew1]) hb); (try clear hb)))
            go_roundg k4
            case measure => have := HK1.out; have := HJ2.out; have := HK3.out; have := HK4.out; omega
            case rel => exact ⟨(t604), (wrap64 (x8_4 - 1)), (by first | rfl | (simp; done) | (simp [*]; done)), (by first | rfl | (simp; done) | (simp [*]; done)), H', ⟨by have := HK1.out; have := HJ2.out; have := HK3.out; have := HK4.out; omega⟩, ⟨by apply_rules [HB.out, below_alloc, pw_below_drewN, below_drew1]⟩⟩
           ·rw [if_neg c16] at H
            have c16b0 : decide ((rd l1 x6_1) < x8_4) = false := decide_eq_false c16
            clear c16
            have H' := Aside0.mk H
            clear H
            have p601 : 0 ≤ (x6_1 : Int) := of_decide_eq_true (by assumption)
            have q601 : x6_1 < (l1.length : Int) := of_decide_eq_true (by assumption)
            obtain ⟨ad601, e601, hx601_0⟩ := Kd.at_int HR1.out x6_1 p601 q601
            obtain rfl : ad597 = ad601 := (by injection e601)
            replace hx601_0 := (HB.out.cell (World.block_lt_of_cell? w _ hx601_0)).trans hx601_0
            replace p601 := eq_true p601
            replace q601 := eq_true q601
            go_wp2
            go_roundg k4
            case measure => have := HK1.out; have := HJ2.out; have := HK3.out; have := HK4.out; omega
            case rel => exact ⟨(x4_3), (x5_4), (wrap64 (x6_1 + 1)), (by first | rfl | (simp; done) | (simp [*]; done)), (by first | rfl | (simp; done) | (simp [*]; done)), (by first | rfl | (simp; done) | (simp [*]; done)), H', ⟨by have := HK1.out; have := HJ2.out; have := HK3.out; have := HK4.out; omega⟩, ⟨by apply_rules [HB.out, below_alloc, pw_below_drewN, below_drew1]⟩⟩
     ·replace c5 := Bool.eq_false_iff.mpr c5
      subst c5
      have H1 : (some (x4_1, x5_1)) = some (r1, r2) := by rw [if_neg (show ¬ (false = true) by decide)] at H; exact H
      clear H
      have H := H1
      clear H1
      simp only [Option.some.injEq, Prod.mk.injEq] at H
      obtain ⟨rfl, rfl⟩ := H
      go_wp2
      go_ret2
      exact ⟨by first | rfl | simp [*], by apply_rules [HB.out, below_alloc, pw_below_drewN, below_drew1]⟩
end Go.Proofs.YtccebdpjdpjgnaaGreatDoor.P
