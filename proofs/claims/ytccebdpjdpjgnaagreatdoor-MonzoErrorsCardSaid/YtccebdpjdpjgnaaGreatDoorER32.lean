/-
parts of the walks and of the plain laws: Pmonzosides PdecimalDigits Pmonzoshort PmonzoCompare Pmonzogreater ExtMon
-/
import Derived.LoopN
import Derived.Test.YtccebdpjdpjgnaaGreatDoorER28
import Derived.Test.YtccebdpjdpjgnaaGreatDoorER25
import Derived.Test.YtccebdpjdpjgnaaGreatDoorER19
set_option linter.unusedVariables false
set_option linter.unusedSimpArgs false
section
namespace Go.Proofs.YtccebdpjdpjgnaaGreatDoor.P
open Go.RowKit Go.Proofs.YtccebdpjdpjgnaaGreatDoorW.PrintWords Go.Proofs.YtccebdpjdpjgnaaGreatDoorW.PrintLast Go.Proofs.YtccebdpjdpjgnaaGreatDoorW.PrintMore
attribute [local go_sem] max2_int min2_int max_two min_two max_three min_three max_four min_four
def monzo_sides.l0 : Nat → List Int → ByteArray → ByteArray → List Int → Int → Int → Option (ByteArray × ByteArray)
 | 0, _, _, _, _, _, _ => none
 | k + 1, x0, x4, x5, x10, x11, x12 => if x12 < x11 then (if 0 ≤ x12 then (if x12 < (x10.length : Int) then (if x12 < (x0.length : Int) then ((decimal_Of.f (IntKind.u64.wrap (rd x0 x12))).bind fun t450 => ((decimal_Power.f k t450 (mx (rd x10 x12) (wrap64 (-(rd x10 x12))))).bind fun bt451 => (if (rd x10 x12) > 0 then ((decimal_Mul.f k x4 bt451.1).bind fun t453 => (monzo_sides.l0 k x0 t453 x5 x10 x11 (wrap64 (x12 + 1)))) else ((decimal_Mul.f k x5 bt451.1).bind fun t454 => (monzo_sides.l0 k x0 x4 t454 x10 x11 (wrap64 (x12 + 1))))))) else (none)) else (none)) else (none)) else (some (x4, x5))
def monzo_sides.f (k : Nat) (l0 : List Int) (l1 : List Int) : Option (ByteArray × ByteArray) := monzo_sides.l0 k l0 (⟨#[49]⟩ : ByteArray) (⟨#[49]⟩ : ByteArray) l1 (l1.length : Int) 0
theorem monzo_sides.mono_l : ∀ k, (∀ y0 y1 y2 y3 y4 y5, LeO (monzo_sides.l0 k y0 y1 y2 y3 y4 y5) (monzo_sides.l0 (k + 1) y0 y1 y2 y3 y4 y5))
 | 0 => fun _ _ _ _ _ _ r h => by simp [monzo_sides.l0] at h
 | k + 1 => by
  have ih0 := monzo_sides.mono_l k
  ·intro y0 y1 y2 y3 y4 y5
   unfold monzo_sides.l0
   repeat' first
   | (with_reducible exact ih0 _ _ _ _ _ _)
   | (with_reducible exact decimal_Mul.mono _ _ _)
   | (with_reducible exact decimal_Power.mono _ _ _)
   | (with_reducible exact LeO.refl _)
   | (with_reducible exact LeO.none _)
   | (with_reducible refine LeO.ite ?_ ?_)
   | (with_reducible refine LeO.bind ?_ (fun _ => ?_))
theorem monzo_sides.mono : ∀ a0 a1 k, LeO (monzo_sides.f k a0 a1) (monzo_sides.f (k + 1) a0 a1) := by
 intro a0 a1 k
 have ih0 := monzo_sides.mono_l k
 unfold monzo_sides.f
 repeat' first
   | (with_reducible exact ih0 _ _ _ _ _ _)
   | (with_reducible exact decimal_Mul.mono _ _ _)
   | (with_reducible exact decimal_Power.mono _ _ _)
   | (with_reducible exact LeO.refl _)
   | (with_reducible exact LeO.none _)
   | (with_reducible refine LeO.ite ?_ ?_)
   | (with_reducible refine LeO.bind ?_ (fun _ => ?_))
set_option maxHeartbeats 8000000 in
set_option maxRecDepth 100000 in
theorem monzo_sides.calls (k : Nat) (A0 : Option Addr) (c0 : Nat) (l0 : List Int) (A1 : Option Addr) (c1 : Nat) (l1 : List Int) (r1 : ByteArray) (r2 : ByteArray) (w : World) (hT : TabW w) (hr0 : Kd.C (Kd.int .i64) w A0 l0.length l0) (hc0 : l0.length ≤ c0) (hr1 : Kd.C (Kd.int .i64) w A1 l1.length l1) (hc1 : l1.length ≤ c1) (h : monzo_sides.f k l0 l1 = some (r1, r2)) :
  Calls Tryz.prog 105 #[.slice A0 l0.length c0, .slice A1 l1.length c1] w fun e w' => e = .returned (.tuple #[.string r1, .string r2]) ∧ Below w.heap.size w w' := by
 have HR0 := Aside0.mk hr0
 have HC0 := Aside0.mk hc0
 clear hr0 hc0
 have HR1 := Aside0.mk hr1
 have HC1 := Aside0.mk hc1
 clear hr1 hc1
 have HB := Aside0.mk (Below.refl w.heap.size w)
 have H : (monzo_sides.l0 k l0 (⟨#[49]⟩ : ByteArray) (⟨#[49]⟩ : ByteArray) l1 (l1.length : Int) 0) = some (r1, r2) := h
 clear h
 have H' := Aside0.mk H
 clear H
 go_enter Tryz.func105, Tryz.ntmps105
 go_wp2
 go_loopg [4, 5, 12] k (fun kq v4 v5 v12 w' => ∃ (x4_1 : ByteArray) (x5_1 : ByteArray) (x12_1 : Int), v4 = .string x4_1 ∧ v5 = .string x5_1 ∧ v12 = .int .i64 x12_1 ∧ Aside0 (monzo_sides.l0 kq l0 x4_1 x5_1 l1 (l1.length : Int) x12_1 = some (r1, r2)) ∧ Aside0 (kq ≤ k) ∧ Aside0 (Below w.heap.size w w'))
 case atStart => exact ⟨((⟨#[49]⟩ : ByteArray)), ((⟨#[49]⟩ : ByteArray)), (0), (by first | rfl | (simp; done) | (simp [*]; done)), (by first | rfl | (simp; done) | (simp [*]; done)), (by first | rfl | (simp; done) | (simp [*]; done)), H', ⟨Nat.le_refl _⟩, ⟨by apply_rules [HB.out, below_alloc, pw_below_drewN, below_drew1]⟩⟩
 case round =>
  clear H'
  obtain ⟨x4_1, x5_1, x12_1, rfl, rfl, rfl, HA, HK1, HB⟩ := hrel
  cases gk with
  | zero => exact absurd HA.out (by simp [monzo_sides.l0])
  | succ k1 =>
   have H := HA.out
   clear HA
   simp only [monzo_sides.l0] at H
   by_cases c3 : x12_1 < (l1.length : Int)
   ·rw [if_pos c3] at H
    have c3b0 : decide (x12_1 < (l1.length : Int)) = true := decide_eq_true c3
    clear c3
    by_cases c4 : 0 ≤ x12_1
    case neg => rw [if_neg c4] at H; exact absurd H (by simp)
    rw [if_pos c4] at H
    have c4b0 : decide (0 ≤ x12_1) = true := decide_eq_true c4
    clear c4
    by_cases c5 : x12_1 < (l1.length : Int)
    case neg => rw [if_neg c5] at H; exact absurd H (by simp)
    rw [if_pos c5] at H
    have c5b0 : decide (x12_1 < (l1.length : Int)) = true := decide_eq_true c5
    clear c5
    by_cases c6 : x12_1 < (l0.length : Int)
    case neg => rw [if_neg c6] at H; exact absurd H (by simp)
    rw [if_pos c6] at H
    have c6b0 : decide (x12_1 < (l0.length : Int)) = true := decide_eq_true c6
    clear c6
    replace H := Option.bind_eq_some_iff.mp H
    obtain ⟨t450, A70, H⟩ := H
    try dsimp only at H
    have A7 := Aside0.mk A70
    clear A70
    obtain ⟨ji8, hji8⟩ : ∃ j_ : Int, (mx (rd l1 x12_1) (wrap64 (-(rd l1 x12_1)))) = j_ := ⟨_, rfl⟩
    replace H : ((decimal_Power.f k1 t450 (ji8)).bind fun bt451 => (if (rd l1 x12_1) > 0 then ((decimal_Mul.f k1 x4_1 bt451.1).bind fun t453 => (monzo_sides.l0 k1 l0 t453 x5_1 l1 (l1.length : Int) (wrap64 (x12_1 + 1)))) else ((decimal_Mul.f k1 x5_1 bt451.1).bind fun t454 => (monzo_sides.l0 k1 l0 x4_1 t454 l1 (l1.length : Int) (wrap64 (x12_1 + 1)))))) = some (r1, r2) := by first | (rw [hji8] at H; exact H) | (simp only [hji8] at H ⊢; exact H)
    (try rw [hji8] at A7)
    have hji8_ : (if (rd l1 x12_1) < (wrap64 (-(rd l1 x12_1))) then (wrap64 (-(rd l1 x12_1))) else (rd l1 x12_1)) = ji8 := hji8
    replace H := Option.bind_eq_some_iff.mp H
    obtain ⟨⟨t451, t452⟩, A90, H⟩ := H
    try dsimp only at H
    have A9 := Aside0.mk A90
    clear A90
    by_cases c10 : (rd l1 x12_1) > 0
    ·rw [if_pos c10] at H
     have c10b0 : decide (0 < (rd l1 x12_1)) = true := decide_eq_true c10
     clear c10
     replace H := Option.bind_eq_some_iff.mp H
     obtain ⟨t453, A110, H⟩ := H
     try dsimp only at H
     have A11 := Aside0.mk A110
     clear A110
     have H' := Aside0.mk H
     clear H
     have p448 : 0 ≤ (x12_1 : Int) := of_decide_eq_true (by assumption)
     have q448 : x12_1 < (l1.length : Int) := of_decide_eq_true (by assumption)
     obtain ⟨ad448, e448, hx448_0⟩ := Kd.at_int HR1.out x12_1 p448 q448
     cases e448
     replace hx448_0 := (HB.out.cell (World.block_lt_of_cell? w _ hx448_0)).trans hx448_0
     replace p448 := eq_true p448
     replace q448 := eq_true q448
     have p449 : 0 ≤ (x12_1 : Int) := of_decide_eq_true (by assumption)
     have q449 : x12_1 < (l0.length : Int) := of_decide_eq_true (by assumption)
     obtain ⟨ad449, e449, hx449_0⟩ := Kd.at_int HR0.out x12_1 p449 q449
     cases e449
     replace hx449_0 := (HB.out.cell (World.block_lt_of_cell? w _ hx449_0)).trans hx449_0
     replace p449 := eq_true p449
     replace q449 := eq_true q449
     go_wp2_with (first | ((with_reducible refine gate_callee (f := 169) rfl ?_); refine goesK (some 23) Tryz.func169 [.int .u64 (IntKind.u64.wrap (rd l0 x12_1))] rfl rfl ?_; (with_reducible refine (decimal_Of.calls (IntKind.u64.wrap (rd l0 x12_1)) t450 _ ?side1 A7.out).mono ?_); (case side1 => refine TabW.below hT ?_; apply_rules [HB.out, below_alloc, pw_below_drewN, below_drew1]); rintro e w12 ⟨rfl, hb⟩; refine ⟨_, rfl, ?_⟩; replace HB := Aside0.mk (below_step (by apply_rules [HB.out, below_alloc, pw_below_drewN, below_drew1]) hb); (try clear hb)) | ((with_reducible refine gate_callee (f := 41) rfl ?_); refine goesL_ (some 28) rfl rfl Tryz.func41 (by kernel_rfl) rfl #[.string t450, .int .i64 ji8] rfl (by (try simp only [List.map_toArray, List.map_cons, List.map_nil]); first | done | (simp only [hji8]; rfl) | rfl | (simp only [List.length_drop, List.length_take]; rfl)) ?_; (with_reducible refine (decimal_Power.calls k1 t450 ji8 t451 t452 _ ?side1 A9.out).mono ?_); (case side1 => refine TabW.below hT ?_; apply_rules [HB.out, below_alloc, pw_below_drewN, below_drew1]); rintro e w13 ⟨rfl, hb⟩; refine ⟨_, rfl, ?_⟩; replace HB := Aside0.mk (below_step (by apply_rules [HB.out, below_alloc, pw_below_drewN, below_drew1]) hb); (try clear hb)) | ((with_reducible refine gate_callee (f := 113) rfl ?_); refine goesK (some 35) Tryz.func113 [.string x4_1, .string t451] rfl rfl ?_; (with_reducible refine (decimal_Mul.calls k1 x4_1 t451 t453 _ ?side1 A11.out).mono ?_); (case side1 => refine TabW.below hT ?_; apply_rules [HB.out, below_alloc, pw_below_drewN, below_drew1]); rintro e w14 ⟨rfl, hb⟩; refine ⟨_, rfl, ?_⟩; replace HB := Aside0.mk (below_step (by apply_rules [HB.out, below_alloc, pw_below_drewN, below_drew1]) hb); (try clear hb)))
     go_roundg k1
     case measure => have := HK1.out; omega
     case rel => exact ⟨(t453), (x5_1), (wrap64 (x12_1 + 1)), (by first | rfl | (simp; done) | (simp [*]; done)), (by first | rfl | (simp; done) | (simp [*]; done)), (by first | rfl | (simp; done) | (simp [*]; done)), H', ⟨by have := HK1.out; omega⟩, ⟨by apply_rules [HB.out, below_alloc, pw_below_drewN, below_drew1]⟩⟩
    ·rw [if_neg c10] at H
     have c10b0 : decide (0 < (rd l1 x12_1)) = false := decide_eq_false c10
     clear c10
     replace H := Option.bind_eq_some_iff.mp H
     obtain ⟨t454, A150, H⟩ := H
     try dsimp only at H
     have A15 := Aside0.mk A150
     clear A150
     have H' := Aside0.mk H
     clear H
     have p448 : 0 ≤ (x12_1 : Int) := of_decide_eq_true (by assumption)
     have q448 : x12_1 < (l1.length : Int) := of_decide_eq_true (by assumption)
     obtain ⟨ad448, e448, hx448_0⟩ := Kd.at_int HR1.out x12_1 p448 q448
     cases e448
     replace hx448_0 := (HB.out.cell (World.block_lt_of_cell? w _ hx448_0)).trans hx448_0
     replace p448 := eq_true p448
     replace q448 := eq_true q448
     have p449 : 0 ≤ (x12_1 : Int) := of_decide_eq_true (by assumption)
     have q449 : x12_1 < (l0.length : Int) := of_decide_eq_true (by assumption)
     obtain ⟨ad449, e449, hx449_0⟩ := Kd.at_int HR0.out x12_1 p449 q449
     cases e449
     replace hx449_0 := (HB.out.cell (World.block_lt_of_cell? w _ hx449_0)).trans hx449_0
     replace p449 := eq_true p449
     replace q449 := eq_true q449
     go_wp2_with (first | ((with_reducible refine gate_callee (f := 169) rfl ?_); refine goesK (some 23) Tryz.func169 [.int .u64 (IntKind.u64.wrap (rd l0 x12_1))] rfl rfl ?_; (with_reducible refine (decimal_Of.calls (IntKind.u64.wrap (rd l0 x12_1)) t450 _ ?side1 A7.out).mono ?_); (case side1 => refine TabW.below hT ?_; apply_rules [HB.out, below_alloc, pw_below_drewN, below_drew1]); rintro e w16 ⟨rfl, hb⟩; refine ⟨_, rfl, ?_⟩; replace HB := Aside0.mk (below_step (by apply_rules [HB.out, below_alloc, pw_below_drewN, below_drew1]) hb); (try clear hb)) | ((with_reducible refine gate_callee (f := 41) rfl ?_); refine goesL_ (some 28) rfl rfl Tryz.func41 (by kernel_rfl) rfl #[.string t450, .int .i64 ji8] rfl (by (try simp only [List.map_toArray, List.map_cons, List.map_nil]); first | done | (simp only [hji8]; rfl) | rfl | (simp only [List.length_drop, List.length_take]; rfl)) ?_; (with_reducible refine (decimal_Power.calls k1 t450 ji8 t451 t452 _ ?side1 A9.out).mono ?_); (case side1 => refine TabW.below hT ?_; apply_rules [HB.out, below_alloc, pw_below_drewN, below_drew1]); rintro e w17 ⟨rfl, hb⟩; refine ⟨_, rfl, ?_⟩; replace HB := Aside0.mk (below_step (by apply_rules [HB.out, below_alloc, pw_below_drewN, below_drew1]) hb); (try clear hb)) | ((with_reducible refine gate_callee (f := 113) rfl ?_); refine goesK (some 38) Tryz.func113 [.string x5_1, .string t451] rfl rfl ?_; (with_reducible refine (decimal_Mul.calls k1 x5_1 t451 t454 _ ?side1 A15.out).mono ?_); (case side1 => refine TabW.below hT ?_; apply_rules [HB.out, below_alloc, pw_below_drewN, below_drew1]); rintro e w18 ⟨rfl, hb⟩; refine ⟨_, rfl, ?_⟩; replace HB := Aside0.mk (below_step (by apply_rules [HB.out, below_alloc, pw_below_drewN, below_drew1]) hb); (try clear hb)))
     go_roundg k1
     case measure => have := HK1.out; omega
     case rel => exact ⟨(x4_1), (t454), (wrap64 (x12_1 + 1)), (by first | rfl | (simp; done) | (simp [*]; done)), (by first | rfl | (simp; done) | (simp [*]; done)), (by first | rfl | (simp; done) | (simp [*]; done)), H', ⟨by have := HK1.out; omega⟩, ⟨by apply_rules [HB.out, below_alloc, pw_below_drewN, below_drew1]⟩⟩
   ·rw [if_neg c3] at H
    have c3b0 : decide (x12_1 < (l1.length : Int)) = false := decide_eq_false c3
    clear c3
    simp only [Option.some.injEq, Prod.mk.injEq] at H
    obtain ⟨rfl, rfl⟩ := H
    go_wp2
    go_ret2
    exact ⟨by first | rfl | simp [*], by apply_rules [HB.out, below_alloc, pw_below_drewN, below_drew1]⟩
def decimal_Digits.f (a0 : ByteArray) : Option (Int) := some (a0.size : Int)
set_option maxHeartbeats 8000000 in
set_option maxRecDepth 100000 in
theorem decimal_Digits.calls (a0 : ByteArray) (r : Int) (w : World) (h : decimal_Digits.f a0 = some r) :
  Calls Tryz.prog 170 #[.string a0] w fun e w' => e = .returned (.int .i64 r) ∧ Drawn0 w w' := by
 have H : (some (a0.size : Int)) = some r := h
 clear h
 obtain rfl := Option.some.inj H
 go_enter Tryz.func170, Tryz.ntmps170
 go_wp2
 go_ret
 exact ⟨by first | rfl | (simp; done) | (simp [*]; done), by repeat (first | exact Drawn0.refl _ | apply Drawn0.step)⟩
def monzo_short.f (a0 : ByteArray) : Option (ByteArray × Int) := (decimal_Digits.f a0).bind fun t1715 => (if t1715 > 400 then (some ((⟨#[]⟩ : ByteArray), 4)) else (some (a0, 0)))
set_option maxHeartbeats 8000000 in
set_option maxRecDepth 100000 in
theorem monzo_short.calls (a0 : ByteArray) (r1 : ByteArray) (r2 : Int) (w : World) (h : monzo_short.f a0 = some (r1, r2)) :
  Calls Tryz.prog 106 #[.string a0] w fun e w' => e = .returned (.tuple #[.string r1, .int .i64 r2]) ∧ Drawn0 w w' := by
 have H : ((decimal_Digits.f a0).bind fun t1715 => (if t1715 > 400 then (some ((⟨#[]⟩ : ByteArray), 4)) else (some (a0, 0)))) = some (r1, r2) := h
 clear h
 replace H := Option.bind_eq_some_iff.mp H
 obtain ⟨t1715, A20, H⟩ := H
 try dsimp only at H
 have A2 := Aside0.mk A20
 clear A20
 by_cases c3 : t1715 > 400
 ·rw [if_pos c3] at H
  have c3b0 : decide (400 < t1715) = true := decide_eq_true c3
  clear c3
  simp only [Option.some.injEq, Prod.mk.injEq] at H
  obtain ⟨rfl, rfl⟩ := H
  go_enter Tryz.func106, Tryz.ntmps106
  go_wp2_with (first | ((with_reducible refine gate_callee (f := 170) rfl ?_); refine goesK (some 5) Tryz.func170 [.string a0] rfl rfl ?_; (with_reducible refine (decimal_Digits.calls a0 t1715 _ A2.out).mono ?_); rintro e w' ⟨rfl, ⟨nd, rfl⟩⟩; refine ⟨_, rfl, ?_⟩))
  go_ret2
  exact ⟨by first | rfl | (simp; done) | (simp [*]; done), by repeat (first | exact Drawn0.refl _ | apply Drawn0.step)⟩
 ·rw [if_neg c3] at H
  have c3b0 : decide (400 < t1715) = false := decide_eq_false c3
  clear c3
  simp only [Option.some.injEq, Prod.mk.injEq] at H
  obtain ⟨rfl, rfl⟩ := H
  go_enter Tryz.func106, Tryz.ntmps106
  go_wp2_with (first | ((with_reducible refine gate_callee (f := 170) rfl ?_); refine goesK (some 5) Tryz.func170 [.string a0] rfl rfl ?_; (with_reducible refine (decimal_Digits.calls a0 t1715 _ A2.out).mono ?_); rintro e w' ⟨rfl, ⟨nd, rfl⟩⟩; refine ⟨_, rfl, ?_⟩))
  go_ret2
  exact ⟨by first | rfl | (simp; done) | (simp [*]; done), by repeat (first | exact Drawn0.refl _ | apply Drawn0.step)⟩
def monzo_Compare.f (k : Nat) (l0 : List Int) (l1 : List Int) (l2 : List Int) : Option (Int × Int) := (monzo_CheckAll.f k l0 (([l1, l2] : List (List Int)))).bind fun t458 => (if t458 = 0 then ((monzo_sides.f k l0 l1).bind fun bt459 => ((monzo_sides.f k l0 l2).bind fun bt461 => ((decimal_Mul.f k bt459.1 bt461.2).bind fun t463 => ((decimal_Mul.f k bt461.1 bt459.2).bind fun t464 => ((decimal_Compare.f t463 t464).bind fun t465 => (some (t465, 0))))))) else (some (0, t458)))
theorem monzo_Compare.mono : ∀ a0 a1 a2 k, LeO (monzo_Compare.f k a0 a1 a2) (monzo_Compare.f (k + 1) a0 a1 a2) := by
 intro a0 a1 a2 k
 unfold monzo_Compare.f
 repeat' first
   | (with_reducible exact decimal_Mul.mono _ _ _)
   | (with_reducible exact monzo_CheckAll.mono _ _ _)
   | (with_reducible exact monzo_sides.mono _ _ _)
   | (with_reducible exact LeO.refl _)
   | (with_reducible exact LeO.none _)
   | (with_reducible refine LeO.ite ?_ ?_)
   | (with_reducible refine LeO.bind ?_ (fun _ => ?_))
set_option maxHeartbeats 8000000 in
set_option maxRecDepth 100000 in
theorem monzo_Compare.calls (k : Nat) (A0 : Option Addr) (c0 : Nat) (l0 : List Int) (P1_ : Nat → Prop) (A1 : Option Addr) (c1 : Nat) (l1 : List Int) (P2_ : Nat → Prop) (A2 : Option Addr) (c2 : Nat) (l2 : List Int) (r1 : Int) (r2 : Int) (w : World) (hT : TabW w) (hr0 : Kd.C (Kd.int .i64) w A0 l0.length l0) (hc0 : l0.length ≤ c0) (hs1 : Kd.V (Kd.int .i64) 3 w w.heap.size (fun k_ => P1_ k_) (.slice A1 l1.length c1) l1) (hs2 : Kd.V (Kd.int .i64) 3 w w.heap.size (fun k_ => P2_ k_) (.slice A2 l2.length c2) l2) (h : monzo_Compare.f k l0 l1 l2 = some (r1, r2)) :
  Calls Tryz.prog 45 #[.slice A0 l0.length c0, .slice A1 l1.length c1, .slice A2 l2.length c2] w fun e w' => e = .returned (.tuple #[.int .i64 r1, .int .i64 r2]) ∧ Below w.heap.size w w' := by
 have HR0 := Aside0.mk hr0
 have HC0 := Aside0.mk hc0
 clear hr0 hc0
 have HO1 := Aside0.mk (show Kd.V (Kd.int .i64) 3 w w.heap.size (fun k_ => ((P1_ k_ ∨ P2_ k_) ∨ w.heap.size ≤ k_)) (.slice A1 l1.length c1) l1 from Kd.V_mono hs1 (fun k_ hk => .inl (.inl hk)))
 have HO2 := Aside0.mk (show Kd.V (Kd.int .i64) 3 w w.heap.size (fun k_ => ((P1_ k_ ∨ P2_ k_) ∨ w.heap.size ≤ k_)) (.slice A2 l2.length c2) l2 from Kd.V_mono hs2 (fun k_ hk => .inl (.inr hk)))
 have HB := Aside0.mk (Below.refl w.heap.size w)
 have H : ((monzo_CheckAll.f k l0 (([l1, l2] : List (List Int)))).bind fun t458 => (if t458 = 0 then ((monzo_sides.f k l0 l1).bind fun bt459 => ((monzo_sides.f k l0 l2).bind fun bt461 => ((decimal_Mul.f k bt459.1 bt461.2).bind fun t463 => ((decimal_Mul.f k bt461.1 bt459.2).bind fun t464 => ((decimal_Compare.f t463 t464).bind fun t465 => (some (t465, 0))))))) else (some (0, t458)))) = some (r1, r2) := h
 clear h
 obtain ⟨y455, hy455⟩ : ∃ y_ : List (List Int), y_ = (([l1, l2] : List (List Int))) := ⟨_, rfl⟩
 replace H : ((monzo_CheckAll.f k l0 y455).bind fun t458 => (if t458 = 0 then ((monzo_sides.f k l0 l1).bind fun bt459 => ((monzo_sides.f k l0 l2).bind fun bt461 => ((decimal_Mul.f k bt459.1 bt461.2).bind fun t463 => ((decimal_Mul.f k bt461.1 bt459.2).bind fun t464 => ((decimal_Compare.f t463 t464).bind fun t465 => (some (t465, 0))))))) else (some (0, t458)))) = some (r1, r2) := by first | (rw [hy455]; with_reducible exact H) | (have H2_ := (Option.bind_some _ _).symm.trans H; rw [hy455]; with_reducible exact H2_) | (have H2_ := (Option.bind_some _ _).symm.trans H; with_reducible exact H2_) | with_reducible exact H | (rw [hy455]; exact H) | exact H
 have Ny455 := Aside0.mk hy455
 clear hy455
 replace H := Option.bind_eq_some_iff.mp H
 obtain ⟨t458, A40, H⟩ := H
 try dsimp only at H
 have A4 := Aside0.mk A40
 clear A40
 by_cases c5 : t458 = 0
 ·rw [if_pos c5] at H
  have c5b0 : (t458 == 0) = true := beq_iff_eq.mpr c5
  have c5b1 : (t458 != 0) = false := bne_eq_false_iff_eq.mpr c5
  clear c5
  replace H := Option.bind_eq_some_iff.mp H
  obtain ⟨⟨t459, t460⟩, A60, H⟩ := H
  try dsimp only at H
  have A6 := Aside0.mk A60
  clear A60
  replace H := Option.bind_eq_some_iff.mp H
  obtain ⟨⟨t461, t462⟩, A70, H⟩ := H
  try dsimp only at H
  have A7 := Aside0.mk A70
  clear A70
  replace H := Option.bind_eq_some_iff.mp H
  obtain ⟨t463, A80, H⟩ := H
  try dsimp only at H
  have A8 := Aside0.mk A80
  clear A80
  replace H := Option.bind_eq_some_iff.mp H
  obtain ⟨t464, A90, H⟩ := H
  try dsimp only at H
  have A9 := Aside0.mk A90
  clear A90
  replace H := Option.bind_eq_some_iff.mp H
  obtain ⟨t465, A100, H⟩ := H
  try dsimp only at H
  have A10 := Aside0.mk A100
  clear A100
  simp only [Option.some.injEq, Prod.mk.injEq] at H
  obtain ⟨rfl, rfl⟩ := H
  go_enter Tryz.func45, Tryz.ntmps45
  go_wp2_with (first | ((with_reducible refine gate_dst (N := 16) rfl ?_); refine Kd.N_lit (Kd.slice 3 (Kd.int .i64)) _ 24 ?hg (N' := 16) ?hd (xs := ([l1, l2] : List (List Int))) (inner := [.slice A1 l1.length c1, .slice A2 l2.length c2]) (ok := (fun k_ => ((P1_ k_ ∨ P2_ k_) ∨ w.heap.size ≤ k_))) (okp := (fun k_ => ((P1_ k_ ∨ P2_ k_) ∨ w.heap.size ≤ k_))) ?hr ?hp (fun _ hk => hk) ((show ∀ k_, w.heap.size ≤ k_ → (fun k_ => ((P1_ k_ ∨ P2_ k_) ∨ w.heap.size ≤ k_)) k_ from fun k_ hk => (.inr (Nat.le_trans (below_size (by apply_rules [HB.out, below_alloc, pw_below_drewN, below_drew1])) hk))) _ (Nat.le_refl _)) (Below.refl _ _) (Nat.le_refl _) (by simp) ?_; (case hd => rfl); (case hg => rfl); (case hr => go_simp; try rfl); (case hp => exact (Reps.one (show Kd.FK (Kd.slice 3 (Kd.int .i64)) _ _ l1 [.slice A1 l1.length c1] from (Kd.FK_slice_mk (Kd.V_reads' (Kd.V_mono (ok' := (fun k_ => ((P1_ k_ ∨ P2_ k_) ∨ w.heap.size ≤ k_))) (HO1.out) (fun k_ hk => hk))).2.1 (Kd.V_F (Kd.V_mono (ok' := (fun k_ => ((P1_ k_ ∨ P2_ k_) ∨ w.heap.size ≤ k_))) (HO1.out) (fun k_ hk => hk))))) (Reps.one (show Kd.FK (Kd.slice 3 (Kd.int .i64)) _ _ l2 [.slice A2 l2.length c2] from (Kd.FK_slice_mk (Kd.V_reads' (Kd.V_mono (ok' := (fun k_ => ((P1_ k_ ∨ P2_ k_) ∨ w.heap.size ≤ k_))) (HO2.out) (fun k_ hk => hk))).2.1 (Kd.V_F (Kd.V_mono (ok' := (fun k_ => ((P1_ k_ ∨ P2_ k_) ∨ w.heap.size ≤ k_))) (HO2.out) (fun k_ hk => hk))))) (Reps.none _ _)))); intro v456 w11 ho12 hb hg_ hnew_; clear hg_ hnew_; (first | rw [← Ny455.out] at ho12 | (simp only [Int.reduceToNat] at ho12; rw [← Ny455.out] at ho12)); replace HO1 := Aside0.mk (Kd.V_elder' (by (with_reducible repeat (first | apply Kd.V_alloc | apply Kd.V_drewN | apply Kd.V_drew)); exact HO1.out) (Kd.N_base ho12) hb); replace HO2 := Aside0.mk (Kd.V_elder' (by (with_reducible repeat (first | apply Kd.V_alloc | apply Kd.V_drewN | apply Kd.V_drew)); exact HO2.out) (Kd.N_base ho12) hb); have HO457 := Aside0.mk (Kd.N_lower ho12 (below_size (by apply_rules [HB.out, below_alloc, pw_below_drewN, below_drew1]))); replace HB := Aside0.mk (below_step (by apply_rules [HB.out, below_alloc, pw_below_drewN, below_drew1]) hb); clear hb ho12; obtain ⟨Ao13, co13, eo13⟩ := Kd.N_slice HO457.out; subst eo13) | ((with_reducible refine gate_callee (f := 28) rfl ?_); refine goesK (some 17) Tryz.func28 [.slice A0 l0.length c0, .slice Ao13 y455.length co13] rfl rfl ?_; (with_reducible refine (monzo_CheckAll.calls k _ _ l0 _ _ y455 t458 _ ?side1 ?side2 ?side3 ?side4 A4.out).mono ?_); (case side1 => repeat (first | exact (Kd.C_below HR0.out HB.out) | (with_reducible refine Kd.C_alloc ?_ _) | (with_reducible refine Kd.C_drewN ?_ _) | (with_reducible refine Kd.C_drew ?_))); (case side2 => exact HC0.out); (case side3 => repeat (first | exact (Kd.N_reads' HO457.out).2.2 | (with_reducible refine Kd.C_alloc ?_ _) | (with_reducible refine Kd.C_drewN ?_ _) | (with_reducible refine Kd.C_drew ?_))); (case side4 => exact (Kd.N_reads' HO457.out).2.1); rintro e w' ⟨rfl, ⟨nd, rfl⟩⟩; refine ⟨_, rfl, ?_⟩) | ((with_reducible refine gate_callee (f := 105) rfl ?_); refine goesK (some 24) Tryz.func105 [.slice A0 l0.length c0, .slice A1 l1.length c1] rfl rfl ?_; (with_reducible refine (monzo_sides.calls k _ _ l0 _ _ l1 t459 t460 _ ?side1 ?side2 ?side3 ?side4 ?side5 A6.out).mono ?_); (case side1 => refine TabW.below hT ?_; apply_rules [HB.out, below_alloc, pw_below_drewN, below_drew1]); (case side2 => repeat (first | exact (Kd.C_below HR0.out (by apply_rules [HB.out, below_alloc, pw_below_drewN, below_drew1])) | (with_reducible refine Kd.C_alloc ?_ _) | (with_reducible refine Kd.C_drewN ?_ _) | (with_reducible refine Kd.C_drew ?_))); (case side3 => exact HC0.out); (case side4 => repeat (first | exact (Kd.V_reads' HO1.out).2.2 | (with_reducible refine Kd.C_alloc ?_ _) | (with_reducible refine Kd.C_drewN ?_ _) | (with_reducible refine Kd.C_drew ?_))); (case side5 => exact (Kd.V_reads' HO1.out).2.1); rintro e w14 ⟨rfl, hb⟩; refine ⟨_, rfl, ?_⟩; replace HO1 := Aside0.mk (Kd.V_below (by (with_reducible repeat (first | apply Kd.V_alloc | apply Kd.V_drewN | apply Kd.V_drew)); exact HO1.out) hb); replace HO2 := Aside0.mk (Kd.V_below (by (with_reducible repeat (first | apply Kd.V_alloc | apply Kd.V_drewN | apply Kd.V_drew)); exact HO2.out) hb); replace HO457 := Aside0.mk (Kd.N_below (by (with_reducible repeat (first | apply Kd.N_alloc | apply Kd.N_drewN | apply Kd.N_drew)); exact HO457.out) hb); replace HB := Aside0.mk (below_step (by apply_rules [HB.out, below_alloc, pw_below_drewN, below_drew1]) hb); (try clear hb)) | ((with_reducible refine gate_callee (f := 105) rfl ?_); refine goesK (some 30) Tryz.func105 [.slice A0 l0.length c0, .slice A2 l2.length c2] rfl rfl ?_; (with_reducible refine (monzo_sides.calls k _ _ l0 _ _ l2 t461 t462 _ ?side1 ?side2 ?side3 ?side4 ?side5 A7.out).mono ?_); (case side1 => refine TabW.below hT ?_; apply_rules [HB.out, below_alloc, pw_below_drewN, below_drew1]); (case side2 => repeat (first | exact (Kd.C_below HR0.out HB.out) | (with_reducible refine Kd.C_alloc ?_ _) | (with_reducible refine Kd.C_drewN ?_ _) | (with_reducible refine Kd.C_drew ?_))); (case side3 => exact HC0.out); (case side4 => repeat (first | exact (Kd.V_reads' HO2.out).2.2 | (with_reducible refine Kd.C_alloc ?_ _) | (with_reducible refine Kd.C_drewN ?_ _) | (with_reducible refine Kd.C_drew ?_))); (case side5 => exact (Kd.V_reads' HO2.out).2.1); rintro e w15 ⟨rfl, hb⟩; refine ⟨_, rfl, ?_⟩; replace HO1 := Aside0.mk (Kd.V_below (by (with_reducible repeat (first | apply Kd.V_alloc | apply Kd.V_drewN | apply Kd.V_drew)); exact HO1.out) hb); replace HO2 := Aside0.mk (Kd.V_below (by (with_reducible repeat (first | apply Kd.V_alloc | apply Kd.V_drewN | apply Kd.V_drew)); exact HO2.out) hb); replace HO457 := Aside0.mk (Kd.N_below (by (with_reducible repeat (first | apply Kd.N_alloc | apply Kd.N_drewN | apply Kd.N_drew)); exact HO457.out) hb); replace HB := Aside0.mk (below_step (by apply_rules [HB.out, below_alloc, pw_below_drewN, below_drew1]) hb); (try clear hb)) | ((with_reducible refine gate_callee (f := 113) rfl ?_); refine goesK (some 35) Tryz.func113 [.string t459, .string t462] rfl rfl ?_; (with_reducible refine (decimal_Mul.calls k t459 t462 t463 _ ?side1 A8.out).mono ?_); (case side1 => refine TabW.below hT ?_; apply_rules [HB.out, below_alloc, pw_below_drewN, below_drew1]); rintro e w16 ⟨rfl, hb⟩; refine ⟨_, rfl, ?_⟩; replace HO1 := Aside0.mk (Kd.V_below (by (with_reducible repeat (first | apply Kd.V_alloc | apply Kd.V_drewN | apply Kd.V_drew)); exact HO1.out) hb); replace HO2 := Aside0.mk (Kd.V_below (by (with_reducible repeat (first | apply Kd.V_alloc | apply Kd.V_drewN | apply Kd.V_drew)); exact HO2.out) hb); replace HO457 := Aside0.mk (Kd.N_below (by (with_reducible repeat (first | apply Kd.N_alloc | apply Kd.N_drewN | apply Kd.N_drew)); exact HO457.out) hb); replace HB := Aside0.mk (below_step (by apply_rules [HB.out, below_alloc, pw_below_drewN, below_drew1]) hb); (try clear hb)) | ((with_reducible refine gate_callee (f := 113) rfl ?_); refine goesK (some 38) Tryz.func113 [.string t461, .string t460] rfl rfl ?_; (with_reducible refine (decimal_Mul.calls k t461 t460 t464 _ ?side1 A9.out).mono ?_); (case side1 => refine TabW.below hT ?_; apply_rules [HB.out, below_alloc, pw_below_drewN, below_drew1]); rintro e w17 ⟨rfl, hb⟩; refine ⟨_, rfl, ?_⟩; replace HO1 := Aside0.mk (Kd.V_below (by (with_reducible repeat (first | apply Kd.V_alloc | apply Kd.V_drewN | apply Kd.V_drew)); exact HO1.out) hb); replace HO2 := Aside0.mk (Kd.V_below (by (with_reducible repeat (first | apply Kd.V_alloc | apply Kd.V_drewN | apply Kd.V_drew)); exact HO2.out) hb); replace HO457 := Aside0.mk (Kd.N_below (by (with_reducible repeat (first | apply Kd.N_alloc | apply Kd.N_drewN | apply Kd.N_drew)); exact HO457.out) hb); replace HB := Aside0.mk (below_step (by apply_rules [HB.out, below_alloc, pw_below_drewN, below_drew1]) hb); (try clear hb)) | ((with_reducible refine gate_callee (f := 114) rfl ?_); refine goesK (some 39) Tryz.func114 [.string t463, .string t464] rfl rfl ?_; (with_reducible refine (decimal_Compare.calls t463 t464 t465 _ A10.out).mono ?_); rintro e w18 ⟨rfl, hb⟩; refine ⟨_, rfl, ?_⟩; replace HO1 := Aside0.mk (Kd.V_below (by (with_reducible repeat (first | apply Kd.V_alloc | apply Kd.V_drewN | apply Kd.V_drew)); exact HO1.out) hb); replace HO2 := Aside0.mk (Kd.V_below (by (with_reducible repeat (first | apply Kd.V_alloc | apply Kd.V_drewN | apply Kd.V_drew)); exact HO2.out) hb); replace HO457 := Aside0.mk (Kd.N_below (by (with_reducible repeat (first | apply Kd.N_alloc | apply Kd.N_drewN | apply Kd.N_drew)); exact HO457.out) hb); replace HB := Aside0.mk (below_step (by apply_rules [HB.out, below_alloc, pw_below_drewN, below_drew1]) hb); (try clear hb)))
  go_ret2
  exact ⟨by first | rfl | simp [*], by apply_rules [HB.out, below_alloc, pw_below_drewN, below_drew1]⟩
 ·rw [if_neg c5] at H
  have c5b0 : (t458 == 0) = false := beq_eq_false_iff_ne.mpr c5
  have c5b1 : (t458 != 0) = true := bne_iff_ne.mpr c5
  simp only [Option.some.injEq, Prod.mk.injEq] at H
  obtain ⟨rfl, rfl⟩ := H
  go_enter Tryz.func45, Tryz.ntmps45
  go_wp2_with (first | ((with_reducible refine gate_dst (N := 16) rfl ?_); refine Kd.N_lit (Kd.slice 3 (Kd.int .i64)) _ 24 ?hg (N' := 16) ?hd (xs := ([l1, l2] : List (List Int))) (inner := [.slice A1 l1.length c1, .slice A2 l2.length c2]) (ok := (fun k_ => ((P1_ k_ ∨ P2_ k_) ∨ w.heap.size ≤ k_))) (okp := (fun k_ => ((P1_ k_ ∨ P2_ k_) ∨ w.heap.size ≤ k_))) ?hr ?hp (fun _ hk => hk) ((show ∀ k_, w.heap.size ≤ k_ → (fun k_ => ((P1_ k_ ∨ P2_ k_) ∨ w.heap.size ≤ k_)) k_ from fun k_ hk => (.inr (Nat.le_trans (below_size (by apply_rules [HB.out, below_alloc, pw_below_drewN, below_drew1])) hk))) _ (Nat.le_refl _)) (Below.refl _ _) (Nat.le_refl _) (by simp) ?_; (case hd => rfl); (case hg => rfl); (case hr => go_simp; try rfl); (case hp => exact (Reps.one (show Kd.FK (Kd.slice 3 (Kd.int .i64)) _ _ l1 [.slice A1 l1.length c1] from (Kd.FK_slice_mk (Kd.V_reads' (Kd.V_mono (ok' := (fun k_ => ((P1_ k_ ∨ P2_ k_) ∨ w.heap.size ≤ k_))) (HO1.out) (fun k_ hk => hk))).2.1 (Kd.V_F (Kd.V_mono (ok' := (fun k_ => ((P1_ k_ ∨ P2_ k_) ∨ w.heap.size ≤ k_))) (HO1.out) (fun k_ hk => hk))))) (Reps.one (show Kd.FK (Kd.slice 3 (Kd.int .i64)) _ _ l2 [.slice A2 l2.length c2] from (Kd.FK_slice_mk (Kd.V_reads' (Kd.V_mono (ok' := (fun k_ => ((P1_ k_ ∨ P2_ k_) ∨ w.heap.size ≤ k_))) (HO2.out) (fun k_ hk => hk))).2.1 (Kd.V_F (Kd.V_mono (ok' := (fun k_ => ((P1_ k_ ∨ P2_ k_) ∨ w.heap.size ≤ k_))) (HO2.out) (fun k_ hk => hk))))) (Reps.none _ _)))); intro v456 w19 ho20 hb hg_ hnew_; clear hg_ hnew_; (first | rw [← Ny455.out] at ho20 | (simp only [Int.reduceToNat] at ho20; rw [← Ny455.out] at ho20)); replace HO1 := Aside0.mk (Kd.V_elder' (by (with_reducible repeat (first | apply Kd.V_alloc | apply Kd.V_drewN | apply Kd.V_drew)); exact HO1.out) (Kd.N_base ho20) hb); replace HO2 := Aside0.mk (Kd.V_elder' (by (with_reducible repeat (first | apply Kd.V_alloc | apply Kd.V_drewN | apply Kd.V_drew)); exact HO2.out) (Kd.N_base ho20) hb); have HO457 := Aside0.mk (Kd.N_lower ho20 (below_size (by apply_rules [HB.out, below_alloc, pw_below_drewN, below_drew1]))); replace HB := Aside0.mk (below_step (by apply_rules [HB.out, below_alloc, pw_below_drewN, below_drew1]) hb); clear hb ho20; obtain ⟨Ao21, co21, eo21⟩ := Kd.N_slice HO457.out; subst eo21) | ((with_reducible refine gate_callee (f := 28) rfl ?_); refine goesK (some 17) Tryz.func28 [.slice A0 l0.length c0, .slice Ao21 y455.length co21] rfl rfl ?_; (with_reducible refine (monzo_CheckAll.calls k _ _ l0 _ _ y455 t458 _ ?side1 ?side2 ?side3 ?side4 A4.out).mono ?_); (case side1 => repeat (first | exact (Kd.C_below HR0.out HB.out) | (with_reducible refine Kd.C_alloc ?_ _) | (with_reducible refine Kd.C_drewN ?_ _) | (with_reducible refine Kd.C_drew ?_))); (case side2 => exact HC0.out); (case side3 => repeat (first | exact (Kd.N_reads' HO457.out).2.2 | (with_reducible refine Kd.C_alloc ?_ _) | (with_reducible refine Kd.C_drewN ?_ _) | (with_reducible refine Kd.C_drew ?_))); (case side4 => exact (Kd.N_reads' HO457.out).2.1); rintro e w' ⟨rfl, ⟨nd, rfl⟩⟩; refine ⟨_, rfl, ?_⟩))
  go_ret2
  exact ⟨by first | rfl | simp [*], by apply_rules [HB.out, below_alloc, pw_below_drewN, below_drew1]⟩
def monzo_greater.f (a0 : ByteArray) (a1 : ByteArray) : Option (ByteArray) := (decimal_Compare.f a0 a1).bind fun t1716 => (if t1716 < 0 then (some a1) else (some a0))
set_option maxHeartbeats 8000000 in
set_option maxRecDepth 100000 in
theorem monzo_greater.calls (a0 : ByteArray) (a1 : ByteArray) (r : ByteArray) (w : World) (h : monzo_greater.f a0 a1 = some r) :
  Calls Tryz.prog 112 #[.string a0, .string a1] w fun e w' => e = .returned (.string r) ∧ Below w.heap.size w w' := by
 have HB := Aside0.mk (Below.refl w.heap.size w)
 have H : ((decimal_Compare.f a0 a1).bind fun t1716 => (if t1716 < 0 then (some a1) else (some a0))) = some r := h
 clear h
 replace H := Option.bind_eq_some_iff.mp H
 obtain ⟨t1716, A30, H⟩ := H
 try dsimp only at H
 have A3 := Aside0.mk A30
 clear A30
 by_cases c4 : t1716 < 0
 ·rw [if_pos c4] at H
  have c4b0 : decide (t1716 < 0) = true := decide_eq_true c4
  clear c4
  obtain rfl := Option.some.inj H
  go_enter Tryz.func112, Tryz.ntmps112
  go_wp2_with (first | ((with_reducible refine gate_callee (f := 114) rfl ?_); refine goesK (some 7) Tryz.func114 [.string a0, .string a1] rfl rfl ?_; (with_reducible refine (decimal_Compare.calls a0 a1 t1716 _ A3.out).mono ?_); rintro e w5 ⟨rfl, hb⟩; refine ⟨_, rfl, ?_⟩; replace HB := Aside0.mk (below_step (by apply_rules [HB.out, below_alloc, pw_below_drewN, below_drew1]) hb); (try clear hb)))
  go_ret
  exact ⟨by first | rfl | simp [*], by apply_rules [HB.out, below_alloc, pw_below_drewN, below_drew1]⟩
 ·rw [if_neg c4] at H
  have c4b0 : decide (t1716 < 0) = false := decide_eq_false c4
  clear c4
  obtain rfl := Option.some.inj H
  go_enter Tryz.func112, Tryz.ntmps112
  go_wp2_with (first | ((with_reducible refine gate_callee (f := 114) rfl ?_); refine goesK (some 7) Tryz.func114 [.string a0, .string a1] rfl rfl ?_; (with_reducible refine (decimal_Compare.calls a0 a1 t1716 _ A3.out).mono ?_); rintro e w6 ⟨rfl, hb⟩; refine ⟨_, rfl, ?_⟩; replace HB := Aside0.mk (below_step (by apply_rules [HB.out, below_alloc, pw_below_drewN, below_drew1]) hb); (try clear hb)))
  go_ret
  exact ⟨by first | rfl | simp [*], by apply_rules [HB.out, below_alloc, pw_below_drewN, below_drew1]⟩
end Go.Proofs.YtccebdpjdpjgnaaGreatDoor.P
end
section
namespace Go.Proofs.YtccebdpjdpjgnaaGreatDoor.P
open Go.RowKit Go.Proofs.YtccebdpjdpjgnaaGreatDoorW.PrintWords Go.Proofs.YtccebdpjdpjgnaaGreatDoorW.PrintLast Go.Proofs.YtccebdpjdpjgnaaGreatDoorW.PrintMore
section
def heightOf (F : Nat → ByteArray → ByteArray → Option ByteArray) (k : Nat) (l0 l1 : List Int) : Option (ByteArray × Int) :=
 (monzo_Check.f k l0 l1).bind fun e => if e = 0 then (monzo_sides.f k l0 l1).bind fun b => (F k b.1 b.2).bind fun m => monzo_short.f m else some (⟨#[]⟩, e)
theorem heightOf.mono (F : Nat → ByteArray → ByteArray → Option ByteArray) (hF : ∀ a b k, LeO (F k a b) (F (k + 1) a b)) : ∀ l0 l1 k, LeO (heightOf F k l0 l1) (heightOf F (k + 1) l0 l1) := by
 intro l0 l1 k r h
 unfold heightOf at h ⊢
 obtain ⟨e, h1, h⟩ := Option.bind_eq_some_iff.mp h
 rw [monzo_Check.mono _ _ _ _ h1, Option.bind_some]
 split at h
 ·next he =>
  rw [if_pos he]
  obtain ⟨b, h2, h⟩ := Option.bind_eq_some_iff.mp h
  obtain ⟨m, h3, h⟩ := Option.bind_eq_some_iff.mp h
  rw [monzo_sides.mono _ _ _ _ h2, Option.bind_some, hF _ _ _ _ h3, Option.bind_some]
  exact h
 ·next he => rw [if_neg he]; exact h
set_option maxHeartbeats 1000000 in
theorem height_any (F : Nat → ByteArray → ByteArray → Option ByteArray) (g : Nat) (hg : ∀ (k : Nat) (a b r : ByteArray) (w : World), TabW w → F k a b = some r → Calls Tryz.prog g #[.string a, .string b] w fun e w' => e = .returned (.string r) ∧ Below w.heap.size w w') (eg : ∀ args w, (callFunc g args).run Tryz.prog w = .ok (.enter g args) w)
  (k : Nat) (A0 : Option Addr) (c0 : Nat) (l0 : List Int) (A1 : Option Addr) (c1 : Nat) (l1 : List Int) (r1 : ByteArray) (r2 : Int) (w : World) (hT : TabW w) (hr0 : Kd.C (Kd.int .i64) w A0 l0.length l0) (hc0 : l0.length ≤ c0) (hr1 : Kd.C (Kd.int .i64) w A1 l1.length l1) (hc1 : l1.length ≤ c1) (h : heightOf F k l0 l1 = some (r1, r2)) :
  Calls Tryz.prog 111 #[.slice A0 l0.length c0, .slice A1 l1.length c1, .func (.func g) #[] #[]] w fun e w' => e = .returned (.tuple #[.string r1, .int .i64 r2]) ∧ Below w.heap.size w w' := by
 unfold heightOf at h
 obtain ⟨e, h1, h⟩ := Option.bind_eq_some_iff.mp h
 by_cases he : e = 0
 ·rw [if_pos he] at h
  obtain ⟨⟨b1, b2⟩, h2, h⟩ := Option.bind_eq_some_iff.mp h
  obtain ⟨m, h3, h⟩ := Option.bind_eq_some_iff.mp h
  subst he
  go_enter Tryz.func111, Tryz.ntmps111
  go_wp2_with fail
  refine (monzo_Check.calls k _ _ l0 (fun k_ => k_ < w.heap.size) _ _ l1 0 _ hr0 hc0 (Kd.V_mk hc1 (Kd.F_below (Kd.C_F (Kd.heap_int .i64) hr1) (Below.refl _ _))) h1).mono ?_
  rintro e w1 ⟨rfl, hb1⟩
  go_wp2_with fail
  refine (monzo_sides.calls k _ _ l0 _ _ l1 b1 b2 _ (TabW.below hT hb1) (Kd.C_below hr0 hb1) hc0 (Kd.C_below hr1 hb1) hc1 h2).mono ?_
  rintro e w2 ⟨rfl, hb2⟩
  have hb12 := below_then hb1 hb1.size hb2
  go_wp2_with fail
  refine (hg k b1 b2 m _ (TabW.below hT hb12) h3).mono ?_
  rintro e w3 ⟨rfl, hb3⟩
  have hb123 := below_then hb12 hb12.size hb3
  go_wp2_with fail
  refine (monzo_short.calls m r1 r2 _ h).mono ?_
  rintro e w4 ⟨rfl, q4, rfl⟩
  go_wp2
  go_ret2
  exact ⟨rfl, by repeat (first | (with_reducible first | exact hb123 | apply below_alloc | apply pw_below_drewN | apply below_drew1) | exact hb123)⟩
 ·rw [if_neg he] at h
  simp only [Option.some.injEq, Prod.mk.injEq] at h
  obtain ⟨rfl, rfl⟩ := h
  have he1 : (e != 0) = true := bne_iff_ne.mpr he
  go_enter Tryz.func111, Tryz.ntmps111
  go_wp2_with fail
  refine (monzo_Check.calls k _ _ l0 (fun k_ => k_ < w.heap.size) _ _ l1 e _ hr0 hc0 (Kd.V_mk hc1 (Kd.F_below (Kd.C_F (Kd.heap_int .i64) hr1) (Below.refl _ _))) h1).mono ?_
  rintro e' w1 ⟨rfl, hb1⟩
  go_wp2
  go_ret2
  exact ⟨rfl, by repeat (first | (with_reducible first | exact hb1 | apply below_alloc | apply pw_below_drewN | apply below_drew1) | exact hb1)⟩
def monzo_Product.f (k : Nat) (l0 l1 : List Int) : Option (ByteArray × Int) := heightOf decimal_Mul.f k l0 l1
theorem monzo_Product.mono : ∀ l0 l1 k, LeO (monzo_Product.f k l0 l1) (monzo_Product.f (k + 1) l0 l1) := heightOf.mono _ decimal_Mul.mono
theorem monzo_Product.calls (k : Nat) (A0 : Option Addr) (c0 : Nat) (l0 : List Int) (A1 : Option Addr) (c1 : Nat) (l1 : List Int) (r1 : ByteArray) (r2 : Int) (w : World) (hT : TabW w) (hr0 : Kd.C (Kd.int .i64) w A0 l0.length l0) (hc0 : l0.length ≤ c0) (hr1 : Kd.C (Kd.int .i64) w A1 l1.length l1) (hc1 : l1.length ≤ c1) (h : monzo_Product.f k l0 l1 = some (r1, r2)) :
  Calls Tryz.prog 43 #[.slice A0 l0.length c0, .slice A1 l1.length c1] w fun e w' => e = .returned (.tuple #[.string r1, .int .i64 r2]) ∧ Below w.heap.size w w' := by
 go_enter Tryz.func43, Tryz.ntmps43
 go_wp2_with fail
 refine (height_any decimal_Mul.f 113 (fun k a b r w => decimal_Mul.calls k a b r w) (enters_ Tryz.func113 rfl rfl) k _ _ l0 _ _ l1 r1 r2 _ hT hr0 hc0 hr1 hc1 h).mono ?_
 rintro e w1 ⟨rfl, hb1⟩
 go_wp2
 go_ret2
 exact ⟨rfl, by repeat (first | (with_reducible first | exact hb1 | apply below_alloc | apply pw_below_drewN | apply below_drew1) | exact hb1)⟩
theorem idx_two0 (b1 b2 : Value) (w : World) : (Instr.index 136 (.agg #[b1, b2]) (.int .i64 0)).run Tryz.prog w = .ok b1 w := by simp [Instr.index, go_sem]
theorem idx_two1 (b1 b2 : Value) (w : World) : (Instr.index 136 (.agg #[b1, b2]) (.int .i64 1)).run Tryz.prog w = .ok b2 w := by simp [Instr.index, go_sem]
attribute [local go_sem] idx_two0 idx_two1
def monzo_Fraction.f (k : Nat) (l0 l1 : List Int) : Option (ByteArray × ByteArray × Int) :=
 (monzo_Check.f k l0 l1).bind fun e => if e = 0 then (monzo_sides.f k l0 l1).bind fun b => (monzo_short.f b.1).bind fun x => if x.2 = 0 then ((monzo_short.f b.2).bind fun y => if y.2 = 0 then some (b.1, b.2, 0) else some (⟨#[]⟩, ⟨#[]⟩, y.2)) else some (⟨#[]⟩, ⟨#[]⟩, x.2) else some (⟨#[]⟩, ⟨#[]⟩, e)
theorem monzo_Fraction.mono : ∀ l0 l1 k, LeO (monzo_Fraction.f k l0 l1) (monzo_Fraction.f (k + 1) l0 l1) := by
 intro l0 l1 k r h
 unfold monzo_Fraction.f at h ⊢
 obtain ⟨e, h1, h⟩ := Option.bind_eq_some_iff.mp h
 rw [monzo_Check.mono _ _ _ _ h1, Option.bind_some]
 split at h
 ·next he =>
  rw [if_pos he]
  obtain ⟨b, h2, h⟩ := Option.bind_eq_some_iff.mp h
  rw [monzo_sides.mono _ _ _ _ h2, Option.bind_some]
  exact h
 ·next he => rw [if_neg he]; exact h
set_option maxHeartbeats 4000000 in
set_option maxRecDepth 10000 in
theorem monzo_Fraction.calls (k : Nat) (A0 : Option Addr) (c0 : Nat) (l0 : List Int) (A1 : Option Addr) (c1 : Nat) (l1 : List Int) (r1 r2 : ByteArray) (r3 : Int) (w : World) (hT : TabW w) (hr0 : Kd.C (Kd.int .i64) w A0 l0.length l0) (hc0 : l0.length ≤ c0) (hr1 : Kd.C (Kd.int .i64) w A1 l1.length l1) (hc1 : l1.length ≤ c1) (h : monzo_Fraction.f k l0 l1 = some (r1, r2, r3)) :
  Calls Tryz.prog 37 #[.slice A0 l0.length c0, .slice A1 l1.length c1] w fun e w' => e = .returned (.tuple #[.agg #[.string r1, .string r2], .int .i64 r3]) ∧ Below w.heap.size w w' := by
 unfold monzo_Fraction.f at h
 have hb0 : Below w.heap.size w (w.alloc (Obj.cells #[Value.string { data := #[] }, Value.string { data := #[] }] 38)) := below_alloc (Below.refl _ _) _
 obtain ⟨e, h1, f1⟩ := Option.bind_eq_some_iff.mp h
 by_cases he : e = 0
 ·rw [if_pos he] at f1
  subst he
  obtain ⟨⟨b1, b2⟩, h2, f2⟩ := Option.bind_eq_some_iff.mp f1
  obtain ⟨⟨x1, x2⟩, h3, f3⟩ := Option.bind_eq_some_iff.mp f2
  dsimp only at h3 f3
  by_cases hx2 : x2 = 0
  ·rw [if_pos hx2] at f3
   subst hx2
   obtain ⟨⟨y1, y2⟩, h4, f4⟩ := Option.bind_eq_some_iff.mp f3
   dsimp only at h4 f4
   by_cases hy2 : y2 = 0
   ·rw [if_pos hy2] at f4
    subst hy2
    simp only [Option.some.injEq, Prod.mk.injEq] at f4
    obtain ⟨rfl, rfl, rfl⟩ := f4
    go_enter Tryz.func37, Tryz.ntmps37
    go_wp2_with fail
    refine (monzo_Check.calls k _ _ l0 (fun k_ => k_ < w.heap.size) _ _ l1 0 _ (Kd.C_below hr0 hb0) hc0 (Kd.V_mk hc1 (Kd.F_below (Kd.C_F (Kd.heap_int .i64) hr1) hb0)) h1).mono ?_
    rintro e' w1 ⟨rfl, hb1⟩
    have hb01 := below_then hb0 hb0.size hb1
    have G1 : w1.heap[w.heap.size]? = some (Obj.cells #[Value.string ⟨#[]⟩, Value.string ⟨#[]⟩] 38) := (hb1.block w.heap.size (by simp)).trans (by show (w.heap.push _)[w.heap.size]? = _; exact Array.getElem?_push_size)
    have g0 : w1.cell? ⟨w.heap.size, 0, none⟩ = some (.string ⟨#[]⟩) := by simp [World.cell?, G1]
    have g1 : w1.cell? ⟨w.heap.size, 1, none⟩ = some (.string ⟨#[]⟩) := by simp [World.cell?, G1]
    have z0 : w1.frozen? ⟨w.heap.size, 0, none⟩ = false := by simp [World.frozen?, G1]
    have z1 : w1.frozen? ⟨w.heap.size, 1, none⟩ = false := by simp [World.frozen?, G1]
    go_wp2_with fail
    refine (monzo_sides.calls k _ _ l0 _ _ l1 b1 b2 _ (TabW.below hT hb01) (Kd.C_below hr0 hb01) hc0 (Kd.C_below hr1 hb01) hc1 h2).mono ?_
    rintro e w2 ⟨rfl, hb2⟩
    have hb12 := below_then hb01 hb01.size hb2
    have G2 : w2.heap[w.heap.size]? = some (Obj.cells #[Value.string ⟨#[]⟩, Value.string ⟨#[]⟩] 38) := (hb2.block w.heap.size (by have := hb1.size; simp at this; omega)).trans G1
    have g0' : w2.cell? ⟨w.heap.size, 0, none⟩ = some (.string ⟨#[]⟩) := by simp [World.cell?, G2]
    have g1' : w2.cell? ⟨w.heap.size, 1, none⟩ = some (.string ⟨#[]⟩) := by simp [World.cell?, G2]
    have z0' : w2.frozen? ⟨w.heap.size, 0, none⟩ = false := by simp [World.frozen?, G2]
    have z1' : w2.frozen? ⟨w.heap.size, 1, none⟩ = false := by simp [World.frozen?, G2]
    go_wp2_with fail
    refine wp_loop_rounds 3 ?_
    rw [rounds_succ]
    go_wp2_with fail
    refine (monzo_short.calls b1 x1 0 _ h3).mono ?_
    rintro e w4 ⟨rfl, q4, rfl⟩
    go_wp2_with fail
    rw [rounds_succ]
    go_wp2_with fail
    refine (monzo_short.calls b2 y1 0 _ h4).mono ?_
    rintro e w4 ⟨rfl, q5, rfl⟩
    go_wp2_with fail
    rw [rounds_succ]
    go_wp2_with fail
    refine ⟨rfl, _, ?_, rfl, ?_⟩
    ·simp [results, Tryz.f37, go_sem, g0', g1']
    ·refine Below.setCell (Below.setCell (by first | exact pw_below_drewN hb12 _ | exact hb12 | exact hb01) ?_ _) ?_ _ <;> exact Nat.le_refl _
   ·rw [if_neg hy2] at f4
    simp only [Option.some.injEq, Prod.mk.injEq] at f4
    obtain ⟨rfl, rfl, rfl⟩ := f4
    have he1 : (y2 != 0) = true := bne_iff_ne.mpr hy2
    go_enter Tryz.func37, Tryz.ntmps37
    go_wp2_with fail
    refine (monzo_Check.calls k _ _ l0 (fun k_ => k_ < w.heap.size) _ _ l1 0 _ (Kd.C_below hr0 hb0) hc0 (Kd.V_mk hc1 (Kd.F_below (Kd.C_F (Kd.heap_int .i64) hr1) hb0)) h1).mono ?_
    rintro e' w1 ⟨rfl, hb1⟩
    have hb01 := below_then hb0 hb0.size hb1
    have G1 : w1.heap[w.heap.size]? = some (Obj.cells #[Value.string ⟨#[]⟩, Value.string ⟨#[]⟩] 38) := (hb1.block w.heap.size (by simp)).trans (by show (w.heap.push _)[w.heap.size]? = _; exact Array.getElem?_push_size)
    have g0 : w1.cell? ⟨w.heap.size, 0, none⟩ = some (.string ⟨#[]⟩) := by simp [World.cell?, G1]
    have g1 : w1.cell? ⟨w.heap.size, 1, none⟩ = some (.string ⟨#[]⟩) := by simp [World.cell?, G1]
    have z0 : w1.frozen? ⟨w.heap.size, 0, none⟩ = false := by simp [World.frozen?, G1]
    have z1 : w1.frozen? ⟨w.heap.size, 1, none⟩ = false := by simp [World.frozen?, G1]
    go_wp2_with fail
    refine (monzo_sides.calls k _ _ l0 _ _ l1 b1 b2 _ (TabW.below hT hb01) (Kd.C_below hr0 hb01) hc0 (Kd.C_below hr1 hb01) hc1 h2).mono ?_
    rintro e w2 ⟨rfl, hb2⟩
    have hb12 := below_then hb01 hb01.size hb2
    have G2 : w2.heap[w.heap.size]? = some (Obj.cells #[Value.string ⟨#[]⟩, Value.string ⟨#[]⟩] 38) := (hb2.block w.heap.size (by have := hb1.size; simp at this; omega)).trans G1
    have g0' : w2.cell? ⟨w.heap.size, 0, none⟩ = some (.string ⟨#[]⟩) := by simp [World.cell?, G2]
    have g1' : w2.cell? ⟨w.heap.size, 1, none⟩ = some (.string ⟨#[]⟩) := by simp [World.cell?, G2]
    have z0' : w2.frozen? ⟨w.heap.size, 0, none⟩ = false := by simp [World.frozen?, G2]
    have z1' : w2.frozen? ⟨w.heap.size, 1, none⟩ = false := by simp [World.frozen?, G2]
    go_wp2_with fail
    refine wp_loop_rounds 3 ?_
    rw [rounds_succ]
    go_wp2_with fail
    refine (monzo_short.calls b1 x1 0 _ h3).mono ?_
    rintro e w4 ⟨rfl, q4, rfl⟩
    go_wp2_with fail
    rw [rounds_succ]
    go_wp2_with fail
    refine (monzo_short.calls b2 y1 y2 _ h4).mono ?_
    rintro e w4 ⟨rfl, q5, rfl⟩
    go_wp2_with fail
    refine ⟨rfl, _, ?_, rfl, ?_⟩
    ·simp [results, Tryz.f37, go_sem, g0', g1']
    ·refine Below.setCell (Below.setCell (by first | exact pw_below_drewN hb12 _ | exact hb12 | exact hb01) ?_ _) ?_ _ <;> exact Nat.le_refl _
  ·rw [if_neg hx2] at f3
   simp only [Option.some.injEq, Prod.mk.injEq] at f3
   obtain ⟨rfl, rfl, rfl⟩ := f3
   have he1 : (x2 != 0) = true := bne_iff_ne.mpr hx2
   go_enter Tryz.func37, Tryz.ntmps37
   go_wp2_with fail
   refine (monzo_Check.calls k _ _ l0 (fun k_ => k_ < w.heap.size) _ _ l1 0 _ (Kd.C_below hr0 hb0) hc0 (Kd.V_mk hc1 (Kd.F_below (Kd.C_F (Kd.heap_int .i64) hr1) hb0)) h1).mono ?_
   rintro e' w1 ⟨rfl, hb1⟩
   have hb01 := below_then hb0 hb0.size hb1
   have G1 : w1.heap[w.heap.size]? = some (Obj.cells #[Value.string ⟨#[]⟩, Value.string ⟨#[]⟩] 38) := (hb1.block w.heap.size (by simp)).trans (by show (w.heap.push _)[w.heap.size]? = _; exact Array.getElem?_push_size)
   have g0 : w1.cell? ⟨w.heap.size, 0, none⟩ = some (.string ⟨#[]⟩) := by simp [World.cell?, G1]
   have g1 : w1.cell? ⟨w.heap.size, 1, none⟩ = some (.string ⟨#[]⟩) := by simp [World.cell?, G1]
   have z0 : w1.frozen? ⟨w.heap.size, 0, none⟩ = false := by simp [World.frozen?, G1]
   have z1 : w1.frozen? ⟨w.heap.size, 1, none⟩ = false := by simp [World.frozen?, G1]
   go_wp2_with fail
   refine (monzo_sides.calls k _ _ l0 _ _ l1 b1 b2 _ (TabW.below hT hb01) (Kd.C_below hr0 hb01) hc0 (Kd.C_below hr1 hb01) hc1 h2).mono ?_
   rintro e w2 ⟨rfl, hb2⟩
   have hb12 := below_then hb01 hb01.size hb2
   have G2 : w2.heap[w.heap.size]? = some (Obj.cells #[Value.string ⟨#[]⟩, Value.string ⟨#[]⟩] 38) := (hb2.block w.heap.size (by have := hb1.size; simp at this; omega)).trans G1
   have g0' : w2.cell? ⟨w.heap.size, 0, none⟩ = some (.string ⟨#[]⟩) := by simp [World.cell?, G2]
   have g1' : w2.cell? ⟨w.heap.size, 1, none⟩ = some (.string ⟨#[]⟩) := by simp [World.cell?, G2]
   have z0' : w2.frozen? ⟨w.heap.size, 0, none⟩ = false := by simp [World.frozen?, G2]
   have z1' : w2.frozen? ⟨w.heap.size, 1, none⟩ = false := by simp [World.frozen?, G2]
   go_wp2_with fail
   refine wp_loop_rounds 3 ?_
   rw [rounds_succ]
   go_wp2_with fail
   refine (monzo_short.calls b1 x1 x2 _ h3).mono ?_
   rintro e w4 ⟨rfl, q4, rfl⟩
   go_wp2_with fail
   refine ⟨rfl, _, ?_, rfl, ?_⟩
   ·simp [results, Tryz.f37, go_sem, g0', g1']
   ·refine Below.setCell (Below.setCell (by first | exact pw_below_drewN hb12 _ | exact hb12 | exact hb01) ?_ _) ?_ _ <;> exact Nat.le_refl _
 ·rw [if_neg he] at f1
  simp only [Option.some.injEq, Prod.mk.injEq] at f1
  obtain ⟨rfl, rfl, rfl⟩ := f1
  have he1 : (e != 0) = true := bne_iff_ne.mpr he
  go_enter Tryz.func37, Tryz.ntmps37
  go_wp2_with fail
  refine (monzo_Check.calls k _ _ l0 (fun k_ => k_ < w.heap.size) _ _ l1 e _ (Kd.C_below hr0 hb0) hc0 (Kd.V_mk hc1 (Kd.F_below (Kd.C_F (Kd.heap_int .i64) hr1) hb0)) h1).mono ?_
  rintro e' w1 ⟨rfl, hb1⟩
  have hb01 := below_then hb0 hb0.size hb1
  have G1 : w1.heap[w.heap.size]? = some (Obj.cells #[Value.string ⟨#[]⟩, Value.string ⟨#[]⟩] 38) := (hb1.block w.heap.size (by simp)).trans (by show (w.heap.push _)[w.heap.size]? = _; exact Array.getElem?_push_size)
  have g0 : w1.cell? ⟨w.heap.size, 0, none⟩ = some (.string ⟨#[]⟩) := by simp [World.cell?, G1]
  have g1 : w1.cell? ⟨w.heap.size, 1, none⟩ = some (.string ⟨#[]⟩) := by simp [World.cell?, G1]
  have z0 : w1.frozen? ⟨w.heap.size, 0, none⟩ = false := by simp [World.frozen?, G1]
  have z1 : w1.frozen? ⟨w.heap.size, 1, none⟩ = false := by simp [World.frozen?, G1]
  go_wp2_with fail
  refine ⟨rfl, _, ?_, rfl, ?_⟩
  ·simp [results, Tryz.f37, go_sem, g0, g1]
  ·refine Below.setCell (Below.setCell (by first | exact pw_below_drewN hb12 _ | exact hb12 | exact hb01) ?_ _) ?_ _ <;> exact Nat.le_refl _
end
end Go.Proofs.YtccebdpjdpjgnaaGreatDoor.P
end
