/-
parts of the walks and of the plain laws: Pmonzosum PmonzoAdd PmonzoSub PmonzoPower PmonzoNeg PmonzoSign
-/
import Derived.Test.YtccebdpjdpjgnaaGreatDoorBE26
import Derived.Test.YtccebdpjdpjgnaaGreatDoorBE32
set_option linter.unusedVariables false
set_option linter.unusedSimpArgs false
section
namespace Go.Proofs.YtccebdpjdpjgnaaGreatDoor.P
open Go.RowKit Go.Proofs.YtccebdpjdpjgnaaGreatDoorW.PrintWords Go.Proofs.YtccebdpjdpjgnaaGreatDoorW.PrintLast Go.Proofs.YtccebdpjdpjgnaaGreatDoorW.PrintMore
attribute [local go_sem] max2_int min2_int max_two min_two max_three min_three max_four min_four
def monzo_sum.l0 : Nat → List Int → List Int → List Int → Int → List Int → Int → Int → Option (List Int × Int)
 | 0, _, _, _, _, _, _, _ => none
 | k + 1, x0, x1, x2, x3, x11, x22, x23 => if x23 < x22 then (if 0 ≤ x23 then (if x23 < (x1.length : Int) then (if x23 < (x2.length : Int) then (if x11.length < 17592186044416 then (monzo_sum.l0 k x0 x1 x2 x3 (x11 ++ [wrap64 ((rd x1 x23) + (wrap64 (x3 * (rd x2 x23))))]) x22 (wrap64 (x23 + 1))) else (none)) else (none)) else (none)) else (none)) else ((monzo_result.f k x0 x11).bind fun bt542 => (some (bt542.1, bt542.2)))
def monzo_sum.f (k : Nat) (l0 : List Int) (l1 : List Int) (l2 : List Int) (a3 : Int) : Option (List Int × Int) := (monzo_CheckAll.f k l0 (([l1, l2] : List (List Int)))).bind fun t536 => (if t536 = 0 then (monzo_sum.l0 k l0 l1 l2 a3 ([] : List Int) (l1.length : Int) 0) else (some (([] : List Int), t536)))
def monzo_Add.f (k : Nat) (l0 : List Int) (l1 : List Int) (l2 : List Int) : Option (List Int × Int) := (monzo_sum.f k l0 l1 l2 1).bind fun bt546 => (some (bt546.1, bt546.2))



def monzo_Sign.f (k : Nat) (l0 : List Int) (l1 : List Int) : Option (Int × Int) := (monzo_Check.f k l0 l1).bind fun t495 => (if t495 = 0 then ((monzo_sides.f k l0 l1).bind fun bt496 => ((decimal_Compare.f bt496.1 bt496.2).bind fun t498 => (some (t498, 0)))) else (some (0, t495)))
set_option maxHeartbeats 8000000 in
set_option maxRecDepth 100000 in
theorem monzo_Sign.calls (k : Nat) (A0 : Option Addr) (c0 : Nat) (l0 : List Int) (A1 : Option Addr) (c1 : Nat) (l1 : List Int) (r1 : Int) (r2 : Int) (w : World) (hT : TabW w) (hr0 : Kd.C (Kd.int .i64) w A0 l0.length l0) (hc0 : l0.length ≤ c0) (hr1 : Kd.C (Kd.int .i64) w A1 l1.length l1) (hc1 : l1.length ≤ c1) (h : monzo_Sign.f k l0 l1 = some (r1, r2)) :
  Calls Tryz.prog 44 #[.slice A0 l0.length c0, .slice A1 l1.length c1] w fun e w' => e = .returned (.tuple #[.int .i64 r1, .int .i64 r2]) ∧ Below w.heap.size w w' := by
 have HR0 := Aside0.mk hr0
 have HC0 := Aside0.mk hc0
 clear hr0 hc0
 have HR1 := Aside0.mk hr1
 have HC1 := Aside0.mk hc1
 clear hr1 hc1
 have HB := Aside0.mk (Below.refl w.heap.size w)
 have H : ((monzo_Check.f k l0 l1).bind fun t495 => (if t495 = 0 then ((monzo_sides.f k l0 l1).bind fun bt496 => ((decimal_Compare.f bt496.1 bt496.2).bind fun t498 => (some (t498, 0)))) else (some (0, t495)))) = some (r1, r2) := h
 clear h
 replace H := Option.bind_eq_some_iff.mp H
 obtain ⟨t495, A30, H⟩ := H
 try dsimp only at H
 have A3 := Aside0.mk A30
 clear A30
 by_cases c4 : t495 = 0
 ·rw [if_pos c4] at H
  have c4b0 : (t495 == 0) = true := beq_iff_eq.mpr c4
  have c4b1 : (t495 != 0) = false := bne_eq_false_iff_eq.mpr c4
  clear c4
  replace H := Option.bind_eq_some_iff.mp H
  obtain ⟨⟨t496, t497⟩, A50, H⟩ := H
  try dsimp only at H
  have A5 := Aside0.mk A50
  clear A50
  replace H := Option.bind_eq_some_iff.mp H
  obtain ⟨t498, A60, H⟩ := H
  try dsimp only at H
  have A6 := Aside0.mk A60
  clear A60
  simp only [Option.some.injEq, Prod.mk.injEq] at H
  obtain ⟨rfl, rfl⟩ := H
  go_enter Tryz.func44, Tryz.ntmps44
  go_wp2_with (first | ((with_reducible refine gate_callee (f := 27) rfl ?_); refine goesK (some 9) Tryz.func27 [.slice A0 l0.length c0, .slice A1 l1.length c1] rfl rfl ?_; (with_reducible refine (monzo_Check.calls k _ _ l0 (fun k_ => k_ < w.heap.size) _ _ l1 t495 _ ?side1 ?side2 ?side3 A3.out).mono ?_); (case side1 => apply_rules [HR0.out, Kd.C_alloc, Kd.C_drewN, Kd.C_drew]); (case side2 => exact HC0.out); (case side3 => exact Kd.V_mk HC1.out (Kd.F_below (Kd.C_F (Kd.heap_int .i64) HR1.out) (by apply_rules [HB.out, below_alloc, pw_below_drewN, below_drew1]))); rintro e w7 ⟨rfl, hb⟩; refine ⟨_, rfl, ?_⟩; replace HB := Aside0.mk (below_step (by apply_rules [HB.out, below_alloc, pw_below_drewN, below_drew1]) hb); (try clear hb)) | ((with_reducible refine gate_callee (f := 105) rfl ?_); refine goesK (some 15) Tryz.func105 [.slice A0 l0.length c0, .slice A1 l1.length c1] rfl rfl ?_; (with_reducible refine (monzo_sides.calls k _ _ l0 _ _ l1 t496 t497 _ ?side1 ?side2 ?side3 ?side4 ?side5 A5.out).mono ?_); (case side1 => refine TabW.below hT ?_; apply_rules [HB.out, below_alloc, pw_below_drewN, below_drew1]); (case side2 => apply_rules [(Kd.C_below HR0.out HB.out), Kd.C_alloc, Kd.C_drewN, Kd.C_drew]); (case side3 => exact HC0.out); (case side4 => apply_rules [(Kd.C_below HR1.out HB.out), Kd.C_alloc, Kd.C_drewN, Kd.C_drew]); (case side5 => exact HC1.out); rintro e w8 ⟨rfl, hb⟩; refine ⟨_, rfl, ?_⟩; replace HB := Aside0.mk (below_step (by apply_rules [HB.out, below_alloc, pw_below_drewN, below_drew1]) hb); (try clear hb)) | ((with_reducible refine gate_callee (f := 114) rfl ?_); refine goesK (some 18) Tryz.func114 [.string t496, .string t497] rfl rfl ?_; (with_reducible refine (decimal_Compare.calls t496 t497 t498 _ A6.out).mono ?_); rintro e w9 ⟨rfl, hb⟩; refine ⟨_, rfl, ?_⟩; replace HB := Aside0.mk (below_step (by apply_rules [HB.out, below_alloc, pw_below_drewN, below_drew1]) hb); (try clear hb)))
  go_ret2
  exact ⟨by first | rfl | simp [*], by apply_rules [HB.out, below_alloc, pw_below_drewN, below_drew1]⟩
 ·rw [if_neg c4] at H
  have c4b0 : (t495 == 0) = false := beq_eq_false_iff_ne.mpr c4
  have c4b1 : (t495 != 0) = true := bne_iff_ne.mpr c4
  simp only [Option.some.injEq, Prod.mk.injEq] at H
  obtain ⟨rfl, rfl⟩ := H
  go_enter Tryz.func44, Tryz.ntmps44
  go_wp2_with (first | ((with_reducible refine gate_callee (f := 27) rfl ?_); refine goesK (some 9) Tryz.func27 [.slice A0 l0.length c0, .slice A1 l1.length c1] rfl rfl ?_; (with_reducible refine (monzo_Check.calls k _ _ l0 (fun k_ => k_ < w.heap.size) _ _ l1 t495 _ ?side1 ?side2 ?side3 A3.out).mono ?_); (case side1 => apply_rules [HR0.out, Kd.C_alloc, Kd.C_drewN, Kd.C_drew]); (case side2 => exact HC0.out); (case side3 => exact Kd.V_mk HC1.out (Kd.F_below (Kd.C_F (Kd.heap_int .i64) HR1.out) (by apply_rules [HB.out, below_alloc, pw_below_drewN, below_drew1]))); rintro e w10 ⟨rfl, hb⟩; refine ⟨_, rfl, ?_⟩; replace HB := Aside0.mk (below_step (by apply_rules [HB.out, below_alloc, pw_below_drewN, below_drew1]) hb); (try clear hb)))
  go_ret2
  exact ⟨by first | rfl | simp [*], by apply_rules [HB.out, below_alloc, pw_below_drewN, below_drew1]⟩
end Go.Proofs.YtccebdpjdpjgnaaGreatDoor.P
end
