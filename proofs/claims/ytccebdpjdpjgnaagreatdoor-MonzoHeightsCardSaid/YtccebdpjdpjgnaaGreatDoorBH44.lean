/-
parts of the walks and of the plain laws: PmonzoSuperparticular Pschismalaw12odd Pschismalaw12most
-/
import Derived.Test.YtccebdpjdpjgnaaGreatDoorBH31
set_option linter.unusedVariables false
set_option linter.unusedSimpArgs false
section
namespace Go.Proofs.YtccebdpjdpjgnaaGreatDoor.P
open Go.RowKit Go.Proofs.YtccebdpjdpjgnaaGreatDoorW.PrintWords Go.Proofs.YtccebdpjdpjgnaaGreatDoorW.PrintLast Go.Proofs.YtccebdpjdpjgnaaGreatDoorW.PrintMore
attribute [local go_sem] max2_int min2_int max_two min_two max_three min_three max_four min_four
def monzo_Superparticular.f (k : Nat) (l0 : List Int) (l1 : List Int) : Option (Bool × Int) := (monzo_Check.f k l0 l1).bind fun t847 => (if t847 = 0 then ((monzo_sides.f k l0 l1).bind fun bt848 => ((decimal_Add.f k bt848.2 (⟨#[49]⟩ : ByteArray)).bind fun t850 => (some ((bt848.1.toList == t850.toList), 0)))) else (some (false, t847)))
set_option maxHeartbeats 8000000 in
set_option maxRecDepth 100000 in
theorem monzo_Superparticular.calls (k : Nat) (A0 : Option Addr) (c0 : Nat) (l0 : List Int) (A1 : Option Addr) (c1 : Nat) (l1 : List Int) (r1 : Bool) (r2 : Int) (w : World) (hT : TabW w) (hr0 : Kd.C (Kd.int .i64) w A0 l0.length l0) (hc0 : l0.length ≤ c0) (hr1 : Kd.C (Kd.int .i64) w A1 l1.length l1) (hc1 : l1.length ≤ c1) (h : monzo_Superparticular.f k l0 l1 = some (r1, r2)) :
  Calls Tryz.prog 54 #[.slice A0 l0.length c0, .slice A1 l1.length c1] w fun e w' => e = .returned (.tuple #[.bool r1, .int .i64 r2]) ∧ Below w.heap.size w w' := by
 have HR0 := Aside0.mk hr0
 have HC0 := Aside0.mk hc0
 clear hr0 hc0
 have HR1 := Aside0.mk hr1
 have HC1 := Aside0.mk hc1
 clear hr1 hc1
 have HB := Aside0.mk (Below.refl w.heap.size w)
 have H : ((monzo_Check.f k l0 l1).bind fun t847 => (if t847 = 0 then ((monzo_sides.f k l0 l1).bind fun bt848 => ((decimal_Add.f k bt848.2 (⟨#[49]⟩ : ByteArray)).bind fun t850 => (some ((bt848.1.toList == t850.toList), 0)))) else (some (false, t847)))) = some (r1, r2) := h
 clear h
 replace H := Option.bind_eq_some_iff.mp H
 obtain ⟨t847, A30, H⟩ := H
 replace H : (if t847 = 0 then ((monzo_sides.f k l0 l1).bind fun bt848 => ((decimal_Add.f k bt848.2 (⟨#[49]⟩ : ByteArray)).bind fun t850 => (some ((bt848.1.toList == t850.toList), 0)))) else (some (false, t847))) = some (r1, r2) := H
 have A3 := Aside0.mk A30
 clear A30
 by_cases c4 : t847 = 0
 ·rw [if_pos c4] at H
  have c4b0 : (t847 == 0) = true := beq_iff_eq.mpr c4
  have c4b1 : (t847 != 0) = false := bne_eq_false_iff_eq.mpr c4
  clear c4
  replace H := Option.bind_eq_some_iff.mp H
  obtain ⟨⟨t848, t849⟩, A50, H⟩ := H
  replace H : ((decimal_Add.f k t849 (⟨#[49]⟩ : ByteArray)).bind fun t850 => (some ((t848.toList == t850.toList), 0))) = some (r1, r2) := H
  have A5 := Aside0.mk A50
  clear A50
  replace H := Option.bind_eq_some_iff.mp H
  obtain ⟨t850, A60, H⟩ := H
  replace H : (some ((t848.toList == t850.toList), 0)) = some (r1, r2) := H
  have A6 := Aside0.mk A60
  clear A60
  simp only [Option.some.injEq, Prod.mk.injEq] at H
  obtain ⟨rfl, rfl⟩ := H
  go_enter Tryz.func54, Tryz.ntmps54
  go_wp2_with (first | ((with_reducible refine gate_callee (f := 27) rfl ?_); refine goesL_ (some 11) rfl rfl Tryz.func27 (by kernel_rfl) rfl #[.slice A0 l0.length c0, .slice A1 l1.length c1] rfl (by (try simp only [List.map_toArray, List.map_cons, List.map_nil]); first | done | rfl | (simp only [List.length_drop, List.length_take]; rfl)) ?_; (with_reducible refine (monzo_Check.calls k _ _ l0 (fun k_ => k_ < w.heap.size) _ _ l1 t847 _ ?side1 ?side2 ?side3 A3.out).mono ?_); (case side1 => repeat (first | exact HR0.out | (with_reducible refine Kd.C_alloc ?_ _) | (with_reducible refine Kd.C_drewN ?_ _) | (with_reducible refine Kd.C_drew ?_))); (case side2 => exact HC0.out); (case side3 => exact Kd.V_mk HC1.out (Kd.F_below (Kd.C_F (Kd.heap_int .i64) HR1.out) (by repeat (first | (with_reducible first | exact HB.out | apply below_alloc | apply pw_below_drewN | apply below_drew1) | exact HB.out)))); rintro e w7 ⟨rfl, hb⟩; refine ⟨_, rfl, ?_⟩; have n0_ := Aside0.mk (below_step (by repeat (first | (with_reducible first | exact HB.out | apply below_alloc | apply pw_below_drewN | apply below_drew1) | exact HB.out)) hb); clear HB; have HB := n0_; clear n0_; (try clear hb); (try clear hb2); (try clear hk); (try clear hi)) | ((with_reducible refine gate_callee (f := 105) rfl ?_); refine goesL_ (some 18) rfl rfl Tryz.func105 (by kernel_rfl) rfl #[.slice A0 l0.length c0, .slice A1 l1.length c1] rfl (by (try simp only [List.map_toArray, List.map_cons, List.map_nil]); first | done | rfl | (simp only [List.length_drop, List.length_take]; rfl)) ?_; (with_reducible refine (monzo_sides.calls k _ _ l0 _ _ l1 t848 t849 _ ?side1 ?side2 ?side3 ?side4 ?side5 A5.out).mono ?_); (case side1 => refine TabW.below hT ?_; repeat (first | (with_reducible first | exact HB.out | apply below_alloc | apply pw_below_drewN | apply below_drew1) | exact HB.out)); (case side2 => repeat (first | exact (Kd.C_below HR0.out HB.out) | (with_reducible refine Kd.C_alloc ?_ _) | (with_reducible refine Kd.C_drewN ?_ _) | (with_reducible refine Kd.C_drew ?_))); (case side3 => exact HC0.out); (case side4 => repeat (first | exact (Kd.C_below HR1.out HB.out) | (with_reducible refine Kd.C_alloc ?_ _) | (with_reducible refine Kd.C_drewN ?_ _) | (with_reducible refine Kd.C_drew ?_))); (case side5 => exact HC1.out); rintro e w8 ⟨rfl, hb⟩; refine ⟨_, rfl, ?_⟩; have n0_ := Aside0.mk (below_step (by repeat (first | (with_reducible first | exact HB.out | apply below_alloc | apply pw_below_drewN | apply below_drew1) | exact HB.out)) hb); clear HB; have HB := n0_; clear n0_; (try clear hb); (try clear hb2); (try clear hk); (try clear hi)) | ((with_reducible refine gate_callee (f := 121) rfl ?_); refine goesL_ (some 23) rfl rfl Tryz.func121 (by kernel_rfl) rfl #[.string t849, .string (⟨#[49]⟩ : ByteArray)] rfl (by (try simp only [List.map_toArray, List.map_cons, List.map_nil]); first | done | rfl | (simp only [List.length_drop, List.length_take]; rfl)) ?_; (with_reducible refine (decimal_Add.calls k t849 (⟨#[49]⟩ : ByteArray) t850 _ ?side1 A6.out).mono ?_); (case side1 => refine TabW.below hT ?_; repeat (first | (with_reducible first | exact HB.out | apply below_alloc | apply pw_below_drewN | apply below_drew1) | exact HB.out)); rintro e w9 ⟨rfl, hb⟩; refine ⟨_, rfl, ?_⟩; have n0_ := Aside0.mk (below_step (by repeat (first | (with_reducible first | exact HB.out | apply below_alloc | apply pw_below_drewN | apply below_drew1) | exact HB.out)) hb); clear HB; have HB := n0_; clear n0_; (try clear hb); (try clear hb2); (try clear hk); (try clear hi)))
  go_ret2
  exact ⟨by first | rfl | (simp [errW_none, errW_some] <;> rfl) | (simp [*, errW_none, errW_some] <;> rfl), by repeat (first | (with_reducible first | exact HB.out | apply below_alloc | apply pw_below_drewN | apply below_drew1) | exact HB.out)⟩
 ·rw [if_neg c4] at H
  have c4b0 : (t847 == 0) = false := beq_eq_false_iff_ne.mpr c4
  have c4b1 : (t847 != 0) = true := bne_iff_ne.mpr c4
  simp only [Option.some.injEq, Prod.mk.injEq] at H
  obtain ⟨rfl, rfl⟩ := H
  go_enter Tryz.func54, Tryz.ntmps54
  go_wp2_with (first | ((with_reducible refine gate_callee (f := 27) rfl ?_); refine goesL_ (some 11) rfl rfl Tryz.func27 (by kernel_rfl) rfl #[.slice A0 l0.length c0, .slice A1 l1.length c1] rfl (by (try simp only [List.map_toArray, List.map_cons, List.map_nil]); first | done | rfl | (simp only [List.length_drop, List.length_take]; rfl)) ?_; (with_reducible refine (monzo_Check.calls k _ _ l0 (fun k_ => k_ < w.heap.size) _ _ l1 t847 _ ?side1 ?side2 ?side3 A3.out).mono ?_); (case side1 => repeat (first | exact HR0.out | (with_reducible refine Kd.C_alloc ?_ _) | (with_reducible refine Kd.C_drewN ?_ _) | (with_reducible refine Kd.C_drew ?_))); (case side2 => exact HC0.out); (case side3 => exact Kd.V_mk HC1.out (Kd.F_below (Kd.C_F (Kd.heap_int .i64) HR1.out) (by repeat (first | (with_reducible first | exact HB.out | apply below_alloc | apply pw_below_drewN | apply below_drew1) | exact HB.out)))); rintro e w10 ⟨rfl, hb⟩; refine ⟨_, rfl, ?_⟩; have n0_ := Aside0.mk (below_step (by repeat (first | (with_reducible first | exact HB.out | apply below_alloc | apply pw_below_drewN | apply below_drew1) | exact HB.out)) hb); clear HB; have HB := n0_; clear n0_; (try clear hb); (try clear hb2); (try clear hk); (try clear hi)))
  go_ret2
  exact ⟨by first | rfl | (simp [errW_none, errW_some] <;> rfl) | (simp [*, errW_none, errW_some] <;> rfl), by repeat (first | (with_reducible first | exact HB.out | apply below_alloc | apply pw_below_drewN | apply below_drew1) | exact HB.out)⟩
def schismalaw12_odd.l0 : Nat → ByteArray → Int → Option (ByteArray)
 | 0, _, _ => none
 | k + 1, x0, x3 => if x3 < 4000 then ((whole_DivMod.f k x0 (⟨#[50]⟩ : ByteArray)).bind fun bt892 => (if bt892.2.1.toList = ([48] : List UInt8) then (if bt892.2.2 = 0 then (schismalaw12_odd.l0 k bt892.1 (wrap64 (x3 + 1))) else (some x0)) else (some x0))) else (some x0)
def schismalaw12_odd.f (k : Nat) (a0 : ByteArray) : Option (ByteArray) := schismalaw12_odd.l0 k a0 0
set_option maxHeartbeats 8000000 in
set_option maxRecDepth 100000 in
theorem schismalaw12_odd.calls (k : Nat) (a0 : ByteArray) (r : ByteArray) (w : World) (hT : TabW w) (h : schismalaw12_odd.f k a0 = some r) :
  Calls Tryz.prog 56 #[.string a0] w fun e w' => e = .returned (.string r) ∧ Below w.heap.size w w' := by
 have HB := Aside0.mk (Below.refl w.heap.size w)
 have H : (schismalaw12_odd.l0 k a0 0) = some r := h
 clear h
 have H' := Aside0.mk H
 clear H
 go_enter Tryz.func56, Tryz.ntmps56
 go_wp2
 go_loopg [0, 3] k (fun kq v0 v3 w' => ∃ (x0_1 : ByteArray) (x3_1 : Int), v0 = .string x0_1 ∧ v3 = .int .i64 x3_1 ∧ Aside0 (schismalaw12_odd.l0 kq x0_1 x3_1 = some r) ∧ Aside0 (kq ≤ k) ∧ Aside0 (Below w.heap.size w w'))
 case atStart => exact ⟨(a0), (0), (by first | rfl | (simp; done) | (simp [*]; done)), (by first | rfl | (simp; done) | (simp [*]; done)), H', ⟨Nat.le_refl _⟩, ⟨by repeat (first | (with_reducible first | exact HB.out | apply below_alloc | apply pw_below_drewN | apply below_drew1) | exact HB.out)⟩⟩
 case round =>
  clear H'
  obtain ⟨x0_1, x3_1, rfl, rfl, HA, HK1, HB⟩ := hrel
  cases gk with
  | zero => exact absurd HA.out (by simp [schismalaw12_odd.l0])
  | succ k1 =>
   have H := HA.out
   clear HA
   simp only [schismalaw12_odd.l0] at H
   by_cases c2 : x3_1 < 4000
   ·rw [if_pos c2] at H
    have c2b0 : decide (x3_1 < 4000) = true := decide_eq_true c2
    clear c2
    replace H := Option.bind_eq_some_iff.mp H
    obtain ⟨⟨t892, t893, t894⟩, A30, H⟩ := H
    replace H : (if t893.toList = ([48] : List UInt8) then (if t894 = 0 then (schismalaw12_odd.l0 k1 t892 (wrap64 (x3_1 + 1))) else (some x0_1)) else (some x0_1)) = some r := H
    have A3 := Aside0.mk A30
    clear A30
    by_cases c4 : t893.toList = ([48] : List UInt8)
    ·rw [if_pos c4] at H
     have c4b0 : (t893.toList == ([48] : List UInt8)) = true := beq_iff_eq.mpr c4
     have c4b1 : (t893.toList != ([48] : List UInt8)) = false := bne_eq_false_iff_eq.mpr c4
     clear c4
     by_cases c5 : t894 = 0
     ·rw [if_pos c5] at H
      have c5b0 : (t894 == 0) = true := beq_iff_eq.mpr c5
      have c5b1 : (t894 != 0) = false := bne_eq_false_iff_eq.mpr c5
      clear c5
      have H' := Aside0.mk H
      clear H
      go_wp2_with (first | ((with_reducible refine gate_callee (f := 122) rfl ?_); refine goesL_ (some 13) rfl rfl Tryz.func122 (by kernel_rfl) rfl #[.string x0_1, .string (⟨#[50]⟩ : ByteArray)] rfl (by (try simp only [List.map_toArray, List.map_cons, List.map_nil]); first | done | rfl | (simp only [List.length_drop, List.length_take]; rfl)) ?_; (with_reducible refine (whole_DivMod.calls k1 x0_1 (⟨#[50]⟩ : ByteArray) t892 t893 t894 _ ?side1 A3.out).mono ?_); (case side1 => refine TabW.below hT ?_; repeat (first | (with_reducible first | exact HB.out | apply below_alloc | apply pw_below_drewN | apply below_drew1) | exact HB.out)); rintro e w6 ⟨rfl, hb⟩; refine ⟨_, rfl, ?_⟩; have n0_ := Aside0.mk (below_step (by repeat (first | (with_reducible first | exact HB.out | apply below_alloc | apply pw_below_drewN | apply below_drew1) | exact HB.out)) hb); clear HB; have HB := n0_; clear n0_; (try clear hb); (try clear hb2); (try clear hk); (try clear hi)))
      go_roundg k1
      case measure => have := HK1.out; omega
      case rel => exact ⟨(t892), (wrap64 (x3_1 + 1)), (by first | rfl | (simp; done) | (simp [*]; done)), (by first | rfl | (simp; done) | (simp [*]; done)), H', ⟨by have := HK1.out; omega⟩, ⟨by repeat (first | (with_reducible first | exact HB.out | apply below_alloc | apply pw_below_drewN | apply below_drew1) | exact HB.out)⟩⟩
     ·rw [if_neg c5] at H
      have c5b0 : (t894 == 0) = false := beq_eq_false_iff_ne.mpr c5
      have c5b1 : (t894 != 0) = true := bne_iff_ne.mpr c5
      obtain rfl := Option.some.inj H
      go_wp2_with (first | ((with_reducible refine gate_callee (f := 122) rfl ?_); refine goesL_ (some 13) rfl rfl Tryz.func122 (by kernel_rfl) rfl #[.string x0_1, .string (⟨#[50]⟩ : ByteArray)] rfl (by (try simp only [List.map_toArray, List.map_cons, List.map_nil]); first | done | rfl | (simp only [List.length_drop, List.length_take]; rfl)) ?_; (with_reducible refine (whole_DivMod.calls k1 x0_1 (⟨#[50]⟩ : ByteArray) t892 t893 t894 _ ?side1 A3.out).mono ?_); (case side1 => refine TabW.below hT ?_; repeat (first | (with_reducible first | exact HB.out | apply below_alloc | apply pw_below_drewN | apply below_drew1) | exact HB.out)); rintro e w7 ⟨rfl, hb⟩; refine ⟨_, rfl, ?_⟩; have n0_ := Aside0.mk (below_step (by repeat (first | (with_reducible first | exact HB.out | apply below_alloc | apply pw_below_drewN | apply below_drew1) | exact HB.out)) hb); clear HB; have HB := n0_; clear n0_; (try clear hb); (try clear hb2); (try clear hk); (try clear hi)))
      go_ret
      exact ⟨by first | rfl | (simp [errW_none, errW_some] <;> rfl) | (simp [*, errW_none, errW_some] <;> rfl), by repeat (first | (with_reducible first | exact HB.out | apply below_alloc | apply pw_below_drewN | apply below_drew1) | exact HB.out)⟩
    ·rw [if_neg c4] at H
     have c4b0 : (t893.toList == ([48] : List UInt8)) = false := beq_eq_false_iff_ne.mpr c4
     have c4b1 : (t893.toList != ([48] : List UInt8)) = true := bne_iff_ne.mpr c4
     obtain rfl := Option.some.inj H
     go_wp2_with (first | ((with_reducible refine gate_callee (f := 122) rfl ?_); refine goesL_ (some 13) rfl rfl Tryz.func122 (by kernel_rfl) rfl #[.string x0_1, .string (⟨#[50]⟩ : ByteArray)] rfl (by (try simp only [List.map_toArray, List.map_cons, List.map_nil]); first | done | rfl | (simp only [List.length_drop, List.length_take]; rfl)) ?_; (with_reducible refine (whole_DivMod.calls k1 x0_1 (⟨#[50]⟩ : ByteArray) t892 t893 t894 _ ?side1 A3.out).mono ?_); (case side1 => refine TabW.below hT ?_; repeat (first | (with_reducible first | exact HB.out | apply below_alloc | apply pw_below_drewN | apply below_drew1) | exact HB.out)); rintro e w8 ⟨rfl, hb⟩; refine ⟨_, rfl, ?_⟩; have n0_ := Aside0.mk (below_step (by repeat (first | (with_reducible first | exact HB.out | apply below_alloc | apply pw_below_drewN | apply below_drew1) | exact HB.out)) hb); clear HB; have HB := n0_; clear n0_; (try clear hb); (try clear hb2); (try clear hk); (try clear hi)))
     go_ret
     exact ⟨by first | rfl | (simp [errW_none, errW_some] <;> rfl) | (simp [*, errW_none, errW_some] <;> rfl), by repeat (first | (with_reducible first | exact HB.out | apply below_alloc | apply pw_below_drewN | apply below_drew1) | exact HB.out)⟩
   ·rw [if_neg c2] at H
    have c2b0 : decide (x3_1 < 4000) = false := decide_eq_false c2
    clear c2
    obtain rfl := Option.some.inj H
    go_wp2
    go_ret
    exact ⟨by first | rfl | (simp [errW_none, errW_some] <;> rfl) | (simp [*, errW_none, errW_some] <;> rfl), by repeat (first | (with_reducible first | exact HB.out | apply below_alloc | apply pw_below_drewN | apply below_drew1) | exact HB.out)⟩
def schismalaw12_most.f (a0 : ByteArray) (a1 : ByteArray) : Option (ByteArray) := (whole_Compare.f a0 a1).bind fun t891 => (if t891 < 0 then (some a1) else (some a0))
set_option maxHeartbeats 8000000 in
set_option maxRecDepth 100000 in
theorem schismalaw12_most.calls (a0 : ByteArray) (a1 : ByteArray) (r : ByteArray) (w : World) (h : schismalaw12_most.f a0 a1 = some r) :
  Calls Tryz.prog 55 #[.string a0, .string a1] w fun e w' => e = .returned (.string r) ∧ Below w.heap.size w w' := by
 have HB := Aside0.mk (Below.refl w.heap.size w)
 have H : ((whole_Compare.f a0 a1).bind fun t891 => (if t891 < 0 then (some a1) else (some a0))) = some r := h
 clear h
 replace H := Option.bind_eq_some_iff.mp H
 obtain ⟨t891, A30, H⟩ := H
 replace H : (if t891 < 0 then (some a1) else (some a0)) = some r := H
 have A3 := Aside0.mk A30
 clear A30
 by_cases c4 : t891 < 0
 ·rw [if_pos c4] at H
  have c4b0 : decide (t891 < 0) = true := decide_eq_true c4
  clear c4
  obtain rfl := Option.some.inj H
  go_enter Tryz.func55, Tryz.ntmps55
  go_wp2_with (first | ((with_reducible refine gate_callee (f := 51) rfl ?_); refine goesL_ (some 7) rfl rfl Tryz.func51 (by kernel_rfl) rfl #[.string a0, .string a1] rfl (by (try simp only [List.map_toArray, List.map_cons, List.map_nil]); first | done | rfl | (simp only [List.length_drop, List.length_take]; rfl)) ?_; (with_reducible refine (whole_Compare.calls a0 a1 t891 _ A3.out).mono ?_); rintro e w5 ⟨rfl, hb⟩; refine ⟨_, rfl, ?_⟩; have n0_ := Aside0.mk (below_step (by repeat (first | (with_reducible first | exact HB.out | apply below_alloc | apply pw_below_drewN | apply below_drew1) | exact HB.out)) hb); clear HB; have HB := n0_; clear n0_; (try clear hb); (try clear hb2); (try clear hk); (try clear hi)))
  go_ret
  exact ⟨by first | rfl | (simp [errW_none, errW_some] <;> rfl) | (simp [*, errW_none, errW_some] <;> rfl), by repeat (first | (with_reducible first | exact HB.out | apply below_alloc | apply pw_below_drewN | apply below_drew1) | exact HB.out)⟩
 ·rw [if_neg c4] at H
  have c4b0 : decide (t891 < 0) = false := decide_eq_false c4
  clear c4
  obtain rfl := Option.some.inj H
  go_enter Tryz.func55, Tryz.ntmps55
  go_wp2_with (first | ((with_reducible refine gate_callee (f := 51) rfl ?_); refine goesL_ (some 7) rfl rfl Tryz.func51 (by kernel_rfl) rfl #[.string a0, .string a1] rfl (by (try simp only [List.map_toArray, List.map_cons, List.map_nil]); first | done | rfl | (simp only [List.length_drop, List.length_take]; rfl)) ?_; (with_reducible refine (whole_Compare.calls a0 a1 t891 _ A3.out).mono ?_); rintro e w6 ⟨rfl, hb⟩; refine ⟨_, rfl, ?_⟩; have n0_ := Aside0.mk (below_step (by repeat (first | (with_reducible first | exact HB.out | apply below_alloc | apply pw_below_drewN | apply below_drew1) | exact HB.out)) hb); clear HB; have HB := n0_; clear n0_; (try clear hb); (try clear hb2); (try clear hk); (try clear hi)))
  go_ret
  exact ⟨by first | rfl | (simp [errW_none, errW_some] <;> rfl) | (simp [*, errW_none, errW_some] <;> rfl), by repeat (first | (with_reducible first | exact HB.out | apply below_alloc | apply pw_below_drewN | apply below_drew1) | exact HB.out)⟩
end Go.Proofs.YtccebdpjdpjgnaaGreatDoor.P
end
