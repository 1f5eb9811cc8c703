/-
parts of the walks and of the plain laws: Pmonzoshort PmonzoCompare Pmonzogreater ExtMon PmonzoText Pschismalaw12Value
-/
import Derived.LoopN
import Derived.Test.YtccebdpjdpjgnaaGreatDoorMP29
set_option linter.unusedVariables false
set_option linter.unusedSimpArgs false
section
namespace Go.Proofs.YtccebdpjdpjgnaaGreatDoor.P
open Go.RowKit Go.Proofs.YtccebdpjdpjgnaaGreatDoorW.PrintWords Go.Proofs.YtccebdpjdpjgnaaGreatDoorW.PrintLast Go.Proofs.YtccebdpjdpjgnaaGreatDoorW.PrintMore
attribute [local go_sem] max2_int min2_int max_two min_two max_three min_three max_four min_four
def monzo_short.f (a0 : ByteArray) : Option (ByteArray × Int) := (decimal_Digits.f a0).bind fun t1715 => (if t1715 > 400 then (some ((⟨#[]⟩ : ByteArray), 4)) else (some (a0, 0)))
set_option maxHeartbeats 8000000 in
set_option maxRecDepth 100000 in
theorem monzo_short.calls (a0 : ByteArray) (r1 : ByteArray) (r2 : Int) (w : World) (h : monzo_short.f a0 = some (r1, r2)) :
  Calls Tryz.prog 106 #[.string a0] w fun e w' => e = .returned (.tuple #[.string r1, .int .i64 r2]) ∧ Drawn0 w w' := by
 have H : ((decimal_Digits.f a0).bind fun t1715 => (if t1715 > 400 then (some ((⟨#[]⟩ : ByteArray), 4)) else (some (a0, 0)))) = some (r1, r2) := h
 clear h
 replace H := Option.bind_eq_some_iff.mp H
 obtain ⟨t1715, A20, H⟩ := H
 try dsimp only at H
 have A2 := Aside0.mk A20
 clear A20
 by_cases c3 : t1715 > 400
 ·rw [if_pos c3] at H
  have c3b0 : decide (400 < t1715) = true := decide_eq_true c3
  clear c3
  simp only [Option.some.injEq, Prod.mk.injEq] at H
  obtain ⟨rfl, rfl⟩ := H
  go_enter Tryz.func106, Tryz.ntmps106
  go_wp2_with (first | ((with_reducible refine gate_callee (f := 170) rfl ?_); refine goesK (some 5) Tryz.func170 [.string a0] rfl rfl ?_; (with_reducible refine (decimal_Digits.calls a0 t1715 _ A2.out).mono ?_); rintro e w' ⟨rfl, ⟨nd, rfl⟩⟩; refine ⟨_, rfl, ?_⟩))
  go_ret2
  exact ⟨by first | rfl | (simp; done) | (simp [*]; done), by repeat (first | exact Drawn0.refl _ | apply Drawn0.step)⟩
 ·rw [if_neg c3] at H
  have c3b0 : decide (400 < t1715) = false := decide_eq_false c3
  clear c3
  simp only [Option.some.injEq, Prod.mk.injEq] at H
  obtain ⟨rfl, rfl⟩ := H
  go_enter Tryz.func106, Tryz.ntmps106
  go_wp2_with (first | ((with_reducible refine gate_callee (f := 170) rfl ?_); refine goesK (some 5) Tryz.func170 [.string a0] rfl rfl ?_; (with_reducible refine (decimal_Digits.calls a0 t1715 _ A2.out).mono ?_); rintro e w' ⟨rfl, ⟨nd, rfl⟩⟩; refine ⟨_, rfl, ?_⟩))
  go_ret2
  exact ⟨by first | rfl | (simp; done) | (simp [*]; done), by repeat (first | exact Drawn0.refl _ | apply Drawn0.step)⟩
def monzo_Compare.f (k : Nat) (l0 : List Int) (l1 : List Int) (l2 : List Int) : Option (Int × Int) := (monzo_CheckAll.f k l0 (([l1, l2] : List (List Int)))).bind fun t458 => (if t458 = 0 then ((monzo_sides.f k l0 l1).bind fun bt459 => ((monzo_sides.f k l0 l2).bind fun bt461 => ((decimal_Mul.f k bt459.1 bt461.2).bind fun t463 => ((decimal_Mul.f k bt461.1 bt459.2).bind fun t464 => ((decimal_Compare.f t463 t464).bind fun t465 => (some (t465, 0))))))) else (some (0, t458)))
set_option maxHeartbeats 8000000 in
set_option maxRecDepth 100000 in
theorem monzo_Compare.calls (k : Nat) (A0 : Option Addr) (c0 : Nat) (l0 : List Int) (P1_ : Nat → Prop) (A1 : Option Addr) (c1 : Nat) (l1 : List Int) (P2_ : Nat → Prop) (A2 : Option Addr) (c2 : Nat) (l2 : List Int) (r1 : Int) (r2 : Int) (w : World) (hT : TabW w) (hr0 : Kd.C (Kd.int .i64) w A0 l0.length l0) (hc0 : l0.length ≤ c0) (hs1 : Kd.V (Kd.int .i64) 3 w w.heap.size (fun k_ => P1_ k_) (.slice A1 l1.length c1) l1) (hs2 : Kd.V (Kd.int .i64) 3 w w.heap.size (fun k_ => P2_ k_) (.slice A2 l2.length c2) l2) (h : monzo_Compare.f k l0 l1 l2 = some (r1, r2)) :
  Calls Tryz.prog 45 #[.slice A0 l0.length c0, .slice A1 l1.length c1, .slice A2 l2.length c2] w fun e w' => e = .returned (.tuple #[.int .i64 r1, .int .i64 r2]) ∧ Below w.heap.size w w' := by
 have HR0 := Aside0.mk hr0
 have HC0 := Aside0.mk hc0
 clear hr0 hc0
 have HO1 := Aside0.mk (show Kd.V (Kd.int .i64) 3 w w.heap.size (fun k_ => ((P1_ k_ ∨ P2_ k_) ∨ w.heap.size ≤ k_)) (.slice A1 l1.length c1) l1 from Kd.V_mono hs1 (fun k_ hk => .inl (.inl hk)))
 have HO2 := Aside0.mk (show Kd.V (Kd.int .i64) 3 w w.heap.size (fun k_ => ((P1_ k_ ∨ P2_ k_) ∨ w.heap.size ≤ k_)) (.slice A2 l2.length c2) l2 from Kd.V_mono hs2 (fun k_ hk => .inl (.inr hk)))
 have HB := Aside0.mk (Below.refl w.heap.size w)
 have H : ((monzo_CheckAll.f k l0 (([l1, l2] : List (List Int)))).bind fun t458 => (if t458 = 0 then ((monzo_sides.f k l0 l1).bind fun bt459 => ((monzo_sides.f k l0 l2).bind fun bt461 => ((decimal_Mul.f k bt459.1 bt461.2).bind fun t463 => ((decimal_Mul.f k bt461.1 bt459.2).bind fun t464 => ((decimal_Compare.f t463 t464).bind fun t465 => (some (t465, 0))))))) else (some (0, t458)))) = some (r1, r2) := h
 clear h
 obtain ⟨y455, hy455⟩ : ∃ y_ : List (List Int), y_ = (([l1, l2] : List (List Int))) := ⟨_, rfl⟩
 replace H : ((monzo_CheckAll.f k l0 y455).bind fun t458 => (if t458 = 0 then ((monzo_sides.f k l0 l1).bind fun bt459 => ((monzo_sides.f k l0 l2).bind fun bt461 => ((decimal_Mul.f k bt459.1 bt461.2).bind fun t463 => ((decimal_Mul.f k bt461.1 bt459.2).bind fun t464 => ((decimal_Compare.f t463 t464).bind fun t465 => (some (t465, 0))))))) else (some (0, t458)))) = some (r1, r2) := by first | (rw [hy455]; with_reducible exact H) | (have H2_ := (Option.bind_some _ _).symm.trans H; rw [hy455]; with_reducible exact H2_) | (have H2_ := (Option.bind_some _ _).symm.trans H; with_reducible exact H2_) | with_reducible exact H | (rw [hy455]; exact H) | exact H
 have Ny455 := Aside0.mk hy455
 clear hy455
 replace H := Option.bind_eq_some_iff.mp H
 obtain ⟨t458, A40, H⟩ := H
 try dsimp only at H
 have A4 := Aside0.mk A40
 clear A40
 by_cases c5 : t458 = 0
 ·rw [if_pos c5] at H
  have c5b0 : (t458 == 0) = true := beq_iff_eq.mpr c5
  have c5b1 : (t458 != 0) = false := bne_eq_false_iff_eq.mpr c5
  clear c5
  replace H := Option.bind_eq_some_iff.mp H
  obtain ⟨⟨t459, t460⟩, A60, H⟩ := H
  try dsimp only at H
  have A6 := Aside0.mk A60
  clear A60
  replace H := Option.bind_eq_some_iff.mp H
  obtain ⟨⟨t461, t462⟩, A70, H⟩ := H
  try dsimp only at H
  have A7 := Aside0.mk A70
  clear A70
  replace H := Option.bind_eq_some_iff.mp H
  obtain ⟨t463, A80, H⟩ := H
  try dsimp only at H
  have A8 := Aside0.mk A80
  clear A80
  replace H := Option.bind_eq_some_iff.mp H
  obtain ⟨t464, A90, H⟩ := H
  try dsimp only at H
  have A9 := Aside0.mk A90
  clear A90
  replace H := Option.bind_eq_some_iff.mp H
  obtain ⟨t465, A100, H⟩ := H
  try dsimp only at H
  have A10 := Aside0.mk A100
  clear A100
  simp only [Option.some.injEq, Prod.mk.injEq] at H
  obtain ⟨rfl, rfl⟩ := H
  go_enter Tryz.func45, Tryz.ntmps45
  go_wp2_with (first | ((with_reducible refine gate_dst (N := 16) rfl ?_); refine Kd.N_lit (Kd.slice 3 (Kd.int .i64)) _ 24 ?hg (N' := 16) ?hd (xs := ([l1, l2] : List (List Int))) (inner := [.slice A1 l1.length c1, .slice A2 l2.length c2]) (ok := (fun k_ => ((P1_ k_ ∨ P2_ k_) ∨ w.heap.size ≤ k_))) (okp := (fun k_ => ((P1_ k_ ∨ P2_ k_) ∨ w.heap.size ≤ k_))) ?hr ?hp (fun _ hk => hk) ((show ∀ k_, w.heap.size ≤ k_ → (fun k_ => ((P1_ k_ ∨ P2_ k_) ∨ w.heap.size ≤ k_)) k_ from fun k_ hk => (.inr (Nat.le_trans (below_size (by apply_rules [HB.out, below_alloc, pw_below_drewN, below_drew1])) hk))) _ (Nat.le_refl _)) (Below.refl _ _) (Nat.le_refl _) (by simp) ?_; (case hd => rfl); (case hg => rfl); (case hr => go_simp; try rfl); (case hp => exact (Reps.one (show Kd.FK (Kd.slice 3 (Kd.int .i64)) _ _ l1 [.slice A1 l1.length c1] from (Kd.FK_slice_mk (Kd.V_reads' (Kd.V_mono (ok' := (fun k_ => ((P1_ k_ ∨ P2_ k_) ∨ w.heap.size ≤ k_))) (HO1.out) (fun k_ hk => hk))).2.1 (Kd.V_F (Kd.V_mono (ok' := (fun k_ => ((P1_ k_ ∨ P2_ k_) ∨ w.heap.size ≤ k_))) (HO1.out) (fun k_ hk => hk))))) (Reps.one (show Kd.FK (Kd.slice 3 (Kd.int .i64)) _ _ l2 [.slice A2 l2.length c2] from (Kd.FK_slice_mk (Kd.V_reads' (Kd.V_mono (ok' := (fun k_ => ((P1_ k_ ∨ P2_ k_) ∨ w.heap.size ≤ k_))) (HO2.out) (fun k_ hk => hk))).2.1 (Kd.V_F (Kd.V_mono (ok' := (fun k_ => ((P1_ k_ ∨ P2_ k_) ∨ w.heap.size ≤ k_))) (HO2.out) (fun k_ hk => hk))))) (Reps.none _ _)))); intro v456 w11 ho12 hb hg_ hnew_; clear hg_ hnew_; (first | rw [← Ny455.out] at ho12 | (simp only [Int.reduceToNat] at ho12; rw [← Ny455.out] at ho12)); replace HO1 := Aside0.mk (Kd.V_elder' (by (with_reducible repeat (first | apply Kd.V_alloc | apply Kd.V_drewN | apply Kd.V_drew)); exact HO1.out) (Kd.N_base ho12) hb); replace HO2 := Aside0.mk (Kd.V_elder' (by (with_reducible repeat (first | apply Kd.V_alloc | apply Kd.V_drewN | apply Kd.V_drew)); exact HO2.out) (Kd.N_base ho12) hb); have HO457 := Aside0.mk (Kd.N_lower ho12 (below_size (by apply_rules [HB.out, below_alloc, pw_below_drewN, below_drew1]))); replace HB := Aside0.mk (below_step (by apply_rules [HB.out, below_alloc, pw_below_drewN, below_drew1]) hb); clear hb ho12; obtain ⟨Ao13, co13, eo13⟩ := Kd.N_slice HO457.out; subst eo13) | ((with_reducible refine gate_callee (f := 28) rfl ?_); refine goesK (some 17) Tryz.func28 [.slice A0 l0.length c0, .slice Ao13 y455.length co13] rfl rfl ?_; (with_reducible refine (monzo_CheckAll.calls k _ _ l0 _ _ y455 t458 _ ?side1 ?side2 ?side3 ?side4 A4.out).mono ?_); (case side1 => repeat (first | exact (Kd.C_below HR0.out HB.out) | (with_reducible refine Kd.C_alloc ?_ _) | (with_reducible refine Kd.C_drewN ?_ _) | (with_reducible refine Kd.C_drew ?_))); (case side2 => exact HC0.out); (case side3 => repeat (first | exact (Kd.N_reads' HO457.out).2.2 | (with_reducible refine Kd.C_alloc ?_ _) | (with_reducible refine Kd.C_drewN ?_ _) | (with_reducible refine Kd.C_drew ?_))); (case side4 => exact (Kd.N_reads' HO457.out).2.1); rintro e w' ⟨rfl, ⟨nd, rfl⟩⟩; refine ⟨_, rfl, ?_⟩) | ((with_reducible refine gate_callee (f := 105) rfl ?_); refine goesK (some 24) Tryz.func105 [.slice A0 l0.length c0, .slice A1 l1.length c1] rfl rfl ?_; (with_reducible refine (monzo_sides.calls k _ _ l0 _ _ l1 t459 t460 _ ?side1 ?side2 ?side3 ?side4 ?side5 A6.out).mono ?_); (case side1 => refine TabW.below hT ?_; apply_rules [HB.out, below_alloc, pw_below_drewN, below_drew1]); (case side2 => repeat (first | exact (Kd.C_below HR0.out (by apply_rules [HB.out, below_alloc, pw_below_drewN, below_drew1])) | (with_reducible refine Kd.C_alloc ?_ _) | (with_reducible refine Kd.C_drewN ?_ _) | (with_reducible refine Kd.C_drew ?_))); (case side3 => exact HC0.out); (case side4 => repeat (first | exact (Kd.V_reads' HO1.out).2.2 | (with_reducible refine Kd.C_alloc ?_ _) | (with_reducible refine Kd.C_drewN ?_ _) | (with_reducible refine Kd.C_drew ?_))); (case side5 => exact (Kd.V_reads' HO1.out).2.1); rintro e w14 ⟨rfl, hb⟩; refine ⟨_, rfl, ?_⟩; replace HO1 := Aside0.mk (Kd.V_below (by (with_reducible repeat (first | apply Kd.V_alloc | apply Kd.V_drewN | apply Kd.V_drew)); exact HO1.out) hb); replace HO2 := Aside0.mk (Kd.V_below (by (with_reducible repeat (first | apply Kd.V_alloc | apply Kd.V_drewN | apply Kd.V_drew)); exact HO2.out) hb); replace HO457 := Aside0.mk (Kd.N_below (by (with_reducible repeat (first | apply Kd.N_alloc | apply Kd.N_drewN | apply Kd.N_drew)); exact HO457.out) hb); replace HB := Aside0.mk (below_step (by apply_rules [HB.out, below_alloc, pw_below_drewN, below_drew1]) hb); (try clear hb)) | ((with_reducible refine gate_callee (f := 105) rfl ?_); refine goesK (some 30) Tryz.func105 [.slice A0 l0.length c0, .slice A2 l2.length c2] rfl rfl ?_; (with_reducible refine (monzo_sides.calls k _ _ l0 _ _ l2 t461 t462 _ ?side1 ?side2 ?side3 ?side4 ?side5 A7.out).mono ?_); (case side1 => refine TabW.below hT ?_; apply_rules [HB.out, below_alloc, pw_below_drewN, below_drew1]); (case side2 => repeat (first | exact (Kd.C_below HR0.out HB.out) | (with_reducible refine Kd.C_alloc ?_ _) | (with_reducible refine Kd.C_drewN ?_ _) | (with_reducible refine Kd.C_drew ?_))); (case side3 => exact HC0.out); (case side4 => repeat (first | exact (Kd.V_reads' HO2.out).2.2 | (with_reducible refine Kd.C_alloc ?_ _) | (with_reducible refine Kd.C_drewN ?_ _) | (with_reducible refine Kd.C_drew ?_))); (case side5 => exact (Kd.V_reads' HO2.out).2.1); rintro e w15 ⟨rfl, hb⟩; refine ⟨_, rfl, ?_⟩; replace HO1 := Aside0.mk (Kd.V_below (by (with_reducible repeat (first | apply Kd.V_alloc | apply Kd.V_drewN | apply Kd.V_drew)); exact HO1.out) hb); replace HO2 := Aside0.mk (Kd.V_below (by (with_reducible repeat (first | apply Kd.V_alloc | apply Kd.V_drewN | apply Kd.V_drew)); exact HO2.out) hb); replace HO457 := Aside0.mk (Kd.N_below (by (with_reducible repeat (first | apply Kd.N_alloc | apply Kd.N_drewN | apply Kd.N_drew)); exact HO457.out) hb); replace HB := Aside0.mk (below_step (by apply_rules [HB.out, below_alloc, pw_below_drewN, below_drew1]) hb); (try clear hb)) | ((with_reducible refine gate_callee (f := 113) rfl ?_); refine goesK (some 35) Tryz.func113 [.string t459, .string t462] rfl rfl ?_; (with_reducible refine (decimal_Mul.calls k t459 t462 t463 _ ?side1 A8.out).mono ?_); (case side1 => refine TabW.below hT ?_; apply_rules [HB.out, below_alloc, pw_below_drewN, below_drew1]); rintro e w16 ⟨rfl, hb⟩; refine ⟨_, rfl, ?_⟩; replace HO1 := Aside0.mk (Kd.V_below (by (with_reducible repeat (first | apply Kd.V_alloc | apply Kd.V_drewN | apply Kd.V_drew)); exact HO1.out) hb); replace HO2 := Aside0.mk (Kd.V_below (by (with_reducible repeat (first | apply Kd.V_alloc | apply Kd.V_drewN | apply Kd.V_drew)); exact HO2.out) hb); replace HO457 := Aside0.mk (Kd.N_below (by (with_reducible repeat (first | apply Kd.N_alloc | apply Kd.N_drewN | apply Kd.N_drew)); exact HO457.out) hb); replace HB := Aside0.mk (below_step (by apply_rules [HB.out, below_alloc, pw_below_drewN, below_drew1]) hb); (try clear hb)) | ((with_reducible refine gate_callee (f := 113) rfl ?_); refine goesK (some 38) Tryz.func113 [.string t461, .string t460] rfl rfl ?_; (with_reducible refine (decimal_Mul.calls k t461 t460 t464 _ ?side1 A9.out).mono ?_); (case side1 => refine TabW.below hT ?_; apply_rules [HB.out, below_alloc, pw_below_drewN, below_drew1]); rintro e w17 ⟨rfl, hb⟩; refine ⟨_, rfl, ?_⟩; replace HO1 := Aside0.mk (Kd.V_below (by (with_reducible repeat (first | apply Kd.V_alloc | apply Kd.V_drewN | apply Kd.V_drew)); exact HO1.out) hb); replace HO2 := Aside0.mk (Kd.V_below (by (with_reducible repeat (first | apply Kd.V_alloc | apply Kd.V_drewN | apply Kd.V_drew)); exact HO2.out) hb); replace HO457 := Aside0.mk (Kd.N_below (by (with_reducible repeat (first | apply Kd.N_alloc | apply Kd.N_drewN | apply Kd.N_drew)); exact HO457.out) hb); replace HB := Aside0.mk (below_step (by apply_rules [HB.out, below_alloc, pw_below_drewN, below_drew1]) hb); (try clear hb)) | ((with_reducible refine gate_callee (f := 114) rfl ?_); refine goesK (some 39) Tryz.func114 [.string t463, .string t464] rfl rfl ?_; (with_reducible refine (decimal_Compare.calls t463 t464 t465 _ A10.out).mono ?_); rintro e w18 ⟨rfl, hb⟩; refine ⟨_, rfl, ?_⟩; replace HO1 := Aside0.mk (Kd.V_below (by (with_reducible repeat (first | apply Kd.V_alloc | apply Kd.V_drewN | apply Kd.V_drew)); exact HO1.out) hb); replace HO2 := Aside0.mk (Kd.V_below (by (with_reducible repeat (first | apply Kd.V_alloc | apply Kd.V_drewN | apply Kd.V_drew)); exact HO2.out) hb); replace HO457 := Aside0.mk (Kd.N_below (by (with_reducible repeat (first | apply Kd.N_alloc | apply Kd.N_drewN | apply Kd.N_drew)); exact HO457.out) hb); replace HB := Aside0.mk (below_step (by apply_rules [HB.out, below_alloc, pw_below_drewN, below_drew1]) hb); (try clear hb)))
  go_ret2
  exact ⟨by first | rfl | simp [*], by apply_rules [HB.out, below_alloc, pw_below_drewN, below_drew1]⟩
 ·rw [if_neg c5] at H
  have c5b0 : (t458 == 0) = false := beq_eq_false_iff_ne.mpr c5
  have c5b1 : (t458 != 0) = true := bne_iff_ne.mpr c5
  simp only [Option.some.injEq, Prod.mk.injEq] at H
  obtain ⟨rfl, rfl⟩ := H
  go_enter Tryz.func45, Tryz.ntmps45
  go_wp2_with (first | ((with_reducible refine gate_dst (N := 16) rfl ?_); refine Kd.N_lit (Kd.slice 3 (Kd.int .i64)) _ 24 ?hg (N' := 16) ?hd (xs := ([l1, l2] : List (List Int))) (inner := [.slice A1 l1.length c1, .slice A2 l2.length c2]) (ok := (fun k_ => ((P1_ k_ ∨ P2_ k_) ∨ w.heap.size ≤ k_))) (okp := (fun k_ => ((P1_ k_ ∨ P2_ k_) ∨ w.heap.size ≤ k_))) ?hr ?hp (fun _ hk => hk) ((show ∀ k_, w.heap.size ≤ k_ → (fun k_ => ((P1_ k_ ∨ P2_ k_) ∨ w.heap.size ≤ k_)) k_ from fun k_ hk => (.inr (Nat.le_trans (below_size (by apply_rules [HB.out, below_alloc, pw_below_drewN, below_drew1])) hk))) _ (Nat.le_refl _)) (Below.refl _ _) (Nat.le_refl _) (by simp) ?_; (case hd => rfl); (case hg => rfl); (case hr => go_simp; try rfl); (case hp => exact (Reps.one (show Kd.FK (Kd.slice 3 (Kd.int .i64)) _ _ l1 [.slice A1 l1.length c1] from (Kd.FK_slice_mk (Kd.V_reads' (Kd.V_mono (ok' := (fun k_ => ((P1_ k_ ∨ P2_ k_) ∨ w.heap.size ≤ k_))) (HO1.out) (fun k_ hk => hk))).2.1 (Kd.V_F (Kd.V_mono (ok' := (fun k_ => ((P1_ k_ ∨ P2_ k_) ∨ w.heap.size ≤ k_))) (HO1.out) (fun k_ hk => hk))))) (Reps.one (show Kd.FK (Kd.slice 3 (Kd.int .i64)) _ _ l2 [.slice A2 l2.length c2] from (Kd.FK_slice_mk (Kd.V_reads' (Kd.V_mono (ok' := (fun k_ => ((P1_ k_ ∨ P2_ k_) ∨ w.heap.size ≤ k_))) (HO2.out) (fun k_ hk => hk))).2.1 (Kd.V_F (Kd.V_mono (ok' := (fun k_ => ((P1_ k_ ∨ P2_ k_) ∨ w.heap.size ≤ k_))) (HO2.out) (fun k_ hk => hk))))) (Reps.none _ _)))); intro v456 w19 ho20 hb hg_ hnew_; clear hg_ hnew_; (first | rw [← Ny455.out] at ho20 | (simp only [Int.reduceToNat] at ho20; rw [← Ny455.out] at ho20)); replace HO1 := Aside0.mk (Kd.V_elder' (by (with_reducible repeat (first | apply Kd.V_alloc | apply Kd.V_drewN | apply Kd.V_drew)); exact HO1.out) (Kd.N_base ho20) hb); replace HO2 := Aside0.mk (Kd.V_elder' (by (with_reducible repeat (first | apply Kd.V_alloc | apply Kd.V_drewN | apply Kd.V_drew)); exact HO2.out) (Kd.N_base ho20) hb); have HO457 := Aside0.mk (Kd.N_lower ho20 (below_size (by apply_rules [HB.out, below_alloc, pw_below_drewN, below_drew1]))); replace HB := Aside0.mk (below_step (by apply_rules [HB.out, below_alloc, pw_below_drewN, below_drew1]) hb); clear hb ho20; obtain ⟨Ao21, co21, eo21⟩ := Kd.N_slice HO457.out; subst eo21) | ((with_reducible refine gate_callee (f := 28) rfl ?_); refine goesK (some 17) Tryz.func28 [.slice A0 l0.length c0, .slice Ao21 y455.length co21] rfl rfl ?_; (with_reducible refine (monzo_CheckAll.calls k _ _ l0 _ _ y455 t458 _ ?side1 ?side2 ?side3 ?side4 A4.out).mono ?_); (case side1 => repeat (first | exact (Kd.C_below HR0.out HB.out) | (with_reducible refine Kd.C_alloc ?_ _) | (with_reducible refine Kd.C_drewN ?_ _) | (with_reducible refine Kd.C_drew ?_))); (case side2 => exact HC0.out); (case side3 => repeat (first | exact (Kd.N_reads' HO457.out).2.2 | (with_reducible refine Kd.C_alloc ?_ _) | (with_reducible refine Kd.C_drewN ?_ _) | (with_reducible refine Kd.C_drew ?_))); (case side4 => exact (Kd.N_reads' HO457.out).2.1); rintro e w' ⟨rfl, ⟨nd, rfl⟩⟩; refine ⟨_, rfl, ?_⟩))
  go_ret2
  exact ⟨by first | rfl | simp [*], by apply_rules [HB.out, below_alloc, pw_below_drewN, below_drew1]⟩

end Go.Proofs.YtccebdpjdpjgnaaGreatDoor.P
end
section
namespace Go.Proofs.YtccebdpjdpjgnaaGreatDoor.P
open Go.RowKit Go.Proofs.YtccebdpjdpjgnaaGreatDoorW.PrintWords Go.Proofs.YtccebdpjdpjgnaaGreatDoorW.PrintLast Go.Proofs.YtccebdpjdpjgnaaGreatDoorW.PrintMore
section
def heightOf (F : Nat → ByteArray → ByteArray → Option ByteArray) (k : Nat) (l0 l1 : List Int) : Option (ByteArray × Int) :=
 (monzo_Check.f k l0 l1).bind fun e => if e = 0 then (monzo_sides.f k l0 l1).bind fun b => (F k b.1 b.2).bind fun m => monzo_short.f m else some (⟨#[]⟩, e)
set_option maxHeartbeats 1000000 in
theorem height_any (F : Nat → ByteArray → ByteArray → Option ByteArray) (g : Nat) (hg : ∀ (k : Nat) (a b r : ByteArray) (w : World), TabW w → F k a b = some r → Calls Tryz.prog g #[.string a, .string b] w fun e w' => e = .returned (.string r) ∧ Below w.heap.size w w') (eg : ∀ args w, (callFunc g args).run Tryz.prog w = .ok (.enter g args) w)
  (k : Nat) (A0 : Option Addr) (c0 : Nat) (l0 : List Int) (A1 : Option Addr) (c1 : Nat) (l1 : List Int) (r1 : ByteArray) (r2 : Int) (w : World) (hT : TabW w) (hr0 : Kd.C (Kd.int .i64) w A0 l0.length l0) (hc0 : l0.length ≤ c0) (hr1 : Kd.C (Kd.int .i64) w A1 l1.length l1) (hc1 : l1.length ≤ c1) (h : heightOf F k l0 l1 = some (r1, r2)) :
  Calls Tryz.prog 111 #[.slice A0 l0.length c0, .slice A1 l1.length c1, .func (.func g) #[] #[]] w fun e w' => e = .returned (.tuple #[.string r1, .int .i64 r2]) ∧ Below w.heap.size w w' := by
 unfold heightOf at h
 obtain ⟨e, h1, h⟩ := Option.bind_eq_some_iff.mp h
 by_cases he : e = 0
 ·rw [if_pos he] at h
  obtain ⟨⟨b1, b2⟩, h2, h⟩ := Option.bind_eq_some_iff.mp h
  obtain ⟨m, h3, h⟩ := Option.bind_eq_some_iff.mp h
  subst he
  go_enter Tryz.func111, Tryz.ntmps111
  go_wp2_with fail
  refine (monzo_Check.calls k _ _ l0 (fun k_ => k_ < w.heap.size) _ _ l1 0 _ hr0 hc0 (Kd.V_mk hc1 (Kd.F_below (Kd.C_F (Kd.heap_int .i64) hr1) (Below.refl _ _))) h1).mono ?_
  rintro e w1 ⟨rfl, hb1⟩
  go_wp2_with fail
  refine (monzo_sides.calls k _ _ l0 _ _ l1 b1 b2 _ (TabW.below hT hb1) (Kd.C_below hr0 hb1) hc0 (Kd.C_below hr1 hb1) hc1 h2).mono ?_
  rintro e w2 ⟨rfl, hb2⟩
  have hb12 := below_then hb1 hb1.size hb2
  go_wp2_with fail
  refine (hg k b1 b2 m _ (TabW.below hT hb12) h3).mono ?_
  rintro e w3 ⟨rfl, hb3⟩
  have hb123 := below_then hb12 hb12.size hb3
  go_wp2_with fail
  refine (monzo_short.calls m r1 r2 _ h).mono ?_
  rintro e w4 ⟨rfl, q4, rfl⟩
  go_wp2
  go_ret2
  exact ⟨rfl, by repeat (first | (with_reducible first | exact hb123 | apply below_alloc | apply pw_below_drewN | apply below_drew1) | exact hb123)⟩
 ·rw [if_neg he] at h
  simp only [Option.some.injEq, Prod.mk.injEq] at h
  obtain ⟨rfl, rfl⟩ := h
  have he1 : (e != 0) = true := bne_iff_ne.mpr he
  go_enter Tryz.func111, Tryz.ntmps111
  go_wp2_with fail
  refine (monzo_Check.calls k _ _ l0 (fun k_ => k_ < w.heap.size) _ _ l1 e _ hr0 hc0 (Kd.V_mk hc1 (Kd.F_below (Kd.C_F (Kd.heap_int .i64) hr1) (Below.refl _ _))) h1).mono ?_
  rintro e' w1 ⟨rfl, hb1⟩
  go_wp2
  go_ret2
  exact ⟨rfl, by repeat (first | (with_reducible first | exact hb1 | apply below_alloc | apply pw_below_drewN | apply below_drew1) | exact hb1)⟩
def monzo_Product.f (k : Nat) (l0 l1 : List Int) : Option (ByteArray × Int) := heightOf decimal_Mul.f k l0 l1
theorem monzo_Product.calls (k : Nat) (A0 : Option Addr) (c0 : Nat) (l0 : List Int) (A1 : Option Addr) (c1 : Nat) (l1 : List Int) (r1 : ByteArray) (r2 : Int) (w : World) (hT : TabW w) (hr0 : Kd.C (Kd.int .i64) w A0 l0.length l0) (hc0 : l0.length ≤ c0) (hr1 : Kd.C (Kd.int .i64) w A1 l1.length l1) (hc1 : l1.length ≤ c1) (h : monzo_Product.f k l0 l1 = some (r1, r2)) :
  Calls Tryz.prog 43 #[.slice A0 l0.length c0, .slice A1 l1.length c1] w fun e w' => e = .returned (.tuple #[.string r1, .int .i64 r2]) ∧ Below w.heap.size w w' := by
 go_enter Tryz.func43, Tryz.ntmps43
 go_wp2_with fail
 refine (height_any decimal_Mul.f 113 (fun k a b r w => decimal_Mul.calls k a b r w) (enters_ Tryz.func113 rfl rfl) k _ _ l0 _ _ l1 r1 r2 _ hT hr0 hc0 hr1 hc1 h).mono ?_
 rintro e w1 ⟨rfl, hb1⟩
 go_wp2
 go_ret2
 exact ⟨rfl, by repeat (first | (with_reducible first | exact hb1 | apply below_alloc | apply pw_below_drewN | apply below_drew1) | exact hb1)⟩
theorem idx_two0 (b1 b2 : Value) (w : World) : (Instr.index 136 (.agg #[b1, b2]) (.int .i64 0)).run Tryz.prog w = .ok b1 w := by simp [Instr.index, go_sem]
theorem idx_two1 (b1 b2 : Value) (w : World) : (Instr.index 136 (.agg #[b1, b2]) (.int .i64 1)).run Tryz.prog w = .ok b2 w := by simp [Instr.index, go_sem]
attribute [local go_sem] idx_two0 idx_two1
def monzo_Fraction.f (k : Nat) (l0 l1 : List Int) : Option (ByteArray × ByteArray × Int) :=
 (monzo_Check.f k l0 l1).bind fun e => if e = 0 then (monzo_sides.f k l0 l1).bind fun b => (monzo_short.f b.1).bind fun x => if x.2 = 0 then ((monzo_short.f b.2).bind fun y => if y.2 = 0 then some (b.1, b.2, 0) else some (⟨#[]⟩, ⟨#[]⟩, y.2)) else some (⟨#[]⟩, ⟨#[]⟩, x.2) else some (⟨#[]⟩, ⟨#[]⟩, e)
set_option maxHeartbeats 4000000 in
set_option maxRecDepth 10000 in
theorem monzo_Fraction.calls (k : Nat) (A0 : Option Addr) (c0 : Nat) (l0 : List Int) (A1 : Option Addr) (c1 : Nat) (l1 : List Int) (r1 r2 : ByteArray) (r3 : Int) (w : World) (hT : TabW w) (hr0 : Kd.C (Kd.int .i64) w A0 l0.length l0) (hc0 : l0.length ≤ c0) (hr1 : Kd.C (Kd.int .i64) w A1 l1.length l1) (hc1 : l1.length ≤ c1) (h : monzo_Fraction.f k l0 l1 = some (r1, r2, r3)) :
  Calls Tryz.prog 37 #[.slice A0 l0.length c0, .slice A1 l1.length c1] w fun e w' => e = .returned (.tuple #[.agg #[.string r1, .string r2], .int .i64 r3]) ∧ Below w.heap.size w w' := by
 unfold monzo_Fraction.f at h
 have hb0 : Below w.heap.size w (w.alloc (Obj.cells #[Value.string { data := #[] }, Value.string { data := #[] }] 38)) := below_alloc (Below.refl _ _) _
 obtain ⟨e, h1, f1⟩ := Option.bind_eq_some_iff.mp h
 by_cases he : e = 0
 ·rw [if_pos he] at f1
  subst he
  obtain ⟨⟨b1, b2⟩, h2, f2⟩ := Option.bind_eq_some_iff.mp f1
  obtain ⟨⟨x1, x2⟩, h3, f3⟩ := Option.bind_eq_some_iff.mp f2
  dsimp only at h3 f3
  by_cases hx2 : x2 = 0
  ·rw [if_pos hx2] at f3
   subst hx2
   obtain ⟨⟨y1, y2⟩, h4, f4⟩ := Option.bind_eq_some_iff.mp f3
   dsimp only at h4 f4
   by_cases hy2 : y2 = 0
   ·rw [if_pos hy2] at f4
    subst hy2
    simp only [Option.some.injEq, Prod.mk.injEq] at f4
    obtain ⟨rfl, rfl, rfl⟩ := f4
    go_enter Tryz.func37, Tryz.ntmps37
    go_wp2_with fail
    refine (monzo_Check.calls k _ _ l0 (fun k_ => k_ < w.heap.size) _ _ l1 0 _ (Kd.C_below hr0 hb0) hc0 (Kd.V_mk hc1 (Kd.F_below (Kd.C_F (Kd.heap_int .i64) hr1) hb0)) h1).mono ?_
    rintro e' w1 ⟨rfl, hb1⟩
    have hb01 := below_then hb0 hb0.size hb1
    have G1 : w1.heap[w.heap.size]? = some (Obj.cells #[Value.string ⟨#[]⟩, Value.string ⟨#[]⟩] 38) := (hb1.block w.heap.size (by simp)).trans (by show (w.heap.push _)[w.heap.size]? = _; exact Array.getElem?_push_size)
    have g0 : w1.cell? ⟨w.heap.size, 0, none⟩ = some (.string ⟨#[]⟩) := by simp [World.cell?, G1]
    have g1 : w1.cell? ⟨w.heap.size, 1, none⟩ = some (.string ⟨#[]⟩) := by simp [World.cell?, G1]
    have z0 : w1.frozen? ⟨w.heap.size, 0, none⟩ = false := by simp [World.frozen?, G1]
    have z1 : w1.frozen? ⟨w.heap.size, 1, none⟩ = false := by simp [World.frozen?, G1]
    go_wp2_with fail
    refine (monzo_sides.calls k _ _ l0 _ _ l1 b1 b2 _ (TabW.below hT hb01) (Kd.C_below hr0 hb01) hc0 (Kd.C_below hr1 hb01) hc1 h2).mono ?_
    rintro e w2 ⟨rfl, hb2⟩
    have hb12 := below_then hb01 hb01.size hb2
    have G2 : w2.heap[w.heap.size]? = some (Obj.cells #[Value.string ⟨#[]⟩, Value.string ⟨#[]⟩] 38) := (hb2.block w.heap.size (by have := hb1.size; simp at this; omega)).trans G1
    have g0' : w2.cell? ⟨w.heap.size, 0, none⟩ = some (.string ⟨#[]⟩) := by simp [World.cell?, G2]
    have g1' : w2.cell? ⟨w.heap.size, 1, none⟩ = some (.string ⟨#[]⟩) := by simp [World.cell?, G2]
    have z0' : w2.frozen? ⟨w.heap.size, 0, none⟩ = false := by simp [World.frozen?, G2]
    have z1' : w2.frozen? ⟨w.heap.size, 1, none⟩ = false := by simp [World.frozen?, G2]
    go_wp2_with fail
    refine wp_loop_rounds 3 ?_
    rw [rounds_succ]
    go_wp2_with fail
    refine (monzo_short.calls b1 x1 0 _ h3).mono ?_
    rintro e w4 ⟨rfl, q4, rfl⟩
    go_wp2_with fail
    rw [rounds_succ]
    go_wp2_with fail
    refine (monzo_short.calls b2 y1 0 _ h4).mono ?_
    rintro e w4 ⟨rfl, q5, rfl⟩
    go_wp2_with fail
    rw [rounds_succ]
    go_wp2_with fail
    refine ⟨rfl, _, ?_, rfl, ?_⟩
    ·simp [results, Tryz.f37, go_sem, g0', g1']
    ·refine Below.setCell (Below.setCell (by first | exact pw_below_drewN hb12 _ | exact hb12 | exact hb01) ?_ _) ?_ _ <;> exact Nat.le_refl _
   ·rw [if_neg hy2] at f4
    simp only [Option.some.injEq, Prod.mk.injEq] at f4
    obtain ⟨rfl, rfl, rfl⟩ := f4
    have he1 : (y2 != 0) = true := bne_iff_ne.mpr hy2
    go_enter Tryz.func37, Tryz.ntmps37
    go_wp2_with fail
    refine (monzo_Check.calls k _ _ l0 (fun k_ => k_ < w.heap.size) _ _ l1 0 _ (Kd.C_below hr0 hb0) hc0 (Kd.V_mk hc1 (Kd.F_below (Kd.C_F (Kd.heap_int .i64) hr1) hb0)) h1).mono ?_
    rintro e' w1 ⟨rfl, hb1⟩
    have hb01 := below_then hb0 hb0.size hb1
    have G1 : w1.heap[w.heap.size]? = some (Obj.cells #[Value.string ⟨#[]⟩, Value.string ⟨#[]⟩] 38) := (hb1.block w.heap.size (by simp)).trans (by show (w.heap.push _)[w.heap.size]? = _; exact Array.getElem?_push_size)
    have g0 : w1.cell? ⟨w.heap.size, 0, none⟩ = some (.string ⟨#[]⟩) := by simp [World.cell?, G1]
    have g1 : w1.cell? ⟨w.heap.size, 1, none⟩ = some (.string ⟨#[]⟩) := by simp [World.cell?, G1]
    have z0 : w1.frozen? ⟨w.heap.size, 0, none⟩ = false := by simp [World.frozen?, G1]
    have z1 : w1.frozen? ⟨w.heap.size, 1, none⟩ = false := by simp [World.frozen?, G1]
    go_wp2_with fail
    refine (monzo_sides.calls k _ _ l0 _ _ l1 b1 b2 _ (TabW.below hT hb01) (Kd.C_below hr0 hb01) hc0 (Kd.C_below hr1 hb01) hc1 h2).mono ?_
    rintro e w2 ⟨rfl, hb2⟩
    have hb12 := below_then hb01 hb01.size hb2
    have G2 : w2.heap[w.heap.size]? = some (Obj.cells #[Value.string ⟨#[]⟩, Value.string ⟨#[]⟩] 38) := (hb2.block w.heap.size (by have := hb1.size; simp at this; omega)).trans G1
    have g0' : w2.cell? ⟨w.heap.size, 0, none⟩ = some (.string ⟨#[]⟩) := by simp [World.cell?, G2]
    have g1' : w2.cell? ⟨w.heap.size, 1, none⟩ = some (.string ⟨#[]⟩) := by simp [World.cell?, G2]
    have z0' : w2.frozen? ⟨w.heap.size, 0, none⟩ = false := by simp [World.frozen?, G2]
    have z1' : w2.frozen? ⟨w.heap.size, 1, none⟩ = false := by simp [World.frozen?, G2]
    go_wp2_with fail
    refine wp_loop_rounds 3 ?_
    rw [rounds_succ]
    go_wp2_with fail
    refine (monzo_short.calls b1 x1 0 _ h3).mono ?_
    rintro e w4 ⟨rfl, q4, rfl⟩
    go_wp2_with fail
    rw [rounds_succ]
    go_wp2_with fail
    refine (monzo_short.calls b2 y1 y2 _ h4).mono ?_
    rintro e w4 ⟨rfl, q5, rfl⟩
    go_wp2_with fail
    refine ⟨rfl, _, ?_, rfl, ?_⟩
    ·simp [results, Tryz.f37, go_sem, g0', g1']
    ·refine Below.setCell (Below.setCell (by first | exact pw_below_drewN hb12 _ | exact hb12 | exact hb01) ?_ _) ?_ _ <;> exact Nat.le_refl _
  ·rw [if_neg hx2] at f3
   simp only [Option.some.injEq, Prod.mk.injEq] at f3
   obtain ⟨rfl, rfl, rfl⟩ := f3
   have he1 : (x2 != 0) = true := bne_iff_ne.mpr hx2
   go_enter Tryz.func37, Tryz.ntmps37
   go_wp2_with fail
   refine (monzo_Check.calls k _ _ l0 (fun k_ => k_ < w.heap.size) _ _ l1 0 _ (Kd.C_below hr0 hb0) hc0 (Kd.V_mk hc1 (Kd.F_below (Kd.C_F (Kd.heap_int .i64) hr1) hb0)) h1).mono ?_
   rintro e' w1 ⟨rfl, hb1⟩
   have hb01 := below_then hb0 hb0.size hb1
   have G1 : w1.heap[w.heap.size]? = some (Obj.cells #[Value.string ⟨#[]⟩, Value.string ⟨#[]⟩] 38) := (hb1.block w.heap.size (by simp)).trans (by show (w.heap.push _)[w.heap.size]? = _; exact Array.getElem?_push_size)
   have g0 : w1.cell? ⟨w.heap.size, 0, none⟩ = some (.string ⟨#[]⟩) := by simp [World.cell?, G1]
   have g1 : w1.cell? ⟨w.heap.size, 1, none⟩ = some (.string ⟨#[]⟩) := by simp [World.cell?, G1]
   have z0 : w1.frozen? ⟨w.heap.size, 0, none⟩ = false := by simp [World.frozen?, G1]
   have z1 : w1.frozen? ⟨w.heap.size, 1, none⟩ = false := by simp [World.frozen?, G1]
   go_wp2_with fail
   refine (monzo_sides.calls k _ _ l0 _ _ l1 b1 b2 _ (TabW.below hT hb01) (Kd.C_below hr0 hb01) hc0 (Kd.C_below hr1 hb01) hc1 h2).mono ?_
   rintro e w2 ⟨rfl, hb2⟩
   have hb12 := below_then hb01 hb01.size hb2
   have G2 : w2.heap[w.heap.size]? = some (Obj.cells #[Value.string ⟨#[]⟩, Value.string ⟨#[]⟩] 38) := (hb2.block w.heap.size (by have := hb1.size; simp at this; omega)).trans G1
   have g0' : w2.cell? ⟨w.heap.size, 0, none⟩ = some (.string ⟨#[]⟩) := by simp [World.cell?, G2]
   have g1' : w2.cell? ⟨w.heap.size, 1, none⟩ = some (.string ⟨#[]⟩) := by simp [World.cell?, G2]
   have z0' : w2.frozen? ⟨w.heap.size, 0, none⟩ = false := by simp [World.frozen?, G2]
   have z1' : w2.frozen? ⟨w.heap.size, 1, none⟩ = false := by simp [World.frozen?, G2]
   go_wp2_with fail
   refine wp_loop_rounds 3 ?_
   rw [rounds_succ]
   go_wp2_with fail
   refine (monzo_short.calls b1 x1 x2 _ h3).mono ?_
   rintro e w4 ⟨rfl, q4, rfl⟩
   go_wp2_with fail
   refine ⟨rfl, _, ?_, rfl, ?_⟩
   ·simp [results, Tryz.f37, go_sem, g0', g1']
   ·refine Below.setCell (Below.setCell (by first | exact pw_below_drewN hb12 _ | exact hb12 | exact hb01) ?_ _) ?_ _ <;> exact Nat.le_refl _
 ·rw [if_neg he] at f1
  simp only [Option.some.injEq, Prod.mk.injEq] at f1
  obtain ⟨rfl, rfl, rfl⟩ := f1
  have he1 : (e != 0) = true := bne_iff_ne.mpr he
  go_enter Tryz.func37, Tryz.ntmps37
  go_wp2_with fail
  refine (monzo_Check.calls k _ _ l0 (fun k_ => k_ < w.heap.size) _ _ l1 e _ (Kd.C_below hr0 hb0) hc0 (Kd.V_mk hc1 (Kd.F_below (Kd.C_F (Kd.heap_int .i64) hr1) hb0)) h1).mono ?_
  rintro e' w1 ⟨rfl, hb1⟩
  have hb01 := below_then hb0 hb0.size hb1
  have G1 : w1.heap[w.heap.size]? = some (Obj.cells #[Value.string ⟨#[]⟩, Value.string ⟨#[]⟩] 38) := (hb1.block w.heap.size (by simp)).trans (by show (w.heap.push _)[w.heap.size]? = _; exact Array.getElem?_push_size)
  have g0 : w1.cell? ⟨w.heap.size, 0, none⟩ = some (.string ⟨#[]⟩) := by simp [World.cell?, G1]
  have g1 : w1.cell? ⟨w.heap.size, 1, none⟩ = some (.string ⟨#[]⟩) := by simp [World.cell?, G1]
  have z0 : w1.frozen? ⟨w.heap.size, 0, none⟩ = false := by simp [World.frozen?, G1]
  have z1 : w1.frozen? ⟨w.heap.size, 1, none⟩ = false := by simp [World.frozen?, G1]
  go_wp2_with fail
  refine ⟨rfl, _, ?_, rfl, ?_⟩
  ·simp [results, Tryz.f37, go_sem, g0, g1]
  ·refine Below.setCell (Below.setCell (by first | exact pw_below_drewN hb12 _ | exact hb12 | exact hb01) ?_ _) ?_ _ <;> exact Nat.le_refl _
end
end Go.Proofs.YtccebdpjdpjgnaaGreatDoor.P
end
section
namespace Go.Proofs.YtccebdpjdpjgnaaGreatDoor.P
open Go.RowKit Go.Proofs.YtccebdpjdpjgnaaGreatDoorW.PrintWords Go.Proofs.YtccebdpjdpjgnaaGreatDoorW.PrintLast Go.Proofs.YtccebdpjdpjgnaaGreatDoorW.PrintMore
attribute [local go_sem] max2_int min2_int max_two min_two max_three min_three max_four min_four
def monzo_Text.f (k : Nat) (l0 : List Int) (l1 : List Int) : Option (ByteArray × Int) := (monzo_Fraction.f k l0 l1).bind fun bt412 => (if bt412.2.2 = 0 then ((fraction_Text.f bt412.1 bt412.2.1).bind fun t416 => (some (t416, 0))) else (some ((⟨#[]⟩ : ByteArray), bt412.2.2)))
set_option maxHeartbeats 8000000 in
set_option maxRecDepth 100000 in
theorem monzo_Text.calls (k : Nat) (A0 : Option Addr) (c0 : Nat) (l0 : List Int) (A1 : Option Addr) (c1 : Nat) (l1 : List Int) (r1 : ByteArray) (r2 : Int) (w : World) (hT : TabW w) (hr0 : Kd.C (Kd.int .i64) w A0 l0.length l0) (hc0 : l0.length ≤ c0) (hr1 : Kd.C (Kd.int .i64) w A1 l1.length l1) (hc1 : l1.length ≤ c1) (h : monzo_Text.f k l0 l1 = some (r1, r2)) :
  Calls Tryz.prog 38 #[.slice A0 l0.length c0, .slice A1 l1.length c1] w fun e w' => e = .returned (.tuple #[.string r1, .int .i64 r2]) ∧ Below w.heap.size w w' := by
 have hu38 := Tryz.underlying38
 have HR0 := Aside0.mk hr0
 have HC0 := Aside0.mk hc0
 clear hr0 hc0
 have HR1 := Aside0.mk hr1
 have HC1 := Aside0.mk hc1
 clear hr1 hc1
 have HB := Aside0.mk (Below.refl w.heap.size w)
 have H : ((monzo_Fraction.f k l0 l1).bind fun bt412 => (if bt412.2.2 = 0 then ((fraction_Text.f bt412.1 bt412.2.1).bind fun t416 => (some (t416, 0))) else (some ((⟨#[]⟩ : ByteArray), bt412.2.2)))) = some (r1, r2) := h
 clear h
 replace H := Option.bind_eq_some_iff.mp H
 obtain ⟨⟨t412, t413, t414⟩, A30, H⟩ := H
 try dsimp only at H
 have A3 := Aside0.mk A30
 clear A30
 by_cases c4 : t414 = 0
 ·rw [if_pos c4] at H
  have c4b0 : (t414 == 0) = true := beq_iff_eq.mpr c4
  have c4b1 : (t414 != 0) = false := bne_eq_false_iff_eq.mpr c4
  clear c4
  replace H := Option.bind_eq_some_iff.mp H
  obtain ⟨t416, A50, H⟩ := H
  try dsimp only at H
  have A5 := Aside0.mk A50
  clear A50
  simp only [Option.some.injEq, Prod.mk.injEq] at H
  obtain ⟨rfl, rfl⟩ := H
  go_enter Tryz.func38, Tryz.ntmps38
  go_wp2_with (first | ((with_reducible refine gate_callee (f := 37) rfl ?_); refine goesK (some 11) Tryz.func37 [.slice A0 l0.length c0, .slice A1 l1.length c1] rfl rfl ?_; (with_reducible refine (monzo_Fraction.calls k _ _ l0 _ _ l1 t412 t413 t414 _ ?side1 ?side2 ?side3 ?side4 ?side5 A3.out).mono ?_); (case side1 => refine TabW.below hT ?_; apply_rules [HB.out, below_alloc, pw_below_drewN, below_drew1]); (case side2 => apply_rules [HR0.out, Kd.C_alloc, Kd.C_drewN, Kd.C_drew]); (case side3 => exact HC0.out); (case side4 => apply_rules [HR1.out, Kd.C_alloc, Kd.C_drewN, Kd.C_drew]); (case side5 => exact HC1.out); rintro e w6 ⟨rfl, hb⟩; refine ⟨_, rfl, ?_⟩; replace HB := Aside0.mk (below_step (by apply_rules [HB.out, below_alloc, pw_below_drewN, below_drew1]) hb); (try clear hb)) | ((with_reducible refine gate_dst (N := 6) rfl ?_); refine box_event ?hg (N := 6) ?hd (cs := #[.string (⟨#[]⟩ : ByteArray), .string (⟨#[]⟩ : ByteArray)]) (t := 38) ?hr ?_; (case hd => rfl); (case hg => rfl); (case hr => go_simp; try rfl); intro gb415 hg w7 hbox hb; have n0_ := Aside0.mk (below_step (by apply_rules [HB.out, below_alloc, pw_below_drewN, below_drew1]) hb); have n1_ := Aside0.mk (hbox); have n2_ := Aside0.mk ((by rw [hg]; exact (below_size (by apply_rules [HB.out, below_alloc, pw_below_drewN, below_drew1])) : w.heap.size ≤ gb415)); have n3_ := Aside0.mk ((by rw [hg]; exact (below_size (by apply_rules [HB.out, below_alloc, pw_below_drewN, below_drew1])) : w.heap.size ≤ gb415)); clear HB; have HB := n0_; have BK415 := n1_; have GW415 := n2_; have GE415 := n3_; clear n0_ n1_ n2_ n3_; clear hb hbox hg; have hcz8_0 : w7.cell? ⟨gb415, 0, none⟩ = some (.string (⟨#[]⟩ : ByteArray)) := (blk_cell BK415.out 0).trans rfl; have hcz8_1 : w7.cell? ⟨gb415, 1, none⟩ = some (.string (⟨#[]⟩ : ByteArray)) := (blk_cell BK415.out 1).trans rfl; have hfz8_0 := blk_frozen BK415.out 0; have hfz8_1 := blk_frozen BK415.out 1) | ((with_reducible refine gate_callee (f := 39) rfl ?_); refine goesK (some 18) Tryz.func39 [.agg #[.string t412, .string t413]] rfl rfl ?_; (with_reducible refine (fraction_Text.calls t412 t413 t416 _ A5.out).mono ?_); rintro e w9 ⟨rfl, hb⟩; refine ⟨_, rfl, ?_⟩; replace BK415 := Aside0.mk (blk_below (g := gb415) (o := .cells #[.string t412, .string t413] 38 (0, 0)) (by (with_reducible repeat (first | refine blk_drewN ?_ _ | refine blk_drew ?_ | refine blk_alloc ?_ _)); refine blk_put (cs := #[.string t412, .string (⟨#[]⟩ : ByteArray)]) ?_ 1 _ rfl; (with_reducible repeat (first | refine blk_drewN ?_ _ | refine blk_drew ?_ | refine blk_alloc ?_ _)); refine blk_put (cs := #[.string (⟨#[]⟩ : ByteArray), .string (⟨#[]⟩ : ByteArray)]) ?_ 0 _ rfl; apply_rules [BK415.out, blk_drewN, blk_drew, blk_alloc]) hb); replace HB := Aside0.mk (below_step (by apply_rules [HB.out, below_alloc, pw_below_drewN, below_drew1, below_set, GE415.out]) hb); (try clear hb)))
  go_ret2
  exact ⟨by first | rfl | simp [*], by apply_rules [HB.out, below_alloc, pw_below_drewN, below_drew1, below_set, GE415.out]⟩
 ·rw [if_neg c4] at H
  have c4b0 : (t414 == 0) = false := beq_eq_false_iff_ne.mpr c4
  have c4b1 : (t414 != 0) = true := bne_iff_ne.mpr c4
  simp only [Option.some.injEq, Prod.mk.injEq] at H
  obtain ⟨rfl, rfl⟩ := H
  go_enter Tryz.func38, Tryz.ntmps38
  go_wp2_with (first | ((with_reducible refine gate_callee (f := 37) rfl ?_); refine goesK (some 11) Tryz.func37 [.slice A0 l0.length c0, .slice A1 l1.length c1] rfl rfl ?_; (with_reducible refine (monzo_Fraction.calls k _ _ l0 _ _ l1 t412 t413 t414 _ ?side1 ?side2 ?side3 ?side4 ?side5 A3.out).mono ?_); (case side1 => refine TabW.below hT ?_; apply_rules [HB.out, below_alloc, pw_below_drewN, below_drew1]); (case side2 => apply_rules [HR0.out, Kd.C_alloc, Kd.C_drewN, Kd.C_drew]); (case side3 => exact HC0.out); (case side4 => apply_rules [HR1.out, Kd.C_alloc, Kd.C_drewN, Kd.C_drew]); (case side5 => exact HC1.out); rintro e w10 ⟨rfl, hb⟩; refine ⟨_, rfl, ?_⟩; replace HB := Aside0.mk (below_step (by apply_rules [HB.out, below_alloc, pw_below_drewN, below_drew1]) hb); (try clear hb)) | ((with_reducible refine gate_dst (N := 6) rfl ?_); refine box_event ?hg (N := 6) ?hd (cs := #[.string (⟨#[]⟩ : ByteArray), .string (⟨#[]⟩ : ByteArray)]) (t := 38) ?hr ?_; (case hd => rfl); (case hg => rfl); (case hr => go_simp; try rfl); intro gb415 hg w11 hbox hb; have n0_ := Aside0.mk (below_step (by apply_rules [HB.out, below_alloc, pw_below_drewN, below_drew1]) hb); have n1_ := Aside0.mk (hbox); have n2_ := Aside0.mk ((by rw [hg]; exact (below_size (by apply_rules [HB.out, below_alloc, pw_below_drewN, below_drew1])) : w.heap.size ≤ gb415)); have n3_ := Aside0.mk ((by rw [hg]; exact (below_size (by apply_rules [HB.out, below_alloc, pw_below_drewN, below_drew1])) : w.heap.size ≤ gb415)); clear HB; have HB := n0_; have BK415 := n1_; have GW415 := n2_; have GE415 := n3_; clear n0_ n1_ n2_ n3_; clear hb hbox hg; have hcz12_0 : w11.cell? ⟨gb415, 0, none⟩ = some (.string (⟨#[]⟩ : ByteArray)) := (blk_cell BK415.out 0).trans rfl; have hcz12_1 : w11.cell? ⟨gb415, 1, none⟩ = some (.string (⟨#[]⟩ : ByteArray)) := (blk_cell BK415.out 1).trans rfl; have hfz12_0 := blk_frozen BK415.out 0; have hfz12_1 := blk_frozen BK415.out 1))
  go_ret2
  exact ⟨by first | rfl | simp [*], by apply_rules [HB.out, below_alloc, pw_below_drewN, below_drew1, below_set, GE415.out]⟩
end Go.Proofs.YtccebdpjdpjgnaaGreatDoor.P
end
section
namespace Go.Proofs.YtccebdpjdpjgnaaGreatDoor.P
open Go.RowKit Go.Proofs.YtccebdpjdpjgnaaGreatDoorW.PrintWords Go.Proofs.YtccebdpjdpjgnaaGreatDoorW.PrintLast Go.Proofs.YtccebdpjdpjgnaaGreatDoorW.PrintMore
attribute [local go_sem] max2_int min2_int max_two min_two max_three min_three max_four min_four
end Go.Proofs.YtccebdpjdpjgnaaGreatDoor.P
end
