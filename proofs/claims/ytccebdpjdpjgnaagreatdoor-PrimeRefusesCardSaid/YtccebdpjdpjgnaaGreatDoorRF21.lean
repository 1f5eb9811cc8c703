/-
parts of the walks and of the plain laws: Pwholegcd PwholeGcd PwholeNeg
-/
import Derived.Test.YtccebdpjdpjgnaaGreatDoorRF20
set_option linter.unusedVariables false
set_option linter.unusedSimpArgs false
section
namespace Go.Proofs.YtccebdpjdpjgnaaGreatDoor.P
open Go.RowKit Go.Proofs.YtccebdpjdpjgnaaGreatDoorW.PrintWords Go.Proofs.YtccebdpjdpjgnaaGreatDoorW.PrintLast Go.Proofs.YtccebdpjdpjgnaaGreatDoorW.PrintMore
attribute [local go_sem] max2_int min2_int max_two min_two max_three min_three max_four min_four
def whole_gcd.l0 : Nat → Int → Int → Option (Int)
 | 0, _, _ => none
 | k + 1, x0, x1 => if x1 = 0 then (some x0) else (whole_gcd.l0 k x1 (Int.tmod x0 x1))
def whole_gcd.f (k : Nat) (a0 : Int) (a1 : Int) : Option (Int) := whole_gcd.l0 k a0 a1
theorem whole_gcd.mono_l : ∀ k, (∀ y0 y1, LeO (whole_gcd.l0 k y0 y1) (whole_gcd.l0 (k + 1) y0 y1))
 | 0 => fun _ _ r h => by simp [whole_gcd.l0] at h
 | k + 1 => by
  have ih0 := whole_gcd.mono_l k
  ·intro y0 y1
   unfold whole_gcd.l0
   repeat' first
   | (with_reducible exact ih0 _ _)
   | (with_reducible exact LeO.refl _)
   | (with_reducible exact LeO.none _)
   | (with_reducible refine LeO.ite ?_ ?_)
   | (with_reducible refine LeO.bind ?_ (fun _ => ?_))
theorem whole_gcd.mono : ∀ a0 a1 k, LeO (whole_gcd.f k a0 a1) (whole_gcd.f (k + 1) a0 a1) := by
 intro a0 a1 k
 have ih0 := whole_gcd.mono_l k
 unfold whole_gcd.f
 repeat' first
   | (with_reducible exact ih0 _ _)
   | (with_reducible exact LeO.refl _)
   | (with_reducible exact LeO.none _)
   | (with_reducible refine LeO.ite ?_ ?_)
   | (with_reducible refine LeO.bind ?_ (fun _ => ?_))
set_option maxHeartbeats 8000000 in
set_option maxRecDepth 100000 in
theorem whole_gcd.calls (k : Nat) (a0 : Int) (a1 : Int) (r : Int) (w : World) (h : whole_gcd.f k a0 a1 = some r) :
  Calls Tryz.prog 219 #[.int .i64 a0, .int .i64 a1] w fun e w' => e = .returned (.int .i64 r) ∧ Drawn0 w w' := by
 have H : (whole_gcd.l0 k a0 a1) = some r := h
 clear h
 have H' := Aside0.mk H
 clear H
 go_enter Tryz.func219, Tryz.ntmps219
 go_wp2
 go_loopg [0, 1] k (fun kq v0 v1 w' => ∃ (x0_1 : Int) (x1_1 : Int), v0 = .int .i64 x0_1 ∧ v1 = .int .i64 x1_1 ∧ Aside0 (whole_gcd.l0 kq x0_1 x1_1 = some r) ∧ Aside0 (kq ≤ k) ∧ Drawn0 w w')
 case atStart => exact ⟨(a0), (a1), (by first | rfl | (simp; done) | (simp [*]; done)), (by first | rfl | (simp; done) | (simp [*]; done)), H', ⟨Nat.le_refl _⟩, by repeat (first | exact Drawn0.refl _ | apply Drawn0.step)⟩
 case round =>
  clear H'
  obtain ⟨x0_1, x1_1, rfl, rfl, HA, HK1, ⟨m1, rfl⟩⟩ := hrel
  cases gk with
  | zero => exact absurd HA.out (by simp [whole_gcd.l0])
  | succ k1 =>
   have H := HA.out
   clear HA
   simp only [whole_gcd.l0] at H
   by_cases c3 : x1_1 = 0
   ·rw [if_pos c3] at H
    have c3b0 : (x1_1 == 0) = true := beq_iff_eq.mpr c3
    have c3b1 : (x1_1 != 0) = false := bne_eq_false_iff_eq.mpr c3
    clear c3
    obtain rfl := Option.some.inj H
    go_wp2
    go_ret
    exact ⟨by first | rfl | (simp; done) | (simp [*]; done), by repeat (first | exact Drawn0.refl _ | apply Drawn0.step)⟩
   ·rw [if_neg c3] at H
    have c3b0 : (x1_1 == 0) = false := beq_eq_false_iff_ne.mpr c3
    have c3b1 : (x1_1 != 0) = true := bne_iff_ne.mpr c3
    have H' := Aside0.mk H
    clear H
    go_wp2
    repeat (go_quiet (fail); try go_wp2)
    go_roundg k1
    case measure => have := HK1.out; omega
    case rel => exact ⟨(x1_1), (Int.tmod x0_1 x1_1), (by first | rfl | (simp; done) | (simp [*]; done)), (by first | rfl | (simp; done) | (simp [*]; done)), H', ⟨by have := HK1.out; omega⟩, by repeat (first | exact Drawn0.refl _ | apply Drawn0.step)⟩
def whole_Gcd.f (k : Nat) (a0 : ByteArray) (a1 : ByteArray) : Option (ByteArray) := (whole_Abs.f a0).bind fun t288 => ((whole_Abs.f a1).bind fun t289 => ((whole_little.f t288 18).bind fun bt290 => (if bt290.2 = true then ((whole_little.f t289 18).bind fun bt292 => (if bt292.2 = true then ((whole_gcd.f k bt290.1 bt292.1).bind fun t294 => ((whole_Of.f t294).bind fun t295 => (some t295))) else ((decimal_Gcd.f k t288 t289).bind fun t296 => (some t296)))) else ((decimal_Gcd.f k t288 t289).bind fun t297 => (some t297)))))
theorem whole_Gcd.mono : ∀ a0 a1 k, LeO (whole_Gcd.f k a0 a1) (whole_Gcd.f (k + 1) a0 a1) := by
 intro a0 a1 k
 unfold whole_Gcd.f
 repeat' first
   | (with_reducible exact decimal_Gcd.mono _ _ _)
   | (with_reducible exact whole_gcd.mono _ _ _)
   | (with_reducible exact LeO.refl _)
   | (with_reducible exact LeO.none _)
   | (with_reducible refine LeO.ite ?_ ?_)
   | (with_reducible refine LeO.bind ?_ (fun _ => ?_))
set_option maxHeartbeats 8000000 in
set_option maxRecDepth 100000 in
theorem whole_Gcd.calls (k : Nat) (a0 : ByteArray) (a1 : ByteArray) (r : ByteArray) (w : World) (hT : TabW w) (h : whole_Gcd.f k a0 a1 = some r) :
  Calls Tryz.prog 168 #[.string a0, .string a1] w fun e w' => e = .returned (.string r) ∧ Below w.heap.size w w' := by
 have HB := Aside0.mk (Below.refl w.heap.size w)
 have H : ((whole_Abs.f a0).bind fun t288 => ((whole_Abs.f a1).bind fun t289 => ((whole_little.f t288 18).bind fun bt290 => (if bt290.2 = true then ((whole_little.f t289 18).bind fun bt292 => (if bt292.2 = true then ((whole_gcd.f k bt290.1 bt292.1).bind fun t294 => ((whole_Of.f t294).bind fun t295 => (some t295))) else ((decimal_Gcd.f k t288 t289).bind fun t296 => (some t296)))) else ((decimal_Gcd.f k t288 t289).bind fun t297 => (some t297)))))) = some r := h
 clear h
 replace H := Option.bind_eq_some_iff.mp H
 obtain ⟨t288, A30, H⟩ := H
 try dsimp only at H
 have A3 := Aside0.mk A30
 clear A30
 replace H := Option.bind_eq_some_iff.mp H
 obtain ⟨t289, A40, H⟩ := H
 try dsimp only at H
 have A4 := Aside0.mk A40
 clear A40
 replace H := Option.bind_eq_some_iff.mp H
 obtain ⟨⟨t290, t291⟩, A50, H⟩ := H
 try dsimp only at H
 have A5 := Aside0.mk A50
 clear A50
 by_cases c6 : t291 = true
 ·subst c6
  have H1 : ((whole_little.f t289 18).bind fun bt292 => (if bt292.2 = true then ((whole_gcd.f k t290 bt292.1).bind fun t294 => ((whole_Of.f t294).bind fun t295 => (some t295))) else ((decimal_Gcd.f k t288 t289).bind fun t296 => (some t296)))) = some r := by rw [if_pos rfl] at H; exact H
  clear H
  have H := H1
  clear H1
  replace H := Option.bind_eq_some_iff.mp H
  obtain ⟨⟨t292, t293⟩, A70, H⟩ := H
  try dsimp only at H
  have A7 := Aside0.mk A70
  clear A70
  by_cases c8 : t293 = true
  ·subst c8
   have H1 : ((whole_gcd.f k t290 t292).bind fun t294 => ((whole_Of.f t294).bind fun t295 => (some t295))) = some r := by rw [if_pos rfl] at H; exact H
   clear H
   have H := H1
   clear H1
   replace H := Option.bind_eq_some_iff.mp H
   obtain ⟨t294, A90, H⟩ := H
   try dsimp only at H
   have A9 := Aside0.mk A90
   clear A90
   replace H := Option.bind_eq_some_iff.mp H
   obtain ⟨t295, A100, H⟩ := H
   try dsimp only at H
   have A10 := Aside0.mk A100
   clear A100
   obtain rfl := Option.some.inj H
   go_enter Tryz.func168, Tryz.ntmps168
   go_wp2_with (first | ((with_reducible refine gate_callee (f := 218) rfl ?_); refine goesK (some 12) Tryz.func218 [.string a0] rfl rfl ?_; (with_reducible refine (whole_Abs.calls a0 t288 _ A3.out).mono ?_); rintro e w' ⟨rfl, ⟨nd, rfl⟩⟩; refine ⟨_, rfl, ?_⟩) | ((with_reducible refine gate_callee (f := 218) rfl ?_); refine goesK (some 14) Tryz.func218 [.string a1] rfl rfl ?_; (with_reducible refine (whole_Abs.calls a1 t289 _ A4.out).mono ?_); rintro e w' ⟨rfl, ⟨nd, rfl⟩⟩; refine ⟨_, rfl, ?_⟩) | ((with_reducible refine gate_callee (f := 118) rfl ?_); refine goesK (some 17) Tryz.func118 [.string t288, .int .i64 18] rfl rfl ?_; (with_reducible refine (whole_little.calls t288 18 t290 true _ ?side1 A5.out).mono ?_); (case side1 => refine TabW.below hT ?_; apply_rules [HB.out, below_alloc, pw_below_drewN, below_drew1]); rintro e w11 ⟨rfl, hb⟩; refine ⟨_, rfl, ?_⟩; replace HB := Aside0.mk (below_step (by apply_rules [HB.out, below_alloc, pw_below_drewN, below_drew1]) hb); (try clear hb)) | ((with_reducible refine gate_callee (f := 118) rfl ?_); refine goesK (some 23) Tryz.func118 [.string t289, .int .i64 18] rfl rfl ?_; (with_reducible refine (whole_little.calls t289 18 t292 true _ ?side1 A7.out).mono ?_); (case side1 => refine TabW.below hT ?_; apply_rules [HB.out, below_alloc, pw_below_drewN, below_drew1]); rintro e w12 ⟨rfl, hb⟩; refine ⟨_, rfl, ?_⟩; replace HB := Aside0.mk (below_step (by apply_rules [HB.out, below_alloc, pw_below_drewN, below_drew1]) hb); (try clear hb)) | ((with_reducible refine gate_callee (f := 219) rfl ?_); refine goesK (some 29) Tryz.func219 [.int .i64 t290, .int .i64 t292] rfl rfl ?_; (with_reducible refine (whole_gcd.calls k t290 t292 t294 _ A9.out).mono ?_); rintro e w' ⟨rfl, ⟨nd, rfl⟩⟩; refine ⟨_, rfl, ?_⟩) | ((with_reducible refine gate_callee (f := 104) rfl ?_); refine goesK (some 30) Tryz.func104 [.int .i64 t294] rfl rfl ?_; (with_reducible refine (whole_Of.calls t294 t295 _ ?side1 A10.out).mono ?_); (case side1 => refine TabW.below hT ?_; apply_rules [HB.out, below_alloc, pw_below_drewN, below_drew1]); rintro e w13 ⟨rfl, hb⟩; refine ⟨_, rfl, ?_⟩; replace HB := Aside0.mk (below_step (by apply_rules [HB.out, below_alloc, pw_below_drewN, below_drew1]) hb); (try clear hb)))
   go_ret
   exact ⟨by first | rfl | simp [*], by apply_rules [HB.out, below_alloc, pw_below_drewN, below_drew1]⟩
  ·replace c8 := Bool.eq_false_iff.mpr c8
   subst c8
   have H1 : ((decimal_Gcd.f k t288 t289).bind fun t296 => (some t296)) = some r := by rw [if_neg (show ¬ (false = true) by decide)] at H; exact H
   clear H
   have H := H1
   clear H1
   replace H := Option.bind_eq_some_iff.mp H
   obtain ⟨t296, A140, H⟩ := H
   try dsimp only at H
   have A14 := Aside0.mk A140
   clear A140
   obtain rfl := Option.some.inj H
   go_enter Tryz.func168, Tryz.ntmps168
   go_wp2_with (first | ((with_reducible refine gate_callee (f := 218) rfl ?_); refine goesK (some 12) Tryz.func218 [.string a0] rfl rfl ?_; (with_reducible refine (whole_Abs.calls a0 t288 _ A3.out).mono ?_); rintro e w' ⟨rfl, ⟨nd, rfl⟩⟩; refine ⟨_, rfl, ?_⟩) | ((with_reducible refine gate_callee (f := 218) rfl ?_); refine goesK (some 14) Tryz.func218 [.string a1] rfl rfl ?_; (with_reducible refine (whole_Abs.calls a1 t289 _ A4.out).mono ?_); rintro e w' ⟨rfl, ⟨nd, rfl⟩⟩; refine ⟨_, rfl, ?_⟩) | ((with_reducible refine gate_callee (f := 118) rfl ?_); refine goesK (some 17) Tryz.func118 [.string t288, .int .i64 18] rfl rfl ?_; (with_reducible refine (whole_little.calls t288 18 t290 true _ ?side1 A5.out).mono ?_); (case side1 => refine TabW.below hT ?_; apply_rules [HB.out, below_alloc, pw_below_drewN, below_drew1]); rintro e w15 ⟨rfl, hb⟩; refine ⟨_, rfl, ?_⟩; replace HB := Aside0.mk (below_step (by apply_rules [HB.out, below_alloc, pw_below_drewN, below_drew1]) hb); (try clear hb)) | ((with_reducible refine gate_callee (f := 118) rfl ?_); refine goesK (some 23) Tryz.func118 [.string t289, .int .i64 18] rfl rfl ?_; (with_reducible refine (whole_little.calls t289 18 t292 false _ ?side1 A7.out).mono ?_); (case side1 => refine TabW.below hT ?_; apply_rules [HB.out, below_alloc, pw_below_drewN, below_drew1]); rintro e w16 ⟨rfl, hb⟩; refine ⟨_, rfl, ?_⟩; replace HB := Aside0.mk (below_step (by apply_rules [HB.out, below_alloc, pw_below_drewN, below_drew1]) hb); (try clear hb)) | ((with_reducible refine gate_callee (f := 220) rfl ?_); refine goesK (some 33) Tryz.func220 [.string t288, .string t289] rfl rfl ?_; (with_reducible refine (decimal_Gcd.calls k t288 t289 t296 _ ?side1 A14.out).mono ?_); (case side1 => refine TabW.below hT ?_; apply_rules [HB.out, below_alloc, pw_below_drewN, below_drew1]); rintro e w17 ⟨rfl, hb⟩; refine ⟨_, rfl, ?_⟩; replace HB := Aside0.mk (below_step (by apply_rules [HB.out, below_alloc, pw_below_drewN, below_drew1]) hb); (try clear hb)))
   go_ret
   exact ⟨by first | rfl | simp [*], by apply_rules [HB.out, below_alloc, pw_below_drewN, below_drew1]⟩
 ·replace c6 := Bool.eq_false_iff.mpr c6
  subst c6
  have H1 : ((decimal_Gcd.f k t288 t289).bind fun t297 => (some t297)) = some r := by rw [if_neg (show ¬ (false = true) by decide)] at H; exact H
  clear H
  have H := H1
  clear H1
  replace H := Option.bind_eq_some_iff.mp H
  obtain ⟨t297, A180, H⟩ := H
  try dsimp only at H
  have A18 := Aside0.mk A180
  clear A180
  obtain rfl := Option.some.inj H
  go_enter Tryz.func168, Tryz.ntmps168
  go_wp2_with (first | ((with_reducible refine gate_callee (f := 218) rfl ?_); refine goesK (some 12) Tryz.func218 [.string a0] rfl rfl ?_; (with_reducible refine (whole_Abs.calls a0 t288 _ A3.out).mono ?_); rintro e w' ⟨rfl, ⟨nd, rfl⟩⟩; refine ⟨_, rfl, ?_⟩) | ((with_reducible refine gate_callee (f := 218) rfl ?_); refine goesK (some 14) Tryz.func218 [.string a1] rfl rfl ?_; (with_reducible refine (whole_Abs.calls a1 t289 _ A4.out).mono ?_); rintro e w' ⟨rfl, ⟨nd, rfl⟩⟩; refine ⟨_, rfl, ?_⟩) | ((with_reducible refine gate_callee (f := 118) rfl ?_); refine goesK (some 17) Tryz.func118 [.string t288, .int .i64 18] rfl rfl ?_; (with_reducible refine (whole_little.calls t288 18 t290 false _ ?side1 A5.out).mono ?_); (case side1 => refine TabW.below hT ?_; apply_rules [HB.out, below_alloc, pw_below_drewN, below_drew1]); rintro e w19 ⟨rfl, hb⟩; refine ⟨_, rfl, ?_⟩; replace HB := Aside0.mk (below_step (by apply_rules [HB.out, below_alloc, pw_below_drewN, below_drew1]) hb); (try clear hb)) | ((with_reducible refine gate_callee (f := 220) rfl ?_); refine goesK (some 33) Tryz.func220 [.string t288, .string t289] rfl rfl ?_; (with_reducible refine (decimal_Gcd.calls k t288 t289 t297 _ ?side1 A18.out).mono ?_); (case side1 => refine TabW.below hT ?_; apply_rules [HB.out, below_alloc, pw_below_drewN, below_drew1]); rintro e w20 ⟨rfl, hb⟩; refine ⟨_, rfl, ?_⟩; replace HB := Aside0.mk (below_step (by apply_rules [HB.out, below_alloc, pw_below_drewN, below_drew1]) hb); (try clear hb)))
  go_ret
  exact ⟨by first | rfl | simp [*], by apply_rules [HB.out, below_alloc, pw_below_drewN, below_drew1]⟩

end Go.Proofs.YtccebdpjdpjgnaaGreatDoor.P
end
