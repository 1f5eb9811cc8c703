/-
parts of the walks and of the plain laws: PwholeGcd PwholeNeg
-/
import Derived.Test.YtccebdpjdpjgnaaGreatDoorMP20
set_option linter.unusedVariables false
set_option linter.unusedSimpArgs false
section
namespace Go.Proofs.YtccebdpjdpjgnaaGreatDoor.P
open Go.RowKit Go.Proofs.YtccebdpjdpjgnaaGreatDoorW.PrintWords Go.Proofs.YtccebdpjdpjgnaaGreatDoorW.PrintLast Go.Proofs.YtccebdpjdpjgnaaGreatDoorW.PrintMore
attribute [local go_sem] max2_int min2_int max_two min_two max_three min_three max_four min_four
def whole_Gcd.f (k : Nat) (a0 : ByteArray) (a1 : ByteArray) : Option (ByteArray) := (whole_Abs.f a0).bind fun t288 => ((whole_Abs.f a1).bind fun t289 => ((whole_little.f t288 18).bind fun bt290 => (if bt290.2 = true then ((whole_little.f t289 18).bind fun bt292 => (if bt292.2 = true then ((whole_gcd.f k bt290.1 bt292.1).bind fun t294 => ((whole_Of.f t294).bind fun t295 => (some t295))) else ((decimal_Gcd.f k t288 t289).bind fun t296 => (some t296)))) else ((decimal_Gcd.f k t288 t289).bind fun t297 => (some t297)))))
set_option maxHeartbeats 8000000 in
set_option maxRecDepth 100000 in
theorem whole_Gcd.calls (k : Nat) (a0 : ByteArray) (a1 : ByteArray) (r : ByteArray) (w : World) (hT : TabW w) (h : whole_Gcd.f k a0 a1 = some r) :
  Calls Tryz.prog 168 #[.string a0, .string a1] w fun e w' => e = .returned (.string r) ∧ Below w.heap.size w w' := by
 have HB := Aside0.mk (Below.refl w.heap.size w)
 have H : ((whole_Abs.f a0).bind fun t288 => ((whole_Abs.f a1).bind fun t289 => ((whole_little.f t288 18).bind fun bt290 => (if bt290.2 = true then ((whole_little.f t289 18).bind fun bt292 => (if bt292.2 = true then ((whole_gcd.f k bt290.1 bt292.1).bind fun t294 => ((whole_Of.f t294).bind fun t295 => (some t295))) else ((decimal_Gcd.f k t288 t289).bind fun t296 => (some t296)))) else ((decimal_Gcd.f k t288 t289).bind fun t297 => (some t297)))))) = some r := h
 clear h
 replace H := Option.bind_eq_some_iff.mp H
 obtain ⟨t288, A30, H⟩ := H
 try dsimp only at H
 have A3 := Aside0.mk A30
 clear A30
 replace H := Option.bind_eq_some_iff.mp H
 obtain ⟨t289, A40, H⟩ := H
 try dsimp only at H
 have A4 := Aside0.mk A40
 clear A40
 replace H := Option.bind_eq_some_iff.mp H
 obtain ⟨⟨t290, t291⟩, A50, H⟩ := H
 try dsimp only at H
 have A5 := Aside0.mk A50
 clear A50
 by_cases c6 : t291 = true
 ·subst c6
  have H1 : ((whole_little.f t289 18).bind fun bt292 => (if bt292.2 = true then ((whole_gcd.f k t290 bt292.1).bind fun t294 => ((whole_Of.f t294).bind fun t295 => (some t295))) else ((decimal_Gcd.f k t288 t289).bind fun t296 => (some t296)))) = some r := by rw [if_pos rfl] at H; exact H
  clear H
  have H := H1
  clear H1
  replace H := Option.bind_eq_some_iff.mp H
  obtain ⟨⟨t292, t293⟩, A70, H⟩ := H
  try dsimp only at H
  have A7 := Aside0.mk A70
  clear A70
  by_cases c8 : t293 = true
  ·subst c8
   have H1 : ((whole_gcd.f k t290 t292).bind fun t294 => ((whole_Of.f t294).bind fun t295 => (some t295))) = some r := by rw [if_pos rfl] at H; exact H
   clear H
   have H := H1
   clear H1
   replace H := Option.bind_eq_some_iff.mp H
   obtain ⟨t294, A90, H⟩ := H
   try dsimp only at H
   have A9 := Aside0.mk A90
   clear A90
   replace H := Option.bind_eq_some_iff.mp H
   obtain ⟨t295, A100, H⟩ := H
   try dsimp only at H
   have A10 := Aside0.mk A100
   clear A100
   obtain rfl := Option.some.inj H
   go_enter Tryz.func168, Tryz.ntmps168
   go_wp2_with (first | ((with_reducible refine gate_callee (f := 218) rfl ?_); refine goesK (some 12) Tryz.func218 [.string a0] rfl rfl ?_; (with_reducible refine (whole_Abs.calls a0 t288 _ A3.out).mono ?_); rintro e w' ⟨rfl, ⟨nd, rfl⟩⟩; refine ⟨_, rfl, ?_⟩) | ((with_reducible refine gate_callee (f := 218) rfl ?_); refine goesK (some 14) Tryz.func218 [.string a1] rfl rfl ?_; (with_reducible refine (whole_Abs.calls a1 t289 _ A4.out).mono ?_); rintro e w' ⟨rfl, ⟨nd, rfl⟩⟩; refine ⟨_, rfl, ?_⟩) | ((with_reducible refine gate_callee (f := 118) rfl ?_); refine goesK (some 17) Tryz.func118 [.string t288, .int .i64 18] rfl rfl ?_; (with_reducible refine (whole_little.calls t288 18 t290 true _ ?side1 A5.out).mono ?_); (case side1 => refine TabW.below hT ?_; apply_rules [HB.out, below_alloc, pw_below_drewN, below_drew1]); rintro e w11 ⟨rfl, hb⟩; refine ⟨_, rfl, ?_⟩; replace HB := Aside0.mk (below_step (by apply_rules [HB.out, below_alloc, pw_below_drewN, below_drew1]) hb); (try clear hb)) | ((with_reducible refine gate_callee (f := 118) rfl ?_); refine goesK (some 23) Tryz.func118 [.string t289, .int .i64 18] rfl rfl ?_; (with_reducible refine (whole_little.calls t289 18 t292 true _ ?side1 A7.out).mono ?_); (case side1 => refine TabW.below hT ?_; apply_rules [HB.out, below_alloc, pw_below_drewN, below_drew1]); rintro e w12 ⟨rfl, hb⟩; refine ⟨_, rfl, ?_⟩; replace HB := Aside0.mk (below_step (by apply_rules [HB.out, below_alloc, pw_below_drewN, below_drew1]) hb); (try clear hb)) | ((with_reducible refine gate_callee (f := 219) rfl ?_); refine goesK (some 29) Tryz.func219 [.int .i64 t290, .int .i64 t292] rfl rfl ?_; (with_reducible refine (whole_gcd.calls k t290 t292 t294 _ A9.out).mono ?_); rintro e w' ⟨rfl, ⟨nd, rfl⟩⟩; refine ⟨_, rfl, ?_⟩) | ((with_reducible refine gate_callee (f := 104) rfl ?_); refine goesK (some 30) Tryz.func104 [.int .i64 t294] rfl rfl ?_; (with_reducible refine (whole_Of.calls t294 t295 _ ?side1 A10.out).mono ?_); (case side1 => refine TabW.below hT ?_; apply_rules [HB.out, below_alloc, pw_below_drewN, below_drew1]); rintro e w13 ⟨rfl, hb⟩; refine ⟨_, rfl, ?_⟩; replace HB := Aside0.mk (below_step (by apply_rules [HB.out, below_alloc, pw_below_drewN, below_drew1]) hb); (try clear hb)))
   go_ret
   exact ⟨by first | rfl | simp [*], by apply_rules [HB.out, below_alloc, pw_below_drewN, below_drew1]⟩
  ·replace c8 := Bool.eq_false_iff.mpr c8
   subst c8
   have H1 : ((decimal_Gcd.f k t288 t289).bind fun t296 => (some t296)) = some r := by rw [if_neg (show ¬ (false = true) by decide)] at H; exact H
   clear H
   have H := H1
   clear H1
   replace H := Option.bind_eq_some_iff.mp H
   obtain ⟨t296, A140, H⟩ := H
   try dsimp only at H
   have A14 := Aside0.mk A140
   clear A140
   obtain rfl := Option.some.inj H
   go_enter Tryz.func168, Tryz.ntmps168
   go_wp2_with (first | ((with_reducible refine gate_callee (f := 218) rfl ?_); refine goesK (some 12) Tryz.func218 [.string a0] rfl rfl ?_; (with_reducible refine (whole_Abs.calls a0 t288 _ A3.out).mono ?_); rintro e w' ⟨rfl, ⟨nd, rfl⟩⟩; refine ⟨_, rfl, ?_⟩) | ((with_reducible refine gate_callee (f := 218) rfl ?_); refine goesK (some 14) Tryz.func218 [.string a1] rfl rfl ?_; (with_reducible refine (whole_Abs.calls a1 t289 _ A4.out).mono ?_); rintro e w' ⟨rfl, ⟨nd, rfl⟩⟩; refine ⟨_, rfl, ?_⟩) | ((with_reducible refine gate_callee (f := 118) rfl ?_); refine goesK (some 17) Tryz.func118 [.string t288, .int .i64 18] rfl rfl ?_; (with_reducible refine (whole_little.calls t288 18 t290 true _ ?side1 A5.out).mono ?_); (case side1 => refine TabW.below hT ?_; apply_rules [HB.out, below_alloc, pw_below_drewN, below_drew1]); rintro e w15 ⟨rfl, hb⟩; refine ⟨_, rfl, ?_⟩; replace HB := Aside0.mk (below_step (by apply_rules [HB.out, below_alloc, pw_below_drewN, below_drew1]) hb); (try clear hb)) | ((with_reducible refine gate_callee (f := 118) rfl ?_); refine goesK (some 23) Tryz.func118 [.string t289, .int .i64 18] rfl rfl ?_; (with_reducible refine (whole_little.calls t289 18 t292 false _ ?side1 A7.out).mono ?_); (case side1 => refine TabW.below hT ?_; apply_rules [HB.out, below_alloc, pw_below_drewN, below_drew1]); rintro e w16 ⟨rfl, hb⟩; refine ⟨_, rfl, ?_⟩; replace HB := Aside0.mk (below_step (by apply_rules [HB.out, below_alloc, pw_below_drewN, below_drew1]) hb); (try clear hb)) | ((with_reducible refine gate_callee (f := 220) rfl ?_); refine goesK (some 33) Tryz.func220 [.string t288, .string t289] rfl rfl ?_; (with_reducible refine (decimal_Gcd.calls k t288 t289 t296 _ ?side1 A14.out).mono ?_); (case side1 => refine TabW.below hT ?_; apply_rules [HB.out, below_alloc, pw_below_drewN, below_drew1]); rintro e w17 ⟨rfl, hb⟩; refine ⟨_, rfl, ?_⟩; replace HB := Aside0.mk (below_step (by apply_rules [HB.out, below_alloc, pw_below_drewN, below_drew1]) hb); (try clear hb)))
   go_ret
   exact ⟨by first | rfl | simp [*], by apply_rules [HB.out, below_alloc, pw_below_drewN, below_drew1]⟩
 ·replace c6 := Bool.eq_false_iff.mpr c6
  subst c6
  have H1 : ((decimal_Gcd.f k t288 t289).bind fun t297 => (some t297)) = some r := by rw [if_neg (show ¬ (false = true) by decide)] at H; exact H
  clear H
  have H := H1
  clear H1
  replace H := Option.bind_eq_some_iff.mp H
  obtain ⟨t297, A180, H⟩ := H
  try dsimp only at H
  have A18 := Aside0.mk A180
  clear A180
  obtain rfl := Option.some.inj H
  go_enter Tryz.func168, Tryz.ntmps168
  go_wp2_with (first | ((with_reducible refine gate_callee (f := 218) rfl ?_); refine goesK (some 12) Tryz.func218 [.string a0] rfl rfl ?_; (with_reducible refine (whole_Abs.calls a0 t288 _ A3.out).mono ?_); rintro e w' ⟨rfl, ⟨nd, rfl⟩⟩; refine ⟨_, rfl, ?_⟩) | ((with_reducible refine gate_callee (f := 218) rfl ?_); refine goesK (some 14) Tryz.func218 [.string a1] rfl rfl ?_; (with_reducible refine (whole_Abs.calls a1 t289 _ A4.out).mono ?_); rintro e w' ⟨rfl, ⟨nd, rfl⟩⟩; refine ⟨_, rfl, ?_⟩) | ((with_reducible refine gate_callee (f := 118) rfl ?_); refine goesK (some 17) Tryz.func118 [.string t288, .int .i64 18] rfl rfl ?_; (with_reducible refine (whole_little.calls t288 18 t290 false _ ?side1 A5.out).mono ?_); (case side1 => refine TabW.below hT ?_; apply_rules [HB.out, below_alloc, pw_below_drewN, below_drew1]); rintro e w19 ⟨rfl, hb⟩; refine ⟨_, rfl, ?_⟩; replace HB := Aside0.mk (below_step (by apply_rules [HB.out, below_alloc, pw_below_drewN, below_drew1]) hb); (try clear hb)) | ((with_reducible refine gate_callee (f := 220) rfl ?_); refine goesK (some 33) Tryz.func220 [.string t288, .string t289] rfl rfl ?_; (with_reducible refine (decimal_Gcd.calls k t288 t289 t297 _ ?side1 A18.out).mono ?_); (case side1 => refine TabW.below hT ?_; apply_rules [HB.out, below_alloc, pw_below_drewN, below_drew1]); rintro e w20 ⟨rfl, hb⟩; refine ⟨_, rfl, ?_⟩; replace HB := Aside0.mk (below_step (by apply_rules [HB.out, below_alloc, pw_below_drewN, below_drew1]) hb); (try clear hb)))
  go_ret
  exact ⟨by first | rfl | simp [*], by apply_rules [HB.out, below_alloc, pw_below_drewN, below_drew1]⟩
def whole_Neg.f (a0 : ByteArray) : Option (ByteArray) := (whole_split.f a0).bind fun bt671 => ((whole_join.f (!bt671.1) bt671.2).bind fun t673 => (some t673))
set_option maxHeartbeats 8000000 in
set_option maxRecDepth 100000 in
theorem whole_Neg.calls (a0 : ByteArray) (r : ByteArray) (w : World) (h : whole_Neg.f a0 = some r) :
  Calls Tryz.prog 159 #[.string a0] w fun e w' => e = .returned (.string r) ∧ Drawn0 w w' := by
 have H : ((whole_split.f a0).bind fun bt671 => ((whole_join.f (!bt671.1) bt671.2).bind fun t673 => (some t673))) = some r := h
 clear h
 replace H := Option.bind_eq_some_iff.mp H
 obtain ⟨⟨t671, t672⟩, A20, H⟩ := H
 replace H : ((whole_join.f (!t671) t672).bind fun t673 => (some t673)) = some r := H
 have A2 := Aside0.mk A20
 clear A20
 replace H := Option.bind_eq_some_iff.mp H
 obtain ⟨t673, A30, H⟩ := H
 replace H : (some t673) = some r := H
 have A3 := Aside0.mk A30
 clear A30
 obtain rfl := Option.some.inj H
 go_enter Tryz.func159, Tryz.ntmps159
 go_wp2_with (first | ((with_reducible refine gate_callee (f := 117) rfl ?_); refine goesL_ (some 7) rfl rfl Tryz.func117 (by kernel_rfl) rfl #[.string a0] rfl (by (try simp only [List.map_toArray, List.map_cons, List.map_nil]); first | done | rfl | (simp only [List.length_drop, List.length_take]; rfl)) ?_; (with_reducible refine (whole_split.calls a0 t671 t672 _ A2.out).mono ?_); rintro e w' ⟨rfl, ⟨nd, rfl⟩⟩; refine ⟨_, rfl, ?_⟩) | ((with_reducible refine gate_callee (f := 119) rfl ?_); refine goesL_ (some 13) rfl rfl Tryz.func119 (by kernel_rfl) rfl #[.bool (!t671), .string t672] rfl (by (try simp only [List.map_toArray, List.map_cons, List.map_nil]); first | done | rfl | (simp only [List.length_drop, List.length_take]; rfl)) ?_; (with_reducible refine (whole_join.calls (!t671) t672 t673 _ A3.out).mono ?_); rintro e w' ⟨rfl, ⟨nd, rfl⟩⟩; refine ⟨_, rfl, ?_⟩))
 go_ret
 exact ⟨by first | rfl | (simp; done) | (simp [*]; done), by repeat (first | exact Drawn0.refl _ | apply Drawn0.step)⟩
end Go.Proofs.YtccebdpjdpjgnaaGreatDoor.P
end
