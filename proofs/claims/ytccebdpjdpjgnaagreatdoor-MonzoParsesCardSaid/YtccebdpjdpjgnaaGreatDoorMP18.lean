/-
parts of the walks and of the plain laws: PdecimalDivMod PdecimalGcd PdecimalCheck
-/
import Derived.Test.YtccebdpjdpjgnaaGreatDoorMP17
import Derived.Test.YtccebdpjdpjgnaaGreatDoorMP14
set_option linter.unusedVariables false
set_option linter.unusedSimpArgs false
section
namespace Go.Proofs.YtccebdpjdpjgnaaGreatDoor.P
open Go.RowKit Go.Proofs.YtccebdpjdpjgnaaGreatDoorW.PrintWords Go.Proofs.YtccebdpjdpjgnaaGreatDoorW.PrintLast Go.Proofs.YtccebdpjdpjgnaaGreatDoorW.PrintMore
attribute [local go_sem] max2_int min2_int max_two min_two max_three min_three max_four min_four
def decimal_DivMod.f (k : Nat) (a0 : ByteArray) (a1 : ByteArray) : Option (ByteArray × ByteArray × Int) := if a1.toList = ([48] : List UInt8) then (some ((⟨#[]⟩ : ByteArray), (⟨#[]⟩ : ByteArray), 17)) else ((decimal_both.f k a0 a1).bind fun bt258 => (if bt258.2.2 = true then (if bt258.2.1 = 0 then (none) else ((decimal_Of.f (IntKind.u64.wrap (Int.tdiv bt258.1 bt258.2.1))).bind fun t261 => ((decimal_Of.f (Int.tmod bt258.1 bt258.2.1)).bind fun t262 => (some (t261, t262, 0))))) else ((decimal_cut.f k a0).bind fun t263 => ((decimal_cut.f k a1).bind fun t266 => ((decimal_pieces_compare.f k t263 t266).bind fun t269 => (if t269 < 0 then (some ((⟨#[48]⟩ : ByteArray), a0, 0)) else (if (t266.length : Int) = 1 then (if 0 < (t266.length : Int) then ((decimal_pieces_small.f k t263 (rd t266 0)).bind fun bt271 => ((decimal_pieces_text.f k bt271.1).bind fun t275 => ((decimal_Of.f bt271.2).bind fun t276 => (some (t275, t276, 0))))) else (none)) else ((decimal_pieces_divide.f k t263 t266).bind fun bt277 => ((decimal_pieces_text.f k bt277.1).bind fun t283 => ((decimal_pieces_text.f k bt277.2).bind fun t284 => (some (t283, t284, 0))))))))))))
def decimal_DivMod.T5 : Bool × List (List Nat × List Nat) := (true, [([], []), ([], []), ([0, 1], [0, 1]), ([2], [2]), ([], []), ([], []), ([4, 5], [4, 5]), ([6, 3], [6]), ([3, 7, 0, 1, 2, 3], [3]), ([7, 8, 0, 1, 2, 3, 4, 5, 6, 7, 8], [7]), ([9, 0, 1, 2, 3, 4, 5, 6, 7, 8, 9], [])])
def decimal_DivMod.B5 : List Nat := [0, 0, 3, 7, 0, 0, 48, 127, 255, 511, 1023]
theorem decimal_DivMod.tab5 : rtab .any (opsOf Tryz.f177 5) = decimal_DivMod.T5 := by kernel_rfl
theorem decimal_DivMod.bits5 : waitsOk decimal_DivMod.T5.2 decimal_DivMod.B5 = true := by kernel_rfl
set_option maxHeartbeats 8000000 in
set_option maxRecDepth 100000 in
theorem decimal_DivMod.calls (k : Nat) (a0 : ByteArray) (a1 : ByteArray) (r1 : ByteArray) (r2 : ByteArray) (r3 : Int) (w : World) (hT : TabW w) (h : decimal_DivMod.f k a0 a1 = some (r1, r2, r3)) :
  Calls Tryz.prog 177 #[.string a0, .string a1] w fun e w' => e = .returned (.tuple #[.string r1, .string r2, .int .i64 r3]) ∧ Below w.heap.size w w' := by
 have HB := Aside0.mk (Below.refl w.heap.size w)
 have H : (if a1.toList = ([48] : List UInt8) then (some ((⟨#[]⟩ : ByteArray), (⟨#[]⟩ : ByteArray), 17)) else ((decimal_both.f k a0 a1).bind fun bt258 => (if bt258.2.2 = true then (if bt258.2.1 = 0 then (none) else ((decimal_Of.f (IntKind.u64.wrap (Int.tdiv bt258.1 bt258.2.1))).bind fun t261 => ((decimal_Of.f (Int.tmod bt258.1 bt258.2.1)).bind fun t262 => (some (t261, t262, 0))))) else ((decimal_cut.f k a0).bind fun t263 => ((decimal_cut.f k a1).bind fun t266 => ((decimal_pieces_compare.f k t263 t266).bind fun t269 => (if t269 < 0 then (some ((⟨#[48]⟩ : ByteArray), a0, 0)) else (if (t266.length : Int) = 1 then (if 0 < (t266.length : Int) then ((decimal_pieces_small.f k t263 (rd t266 0)).bind fun bt271 => ((decimal_pieces_text.f k bt271.1).bind fun t275 => ((decimal_Of.f bt271.2).bind fun t276 => (some (t275, t276, 0))))) else (none)) else ((decimal_pieces_divide.f k t263 t266).bind fun bt277 => ((decimal_pieces_text.f k bt277.1).bind fun t283 => ((decimal_pieces_text.f k bt277.2).bind fun t284 => (some (t283, t284, 0))))))))))))) = some (r1, r2, r3) := h
 clear h
 by_cases c3 : a1.toList = ([48] : List UInt8)
 ·rw [if_pos c3] at H
  have c3b0 : (a1.toList == ([48] : List UInt8)) = true := beq_iff_eq.mpr c3
  have c3b1 : (a1.toList != ([48] : List UInt8)) = false := bne_eq_false_iff_eq.mpr c3
  clear c3
  simp only [Option.some.injEq, Prod.mk.injEq] at H
  obtain ⟨rfl, rfl, rfl⟩ := H
  go_enter Tryz.func177, Tryz.ntmps177
  go_wp2
  go_ret3
  exact ⟨by first | rfl | simp [*], by apply_rules [HB.out, below_alloc, pw_below_drewN, below_drew1]⟩
 ·rw [if_neg c3] at H
  have c3b0 : (a1.toList == ([48] : List UInt8)) = false := beq_eq_false_iff_ne.mpr c3
  have c3b1 : (a1.toList != ([48] : List UInt8)) = true := bne_iff_ne.mpr c3
  replace H := Option.bind_eq_some_iff.mp H
  obtain ⟨⟨t258, t259, t260⟩, A40, H⟩ := H
  try dsimp only at H
  have A4 := Aside0.mk A40
  clear A40
  by_cases c5 : t260 = true
  ·subst c5
   have H1 : (if t259 = 0 then (none) else ((decimal_Of.f (IntKind.u64.wrap (Int.tdiv t258 t259))).bind fun t261 => ((decimal_Of.f (Int.tmod t258 t259)).bind fun t262 => (some (t261, t262, 0))))) = some (r1, r2, r3) := by rw [if_pos rfl] at H; exact H
   clear H
   have H := H1
   clear H1
   by_cases c6 : t259 = 0
   case pos => rw [if_pos c6] at H; exact absurd H (by simp)
   rw [if_neg c6] at H
   have c6b0 : (t259 == 0) = false := beq_eq_false_iff_ne.mpr c6
   have c6b1 : (t259 != 0) = true := bne_iff_ne.mpr c6
   replace H := Option.bind_eq_some_iff.mp H
   obtain ⟨t261, A70, H⟩ := H
   try dsimp only at H
   have A7 := Aside0.mk A70
   clear A70
   replace H := Option.bind_eq_some_iff.mp H
   obtain ⟨t262, A80, H⟩ := H
   try dsimp only at H
   have A8 := Aside0.mk A80
   clear A80
   simp only [Option.some.injEq, Prod.mk.injEq] at H
   obtain ⟨rfl, rfl, rfl⟩ := H
   go_enter Tryz.func177, Tryz.ntmps177
   try go_wp2_with (first | ((with_reducible refine gate_callee (f := 175) rfl ?_); refine goesK (some 21) Tryz.func175 [.string a0, .string a1] rfl rfl ?_; (with_reducible refine (decimal_both.calls k a0 a1 t258 t259 true _ ?side1 A4.out).mono ?_); (case side1 => refine TabW.below hT ?_; apply_rules [HB.out, below_alloc, pw_below_drewN, below_drew1]); rintro e w9 ⟨rfl, hb⟩; refine ⟨_, rfl, ?_⟩; replace HB := Aside0.mk (below_step (by apply_rules [HB.out, below_alloc, pw_below_drewN, below_drew1]) hb); (try clear hb)))
   have n0_ := Aside0.mk (below_drew1 HB.out)
   clear HB
   have HB := n0_
   clear n0_
   refine start_ (n := 11) (S := fun w' => True) (ds := []) #[false, false, false, false, false, false, false, false, false, false, false] (by kernel_rfl) rfl rfl trivial (fun hHeld => ?_); refine with_tabW decimal_DivMod.tab5 decimal_DivMod.bits5 (fun HT_ HW_ => ?_)
   generalize w9.drew = w10 at HB hHeld ⊢
   refine pure_ (i := 0) (N := some 26) (v := ?_) (a' := ?_) #[true, false, false, false, false, false, false, false, false, false, false] rfl rfl (any_of HT_.out (by kernel_rfl)) (fun _ _ _ h => h) (Or.inl ⟨by rfl, ?_⟩) ?_ ?_
   rotate_left
   ·intro w'
    go_simp
    with_reducible rfl
   rotate_left
   ·simp only [Act.put, List.setIfInBounds_toArray, List.set_cons_zero, List.set_cons_succ, i64_w, i32_w]
    rfl
   refine pure_ (i := 1) (N := some 27) (v := ?_) (a' := ?_) #[true, true, false, false, false, false, false, false, false, false, false] rfl rfl (any_of HT_.out (by kernel_rfl)) (fun _ _ _ h => h) (Or.inl ⟨by rfl, ?_⟩) ?_ ?_
   rotate_left
   ·intro w'
    go_simp
    with_reducible rfl
   rotate_left
   ·simp only [Act.put, List.setIfInBounds_toArray, List.set_cons_zero, List.set_cons_succ, i64_w, i32_w]
    rfl
   refine pure_ (i := 2) (N := some 28) (v := ?_) (a' := ?_) #[true, true, true, false, false, false, false, false, false, false, false] rfl rfl (any_of HT_.out (by kernel_rfl)) (fun _ _ _ h => h) (Or.inl ⟨by rfl, ?_⟩) ?_ ?_
   rotate_left
   ·intro w'
    go_simp
    with_reducible rfl
   rotate_left
   ·simp only [Act.put, List.setIfInBounds_toArray, List.set_cons_zero, List.set_cons_succ, i64_w, i32_w]
    rfl
   refine pure_ (i := 4) (N := some 30) (v := ?_) (a' := ?_) #[true, true, true, false, true, false, false, false, false, false, false] rfl rfl (any_of HT_.out (by kernel_rfl)) (fun _ _ _ h => h) (Or.inl ⟨by rfl, ?_⟩) ?_ ?_
   rotate_left
   ·intro w'
    go_simp
    with_reducible rfl
   rotate_left
   ·simp only [Act.put, List.setIfInBounds_toArray, List.set_cons_zero, List.set_cons_succ, i64_w, i32_w]
    rfl
   refine pure_ (i := 5) (N := some 31) (v := ?_) (a' := ?_) #[true, true, true, false, true, true, false, false, false, false, false] rfl rfl (any_of HT_.out (by kernel_rfl)) (fun _ _ _ h => h) (Or.inl ⟨by rfl, ?_⟩) ?_ ?_
   rotate_left
   ·intro w'
    go_simp
    with_reducible rfl
   rotate_left
   ·simp only [Act.put, List.setIfInBounds_toArray, List.set_cons_zero, List.set_cons_succ, i64_w, i32_w]
    rfl
   refine pure_ (i := 6) (N := some 32) (v := ?_) (a' := ?_) #[true, true, true, false, true, true, true, false, false, false, false] rfl rfl (any_of HT_.out (by kernel_rfl)) (fun _ _ _ h => h) (Or.inl ⟨by rfl, ?_⟩) ?_ ?_
   rotate_left
   ·intro w'
    go_simp
    with_reducible rfl
   rotate_left
   ·simp only [Act.put, List.setIfInBounds_toArray, List.set_cons_zero, List.set_cons_succ, i64_w, i32_w]
    rfl
   refine one_ (i := 3) (N := some 29) #[true, true, true, true, true, true, true, false, false, false, false] rfl rfl (one_of HT_.out (by kernel_rfl)) (by decide) (fun K hK => ?_)
   refine goes_ Tryz.func169 (by kernel_rfl) rfl #[.int .u64 (IntKind.u64.wrap (Int.tdiv t258 t259))] (by rfl) rfl rfl (by (try simp only [List.map_toArray, List.map_cons, List.map_nil]); first | done | rfl | (simp only [List.length_drop, List.length_take]; rfl)) ?_
   with_reducible refine (decimal_Of.calls (IntKind.u64.wrap (Int.tdiv t258 t259)) t261 _ ?side1 A7.out).mono ?_
   (case side1 => refine TabW.below hT ?_; apply_rules [HB.out, below_alloc, pw_below_drewN, below_drew1])
   rintro e w11 ⟨rfl, hb⟩
   refine ⟨_, rfl, ?_⟩
   have n0_ := Aside0.mk (below_step (by apply_rules [HB.out, below_alloc, pw_below_drewN, below_drew1]) hb)
   clear HB
   have HB := n0_
   clear n0_
   (try clear hb)
   (try clear hb2)
   (try clear hk)
   (try clear hi)
   refine hK.out _ _ trivial (fun hHeld => ?_)
   clear hK K
   refine norm_ (a' := ?_) ?_ ?_
   rotate_left
   ·show Act.put _ (some 29) _ = _
    simp only [Act.put, List.setIfInBounds_toArray, List.set_cons_zero, List.set_cons_succ, i64_w, i32_w]
    rfl
   refine one_ (i := 7) (N := some 33) #[true, true, true, true, true, true, true, true, false, false, false] rfl rfl (one_of HT_.out (by kernel_rfl)) (by decide) (fun K hK => ?_)
   refine goes_ Tryz.func169 (by kernel_rfl) rfl #[.int .u64 (Int.tmod t258 t259)] (by rfl) rfl rfl (by (try simp only [List.map_toArray, List.map_cons, List.map_nil]); first | done | rfl | (simp only [List.length_drop, List.length_take]; rfl)) ?_
   with_reducible refine (decimal_Of.calls (Int.tmod t258 t259) t262 _ ?side1 A8.out).mono ?_
   (case side1 => refine TabW.below hT ?_; apply_rules [HB.out, below_alloc, pw_below_drewN, below_drew1])
   rintro e w12 ⟨rfl, hb⟩
   refine ⟨_, rfl, ?_⟩
   have n0_ := Aside0.mk (below_step (by apply_rules [HB.out, below_alloc, pw_below_drewN, below_drew1]) hb)
   clear HB
   have HB := n0_
   clear n0_
   (try clear hb)
   (try clear hb2)
   (try clear hk)
   (try clear hi)
   refine hK.out _ _ trivial (fun hHeld => ?_)
   clear hK K
   refine norm_ (a' := ?_) ?_ ?_
   rotate_left
   ·show Act.put _ (some 33) _ = _
    simp only [Act.put, List.setIfInBounds_toArray, List.set_cons_zero, List.set_cons_succ, i64_w, i32_w]
    rfl
   refine pure_ (i := 8) (N := some 4) (v := ?_) (a' := ?_) #[true, true, true, true, true, true, true, true, true, false, false] rfl rfl (any_of HT_.out (by kernel_rfl)) (fun _ _ _ h => h) (Or.inl ⟨by rfl, ?_⟩) ?_ ?_
   rotate_left
   ·intro w'
    go_simp
    with_reducible rfl
   rotate_left
   ·simp only [Act.put, List.setIfInBounds_toArray, List.set_cons_zero, List.set_cons_succ, i64_w, i32_w]
    rfl
   refine pure_ (i := 9) (N := some 5) (v := ?_) (a' := ?_) #[true, true, true, true, true, true, true, true, true, true, false] rfl rfl (any_of HT_.out (by kernel_rfl)) (fun _ _ _ h => h) (Or.inl ⟨by rfl, ?_⟩) ?_ ?_
   rotate_left
   ·intro w'
    go_simp
    with_reducible rfl
   rotate_left
   ·simp only [Act.put, List.setIfInBounds_toArray, List.set_cons_zero, List.set_cons_succ, i64_w, i32_w]
    rfl
   refine pure_ (i := 10) (N := some 6) (v := ?_) (a' := ?_) #[true, true, true, true, true, true, true, true, true, true, true] rfl rfl (any_of HT_.out (by kernel_rfl)) (fun _ _ _ h => h) (Or.inl ⟨by rfl, ?_⟩) ?_ ?_
   rotate_left
   ·intro w'
    go_simp
    with_reducible rfl
   rotate_left
   ·simp only [Act.put, List.setIfInBounds_toArray, List.set_cons_zero, List.set_cons_succ, i64_w, i32_w]
    rfl
   refine done_ (done_of HT_.out (by kernel_rfl)) ?_
   try go_wp2
   go_ret3
   exact ⟨by first | rfl | simp [*], by apply_rules [HB.out, below_alloc, pw_below_drewN, below_drew1]⟩
  ·replace c5 := Bool.eq_false_iff.mpr c5
   subst c5
   have H1 : ((decimal_cut.f k a0).bind fun t263 => ((decimal_cut.f k a1).bind fun t266 => ((decimal_pieces_compare.f k t263 t266).bind fun t269 => (if t269 < 0 then (some ((⟨#[48]⟩ : ByteArray), a0, 0)) else (if (t266.length : Int) = 1 then (if 0 < (t266.length : Int) then ((decimal_pieces_small.f k t263 (rd t266 0)).bind fun bt271 => ((decimal_pieces_text.f k bt271.1).bind fun t275 => ((decimal_Of.f bt271.2).bind fun t276 => (some (t275, t276, 0))))) else (none)) else ((decimal_pieces_divide.f k t263 t266).bind fun bt277 => ((decimal_pieces_text.f k bt277.1).bind fun t283 => ((decimal_pieces_text.f k bt277.2).bind fun t284 => (some (t283, t284, 0)))))))))) = some (r1, r2, r3) := by rw [if_neg (show ¬ (false = true) by decide)] at H; exact H
   clear H
   have H := H1
   clear H1
   replace H := Option.bind_eq_some_iff.mp H
   obtain ⟨t263, A130, H⟩ := H
   try dsimp only at H
   have A13 := Aside0.mk A130
   clear A130
   replace H := Option.bind_eq_some_iff.mp H
   obtain ⟨t266, A140, H⟩ := H
   try dsimp only at H
   have A14 := Aside0.mk A140
   clear A140
   replace H := Option.bind_eq_some_iff.mp H
   obtain ⟨t269, A150, H⟩ := H
   try dsimp only at H
   have A15 := Aside0.mk A150
   clear A150
   by_cases c16 : t269 < 0
   ·rw [if_pos c16] at H
    have c16b0 : decide (t269 < 0) = true := decide_eq_true c16
    clear c16
    simp only [Option.some.injEq, Prod.mk.injEq] at H
    obtain ⟨rfl, rfl, rfl⟩ := H
    go_enter Tryz.func177, Tryz.ntmps177
    go_wp2_with (first | ((with_reducible refine gate_callee (f := 175) rfl ?_); refine goesK (some 21) Tryz.func175 [.string a0, .string a1] rfl rfl ?_; (with_reducible refine (decimal_both.calls k a0 a1 t258 t259 false _ ?side1 A4.out).mono ?_); (case side1 => refine TabW.below hT ?_; apply_rules [HB.out, below_alloc, pw_below_drewN, below_drew1]); rintro e w17 ⟨rfl, hb⟩; refine ⟨_, rfl, ?_⟩; replace HB := Aside0.mk (below_step (by apply_rules [HB.out, below_alloc, pw_below_drewN, below_drew1]) hb); (try clear hb)) | ((with_reducible refine gate_callee (f := 108) rfl ?_); refine goesK (some 35) Tryz.func108 [.string a0] rfl rfl ?_; (with_reducible refine (decimal_cut.calls k a0 t263 _ A13.out).mono ?_); rintro e w18 ⟨v264, rfl, ho0, hb⟩; refine ⟨_, rfl, ?_⟩; have HO265 := Aside0.mk (Kd.R_lower ho0 (below_size (by apply_rules [HB.out, below_alloc, pw_below_drewN, below_drew1]))); replace HB := Aside0.mk (below_step (by apply_rules [HB.out, below_alloc, pw_below_drewN, below_drew1]) hb); (try clear hb); (try clear ho0)) | ((with_reducible refine gate_callee (f := 108) rfl ?_); refine goesK (some 37) Tryz.func108 [.string a1] rfl rfl ?_; (with_reducible refine (decimal_cut.calls k a1 t266 _ A14.out).mono ?_); rintro e w19 ⟨v267, rfl, ho0, hb⟩; refine ⟨_, rfl, ?_⟩; have n0_ := Aside0.mk (Kd.R_elder' (by apply_rules [HO265.out, Kd.R_alloc, Kd.R_drewN, Kd.R_drew]) (Kd.R_base ho0) hb); have n1_ := Aside0.mk (Kd.R_lower (Kd.R_new' ho0 (Kd.R_lt (by apply_rules [HO265.out, Kd.R_alloc, Kd.R_drewN, Kd.R_drew]))) (below_size (by apply_rules [HB.out, below_alloc, pw_below_drewN, below_drew1]))); have n2_ := Aside0.mk (below_step (by apply_rules [HB.out, below_alloc, pw_below_drewN, below_drew1]) hb); clear HO265; clear HB; have HO265 := n0_; have HO268 := n1_; have HB := n2_; clear n0_ n1_ n2_; (try clear hb); (try clear ho0); obtain ⟨Ao20, co20, eo20⟩ := Kd.R_slice HO265.out; subst eo20; obtain ⟨Ao21, co21, eo21⟩ := Kd.R_slice HO268.out; subst eo21) | ((with_reducible refine gate_callee (f := 223) rfl ?_); refine goesK (some 40) Tryz.func223 [.slice Ao20 t263.length co20, .slice Ao21 t266.length co21] rfl rfl ?_; (with_reducible refine (decimal_pieces_compare.calls k _ _ t263 _ _ t266 t269 _ ?side1 ?side2 ?side3 ?side4 A15.out).mono ?_); (case side1 => apply_rules [(Kd.R_reads' HO265.out).2.2, Kd.C_alloc, Kd.C_drewN, Kd.C_drew]); (case side2 => exact (Kd.R_reads' HO265.out).2.1); (case side3 => apply_rules [(Kd.R_reads' HO268.out).2.2, Kd.C_alloc, Kd.C_drewN, Kd.C_drew]); (case side4 => exact (Kd.R_reads' HO268.out).2.1); rintro e w22 ⟨rfl, hb⟩; refine ⟨_, rfl, ?_⟩; replace HO265 := Aside0.mk (Kd.R_below (by apply_rules [HO265.out, Kd.R_alloc, Kd.R_drewN, Kd.R_drew]) hb); replace HO268 := Aside0.mk (Kd.R_below (by apply_rules [HO268.out, Kd.R_alloc, Kd.R_drewN, Kd.R_drew]) hb); replace HB := Aside0.mk (below_step (by apply_rules [HB.out, below_alloc, pw_below_drewN, below_drew1]) hb); (try clear hb)))
    go_ret3
    exact ⟨by first | rfl | simp [*], by apply_rules [HB.out, below_alloc, pw_below_drewN, below_drew1]⟩
   ·rw [if_neg c16] at H
    have c16b0 : decide (t269 < 0) = false := decide_eq_false c16
    clear c16
    by_cases c23 : (t266.length : Int) = 1
    ·rw [if_pos c23] at H
     have c23b0 : ((t266.length : Int) == 1) = true := beq_iff_eq.mpr c23
     have c23b1 : ((t266.length : Int) != 1) = false := bne_eq_false_iff_eq.mpr c23
     clear c23
     by_cases c24 : 0 < (t266.length : Int)
     case neg => rw [if_neg c24] at H; exact absurd H (by simp)
     rw [if_pos c24] at H
     have c24b0 : decide (0 < (t266.length : Int)) = true := decide_eq_true c24
     have c24b1 : decide (0 < t266.length) = true := decide_eq_true (by omega)
     clear c24
     replace H := Option.bind_eq_some_iff.mp H
     obtain ⟨⟨t271, t272⟩, A250, H⟩ := H
     try dsimp only at H
     have A25 := Aside0.mk A250
     clear A250
     replace H := Option.bind_eq_some_iff.mp H
     obtain ⟨t275, A260, H⟩ := H
     try dsimp only at H
     have A26 := Aside0.mk A260
     clear A260
     replace H := Option.bind_eq_some_iff.mp H
     obtain ⟨t276, A270, H⟩ := H
     try dsimp only at H
     have A27 := Aside0.mk A270
     clear A270
     simp only [Option.some.injEq, Prod.mk.injEq] at H
     obtain ⟨rfl, rfl, rfl⟩ := H
     go_enter Tryz.func177, Tryz.ntmps177
     go_wp2_with (first | ((with_reducible refine gate_callee (f := 175) rfl ?_); refine goesK (some 21) Tryz.func175 [.string a0, .string a1] rfl rfl ?_; (with_reducible refine (decimal_both.calls k a0 a1 t258 t259 false _ ?side1 A4.out).mono ?_); (case side1 => refine TabW.below hT ?_; apply_rules [HB.out, below_alloc, pw_below_drewN, below_drew1]); rintro e w28 ⟨rfl, hb⟩; refine ⟨_, rfl, ?_⟩; replace HB := Aside0.mk (below_step (by apply_rules [HB.out, below_alloc, pw_below_drewN, below_drew1]) hb); (try clear hb)) | ((with_reducible refine gate_callee (f := 108) rfl ?_); refine goesK (some 35) Tryz.func108 [.string a0] rfl rfl ?_; (with_reducible refine (decimal_cut.calls k a0 t263 _ A13.out).mono ?_); rintro e w29 ⟨v264, rfl, ho0, hb⟩; refine ⟨_, rfl, ?_⟩; have HO265 := Aside0.mk (Kd.R_lower ho0 (below_size (by apply_rules [HB.out, below_alloc, pw_below_drewN, below_drew1]))); replace HB := Aside0.mk (below_step (by apply_rules [HB.out, below_alloc, pw_below_drewN, below_drew1]) hb); (try clear hb); (try clear ho0)) | ((with_reducible refine gate_callee (f := 108) rfl ?_); refine goesK (some 37) Tryz.func108 [.string a1] rfl rfl ?_; (with_reducible refine (decimal_cut.calls k a1 t266 _ A14.out).mono ?_); rintro e w30 ⟨v267, rfl, ho0, hb⟩; refine ⟨_, rfl, ?_⟩; have n0_ := Aside0.mk (Kd.R_elder' (by apply_rules [HO265.out, Kd.R_alloc, Kd.R_drewN, Kd.R_drew]) (Kd.R_base ho0) hb); have n1_ := Aside0.mk (Kd.R_lower (Kd.R_new' ho0 (Kd.R_lt (by apply_rules [HO265.out, Kd.R_alloc, Kd.R_drewN, Kd.R_drew]))) (below_size (by apply_rules [HB.out, below_alloc, pw_below_drewN, below_drew1]))); have n2_ := Aside0.mk (below_step (by apply_rules [HB.out, below_alloc, pw_below_drewN, below_drew1]) hb); clear HO265; clear HB; have HO265 := n0_; have HO268 := n1_; have HB := n2_; clear n0_ n1_ n2_; (try clear hb); (try clear ho0); obtain ⟨Ao31, co31, eo31⟩ := Kd.R_slice HO265.out; subst eo31; obtain ⟨Ao32, co32, eo32⟩ := Kd.R_slice HO268.out; subst eo32) | ((with_reducible refine gate_callee (f := 223) rfl ?_); refine goesK (some 40) Tryz.func223 [.slice Ao31 t263.length co31, .slice Ao32 t266.length co32] rfl rfl ?_; (with_reducible refine (decimal_pieces_compare.calls k _ _ t263 _ _ t266 t269 _ ?side1 ?side2 ?side3 ?side4 A15.out).mono ?_); (case side1 => apply_rules [(Kd.R_reads' HO265.out).2.2, Kd.C_alloc, Kd.C_drewN, Kd.C_drew]); (case side2 => exact (Kd.R_reads' HO265.out).2.1); (case side3 => apply_rules [(Kd.R_reads' HO268.out).2.2, Kd.C_alloc, Kd.C_drewN, Kd.C_drew]); (case side4 => exact (Kd.R_reads' HO268.out).2.1); rintro e w33 ⟨rfl, hb⟩; refine ⟨_, rfl, ?_⟩; replace HO265 := Aside0.mk (Kd.R_below (by apply_rules [HO265.out, Kd.R_alloc, Kd.R_drewN, Kd.R_drew]) hb); replace HO268 := Aside0.mk (Kd.R_below (by apply_rules [HO268.out, Kd.R_alloc, Kd.R_drewN, Kd.R_drew]) hb); replace HB := Aside0.mk (below_step (by apply_rules [HB.out, below_alloc, pw_below_drewN, below_drew1]) hb); (try clear hb); have p270 : 0 ≤ (0 : Int) := (by omega); have q270 : 0 < (t266.length : Int) := of_decide_eq_true (by assumption); obtain ⟨ad270, e270, hx270_0⟩ := Kd.at_int (Kd.R_reads' HO268.out).2.2 0 p270 q270; cases e270; have qi270 : (0 < t266.length) = True := eq_true (by omega); (try rw [show ((0 : Int)).toNat = 0 from rfl] at hx270_0); (try rw [Addr.add_zero'] at hx270_0); replace p270 := eq_true p270; replace q270 := eq_true q270) | ((with_reducible refine gate_callee (f := 224) rfl ?_); refine goesK (some 51) Tryz.func224 [.slice Ao31 t263.length co31, .int .u64 (rd t266 0)] rfl rfl ?_; (with_reducible refine (decimal_pieces_small.calls k _ _ t263 (rd t266 0) t271 t272 _ ?side1 ?side2 A25.out).mono ?_); (case side1 => apply_rules [(Kd.R_reads' HO265.out).2.2, Kd.C_alloc, Kd.C_drewN, Kd.C_drew]); (case side2 => exact (Kd.R_reads' HO265.out).2.1); rintro e w34 ⟨v273, rfl, ho0, hb⟩; refine ⟨_, rfl, ?_⟩; have n0_ := Aside0.mk (Kd.R_elder' (by apply_rules [HO265.out, Kd.R_alloc, Kd.R_drewN, Kd.R_drew]) (Kd.R_base ho0) hb); have n1_ := Aside0.mk (Kd.R_elder' (by apply_rules [HO268.out, Kd.R_alloc, Kd.R_drewN, Kd.R_drew]) (Kd.R_base ho0) hb); have n2_ := Aside0.mk (Kd.R_lower (Kd.R_new' (Kd.R_new' ho0 (Kd.R_lt (by apply_rules [HO265.out, Kd.R_alloc, Kd.R_drewN, Kd.R_drew]))) (Kd.R_lt (by apply_rules [HO268.out, Kd.R_alloc, Kd.R_drewN, Kd.R_drew]))) (below_size (by apply_rules [HB.out, below_alloc, pw_below_drewN, below_drew1]))); have n3_ := Aside0.mk (below_step (by apply_rules [HB.out, below_alloc, pw_below_drewN, below_drew1]) hb); clear HO265; clear HO268; clear HB; have HO265 := n0_; have HO268 := n1_; have HO274 := n2_; have HB := n3_; clear n0_ n1_ n2_ n3_; (try clear hb); (try clear ho0); obtain ⟨Ao35, co35, eo35⟩ := Kd.R_slice HO274.out; subst eo35) | ((with_reducible refine gate_callee (f := 110) rfl ?_); refine goesK (some 55) Tryz.func110 [.slice Ao35 t271.length co35] rfl rfl ?_; (with_reducible refine (decimal_pieces_text.calls k _ _ t271 t275 _ ?side1 ?side2 A26.out).mono ?_); (case side1 => apply_rules [(Kd.R_reads' HO274.out).2.2, Kd.C_alloc, Kd.C_drewN, Kd.C_drew]); (case side2 => exact (Kd.R_reads' HO274.out).2.1); rintro e w36 ⟨rfl, hb⟩; refine ⟨_, rfl, ?_⟩; replace HO265 := Aside0.mk (Kd.R_below (by apply_rules [HO265.out, Kd.R_alloc, Kd.R_drewN, Kd.R_drew]) hb); replace HO268 := Aside0.mk (Kd.R_below (by apply_rules [HO268.out, Kd.R_alloc, Kd.R_drewN, Kd.R_drew]) hb); replace HO274 := Aside0.mk (Kd.R_below (by apply_rules [HO274.out, Kd.R_alloc, Kd.R_drewN, Kd.R_drew]) hb); replace HB := Aside0.mk (below_step (by apply_rules [HB.out, below_alloc, pw_below_drewN, below_drew1]) hb); (try clear hb)) | ((with_reducible refine gate_callee (f := 169) rfl ?_); refine goesK (some 57) Tryz.func169 [.int .u64 t272] rfl rfl ?_; (with_reducible refine (decimal_Of.calls t272 t276 _ ?side1 A27.out).mono ?_); (case side1 => refine TabW.below hT ?_; apply_rules [HB.out, below_alloc, pw_below_drewN, below_drew1]); rintro e w37 ⟨rfl, hb⟩; refine ⟨_, rfl, ?_⟩; replace HO265 := Aside0.mk (Kd.R_below (by apply_rules [HO265.out, Kd.R_alloc, Kd.R_drewN, Kd.R_drew]) hb); replace HO268 := Aside0.mk (Kd.R_below (by apply_rules [HO268.out, Kd.R_alloc, Kd.R_drewN, Kd.R_drew]) hb); replace HO274 := Aside0.mk (Kd.R_below (by apply_rules [HO274.out, Kd.R_alloc, Kd.R_drewN, Kd.R_drew]) hb); replace HB := Aside0.mk (below_step (by apply_rules [HB.out, below_alloc, pw_below_drewN, below_drew1]) hb); (try clear hb)))
     go_ret3
     exact ⟨by first | rfl | simp [*], by apply_rules [HB.out, below_alloc, pw_below_drewN, below_drew1]⟩
    ·rw [if_neg c23] at H
     have c23b0 : ((t266.length : Int) == 1) = false := beq_eq_false_iff_ne.mpr c23
     have c23b1 : ((t266.length : Int) != 1) = true := bne_iff_ne.mpr c23
     replace H := Option.bind_eq_some_iff.mp H
     obtain ⟨⟨t277, t278⟩, A380, H⟩ := H
     try dsimp only at H
     have A38 := Aside0.mk A380
     clear A380
     replace H := Option.bind_eq_some_iff.mp H
     obtain ⟨t283, A390, H⟩ := H
     try dsimp only at H
     have A39 := Aside0.mk A390
     clear A390
     replace H := Option.bind_eq_some_iff.mp H
     obtain ⟨t284, A400, H⟩ := H
     try dsimp only at H
     have A40 := Aside0.mk A400
     clear A400
     simp only [Option.some.injEq, Prod.mk.injEq] at H
     obtain ⟨rfl, rfl, rfl⟩ := H
     go_enter Tryz.func177, Tryz.ntmps177
     go_wp2_with (first | ((with_reducible refine gate_callee (f := 175) rfl ?_); refine goesK (some 21) Tryz.func175 [.string a0, .string a1] rfl rfl ?_; (with_reducible refine (decimal_both.calls k a0 a1 t258 t259 false _ ?side1 A4.out).mono ?_); (case side1 => refine TabW.below hT ?_; apply_rules [HB.out, below_alloc, pw_below_drewN, below_drew1]); rintro e w41 ⟨rfl, hb⟩; refine ⟨_, rfl, ?_⟩; replace HB := Aside0.mk (below_step (by apply_rules [HB.out, below_alloc, pw_below_drewN, below_drew1]) hb); (try clear hb)) | ((with_reducible refine gate_callee (f := 108) rfl ?_); refine goesK (some 35) Tryz.func108 [.string a0] rfl rfl ?_; (with_reducible refine (decimal_cut.calls k a0 t263 _ A13.out).mono ?_); rintro e w42 ⟨v264, rfl, ho0, hb⟩; refine ⟨_, rfl, ?_⟩; have HO265 := Aside0.mk (Kd.R_lower ho0 (below_size (by apply_rules [HB.out, below_alloc, pw_below_drewN, below_drew1]))); replace HB := Aside0.mk (below_step (by apply_rules [HB.out, below_alloc, pw_below_drewN, below_drew1]) hb); (try clear hb); (try clear ho0)) | ((with_reducible refine gate_callee (f := 108) rfl ?_); refine goesK (some 37) Tryz.func108 [.string a1] rfl rfl ?_; (with_reducible refine (decimal_cut.calls k a1 t266 _ A14.out).mono ?_); rintro e w43 ⟨v267, rfl, ho0, hb⟩; refine ⟨_, rfl, ?_⟩; have n0_ := Aside0.mk (Kd.R_elder' (by apply_rules [HO265.out, Kd.R_alloc, Kd.R_drewN, Kd.R_drew]) (Kd.R_base ho0) hb); have n1_ := Aside0.mk (Kd.R_lower (Kd.R_new' ho0 (Kd.R_lt (by apply_rules [HO265.out, Kd.R_alloc, Kd.R_drewN, Kd.R_drew]))) (below_size (by apply_rules [HB.out, below_alloc, pw_below_drewN, below_drew1]))); have n2_ := Aside0.mk (below_step (by apply_rules [HB.out, below_alloc, pw_below_drewN, below_drew1]) hb); clear HO265; clear HB; have HO265 := n0_; have HO268 := n1_; have HB := n2_; clear n0_ n1_ n2_; (try clear hb); (try clear ho0); obtain ⟨Ao44, co44, eo44⟩ := Kd.R_slice HO265.out; subst eo44; obtain ⟨Ao45, co45, eo45⟩ := Kd.R_slice HO268.out; subst eo45) | ((with_reducible refine gate_callee (f := 223) rfl ?_); refine goesK (some 40) Tryz.func223 [.slice Ao44 t263.length co44, .slice Ao45 t266.length co45] rfl rfl ?_; (with_reducible refine (decimal_pieces_compare.calls k _ _ t263 _ _ t266 t269 _ ?side1 ?side2 ?side3 ?side4 A15.out).mono ?_); (case side1 => apply_rules [(Kd.R_reads' HO265.out).2.2, Kd.C_alloc, Kd.C_drewN, Kd.C_drew]); (case side2 => exact (Kd.R_reads' HO265.out).2.1); (case side3 => apply_rules [(Kd.R_reads' HO268.out).2.2, Kd.C_alloc, Kd.C_drewN, Kd.C_drew]); (case side4 => exact (Kd.R_reads' HO268.out).2.1); rintro e w46 ⟨rfl, hb⟩; refine ⟨_, rfl, ?_⟩; replace HO265 := Aside0.mk (Kd.R_below (by apply_rules [HO265.out, Kd.R_alloc, Kd.R_drewN, Kd.R_drew]) hb); replace HO268 := Aside0.mk (Kd.R_below (by apply_rules [HO268.out, Kd.R_alloc, Kd.R_drewN, Kd.R_drew]) hb); replace HB := Aside0.mk (below_step (by apply_rules [HB.out, below_alloc, pw_below_drewN, below_drew1]) hb); (try clear hb)) | ((with_reducible refine gate_callee (f := 225) rfl ?_); refine goesK (some 61) Tryz.func225 [.slice Ao44 t263.length co44, .slice Ao45 t266.length co45] rfl rfl ?_; (with_reducible refine (decimal_pieces_divide.calls k _ _ t263 _ _ t266 t277 t278 _ ?side1 ?side2 ?side3 ?side4 A38.out).mono ?_); (case side1 => apply_rules [(Kd.R_reads' HO265.out).2.2, Kd.C_alloc, Kd.C_drewN, Kd.C_drew]); (case side2 => exact (Kd.R_reads' HO265.out).2.1); (case side3 => apply_rules [(Kd.R_reads' HO268.out).2.2, Kd.C_alloc, Kd.C_drewN, Kd.C_drew]); (case side4 => exact (Kd.R_reads' HO268.out).2.1); rintro e w47 ⟨v279, v281, rfl, ho0, ho1, hb⟩; refine ⟨_, rfl, ?_⟩; have n0_ := Aside0.mk (Kd.R_mono (Kd.R_told (Kd.R_told (Kd.R_old (by apply_rules [HO265.out, Kd.R_alloc, Kd.R_drewN, Kd.R_drew]) hb) (Kd.R_base ho0)) (Kd.R_base ho1)) (fun _ h_ => h_.1)); have n1_ := Aside0.mk (Kd.R_mono (Kd.R_told (Kd.R_told (Kd.R_old (by apply_rules [HO268.out, Kd.R_alloc, Kd.R_drewN, Kd.R_drew]) hb) (Kd.R_base ho0)) (Kd.R_base ho1)) (fun _ h_ => h_.1)); have n2_ := Aside0.mk (Kd.R_lower (Kd.R_new' (Kd.R_new' ho0 (Kd.R_lt (by apply_rules [HO265.out, Kd.R_alloc, Kd.R_drewN, Kd.R_drew]))) (Kd.R_lt (by apply_rules [HO268.out, Kd.R_alloc, Kd.R_drewN, Kd.R_drew]))) (below_size (by apply_rules [HB.out, below_alloc, pw_below_drewN, below_drew1]))); have n3_ := Aside0.mk (Kd.R_lower (Kd.R_new' (Kd.R_new' ho1 (Kd.R_lt (by apply_rules [HO265.out, Kd.R_alloc, Kd.R_drewN, Kd.R_drew]))) (Kd.R_lt (by apply_rules [HO268.out, Kd.R_alloc, Kd.R_drewN, Kd.R_drew]))) (below_size (by apply_rules [HB.out, below_alloc, pw_below_drewN, below_drew1]))); have n4_ := Aside0.mk (below_step (by apply_rules [HB.out, below_alloc, pw_below_drewN, below_drew1]) hb); clear HO265; clear HO268; clear HB; have HO265 := n0_; have HO268 := n1_; have HO280 := n2_; have HO282 := n3_; have HB := n4_; clear n0_ n1_ n2_ n3_ n4_; (try clear hb); (try clear ho0); (try clear ho1); obtain ⟨Ao48, co48, eo48⟩ := Kd.R_slice HO280.out; subst eo48) | ((with_reducible refine gate_callee (f := 110) rfl ?_); refine goesK (some 65) Tryz.func110 [.slice Ao48 t277.length co48] rfl rfl ?_; (with_reducible refine (decimal_pieces_text.calls k _ _ t277 t283 _ ?side1 ?side2 A39.out).mono ?_); (case side1 => apply_rules [(Kd.R_reads' HO280.out).2.2, Kd.C_alloc, Kd.C_drewN, Kd.C_drew]); (case side2 => exact (Kd.R_reads' HO280.out).2.1); rintro e w49 ⟨rfl, hb⟩; refine ⟨_, rfl, ?_⟩; replace HO265 := Aside0.mk (Kd.R_below (by apply_rules [HO265.out, Kd.R_alloc, Kd.R_drewN, Kd.R_drew]) hb); replace HO268 := Aside0.mk (Kd.R_below (by apply_rules [HO268.out, Kd.R_alloc, Kd.R_drewN, Kd.R_drew]) hb); replace HO280 := Aside0.mk (Kd.R_below (by apply_rules [HO280.out, Kd.R_alloc, Kd.R_drewN, Kd.R_drew]) hb); replace HO282 := Aside0.mk (Kd.R_below (by apply_rules [HO282.out, Kd.R_alloc, Kd.R_drewN, Kd.R_drew]) hb); replace HB := Aside0.mk (below_step (by apply_rules [HB.out, below_alloc, pw_below_drewN, below_drew1]) hb); (try clear hb); obtain ⟨Ao50, co50, eo50⟩ := Kd.R_slice HO282.out; subst eo50) | ((with_reducible refine gate_callee (f := 110) rfl ?_); refine goesK (some 67) Tryz.func110 [.slice Ao50 t278.length co50] rfl rfl ?_; (with_reducible refine (decimal_pieces_text.calls k _ _ t278 t284 _ ?side1 ?side2 A40.out).mono ?_); (case side1 => apply_rules [(Kd.R_reads' HO282.out).2.2, Kd.C_alloc, Kd.C_drewN, Kd.C_drew]); (case side2 => exact (Kd.R_reads' HO282.out).2.1); rintro e w51 ⟨rfl, hb⟩; refine ⟨_, rfl, ?_⟩; replace HO265 := Aside0.mk (Kd.R_below (by apply_rules [HO265.out, Kd.R_alloc, Kd.R_drewN, Kd.R_drew]) hb); replace HO268 := Aside0.mk (Kd.R_below (by apply_rules [HO268.out, Kd.R_alloc, Kd.R_drewN, Kd.R_drew]) hb); replace HO280 := Aside0.mk (Kd.R_below (by apply_rules [HO280.out, Kd.R_alloc, Kd.R_drewN, Kd.R_drew]) hb); replace HO282 := Aside0.mk (Kd.R_below (by apply_rules [HO282.out, Kd.R_alloc, Kd.R_drewN, Kd.R_drew]) hb); replace HB := Aside0.mk (below_step (by apply_rules [HB.out, below_alloc, pw_below_drewN, below_drew1]) hb); (try clear hb)))
     go_ret3
     exact ⟨by first | rfl | simp [*], by apply_rules [HB.out, below_alloc, pw_below_drewN, below_drew1]⟩
def decimal_Gcd.l0 : Nat → ByteArray → ByteArray → Option (ByteArray)
 | 0, _, _ => none
 | k + 1, x0, x1 => if x1.toList = ([48] : List UInt8) then (some x0) else ((decimal_DivMod.f k x0 x1).bind fun bt285 => (if bt285.2.2 = 0 then (decimal_Gcd.l0 k x1 bt285.2.1) else (some (⟨#[]⟩ : ByteArray))))
def decimal_Gcd.f (k : Nat) (a0 : ByteArray) (a1 : ByteArray) : Option (ByteArray) := decimal_Gcd.l0 k a0 a1
set_option maxHeartbeats 8000000 in
set_option maxRecDepth 100000 in
theorem decimal_Gcd.calls (k : Nat) (a0 : ByteArray) (a1 : ByteArray) (r : ByteArray) (w : World) (hT : TabW w) (h : decimal_Gcd.f k a0 a1 = some r) :
  Calls Tryz.prog 220 #[.string a0, .string a1] w fun e w' => e = .returned (.string r) ∧ Below w.heap.size w w' := by
 have HB := Aside0.mk (Below.refl w.heap.size w)
 have H : (decimal_Gcd.l0 k a0 a1) = some r := h
 clear h
 have H' := Aside0.mk H
 clear H
 go_enter Tryz.func220, Tryz.ntmps220
 go_wp2
 go_loopg [0, 1] k (fun kq v0 v1 w' => ∃ (x0_1 : ByteArray) (x1_1 : ByteArray), v0 = .string x0_1 ∧ v1 = .string x1_1 ∧ Aside0 (decimal_Gcd.l0 kq x0_1 x1_1 = some r) ∧ Aside0 (kq ≤ k) ∧ Aside0 (Below w.heap.size w w'))
 case atStart => exact ⟨(a0), (a1), (by first | rfl | (simp; done) | (simp [*]; done)), (by first | rfl | (simp; done) | (simp [*]; done)), H', ⟨Nat.le_refl _⟩, ⟨by apply_rules [HB.out, below_alloc, pw_below_drewN, below_drew1]⟩⟩
 case round =>
  clear H'
  obtain ⟨x0_1, x1_1, rfl, rfl, HA, HK1, HB⟩ := hrel
  cases gk with
  | zero => exact absurd HA.out (by simp [decimal_Gcd.l0])
  | succ k1 =>
   have H := HA.out
   clear HA
   simp only [decimal_Gcd.l0] at H
   by_cases c3 : x1_1.toList = ([48] : List UInt8)
   ·rw [if_pos c3] at H
    have c3b0 : (x1_1.toList == ([48] : List UInt8)) = true := beq_iff_eq.mpr c3
    have c3b1 : (x1_1.toList != ([48] : List UInt8)) = false := bne_eq_false_iff_eq.mpr c3
    clear c3
    obtain rfl := Option.some.inj H
    go_wp2
    go_ret
    exact ⟨by first | rfl | simp [*], by apply_rules [HB.out, below_alloc, pw_below_drewN, below_drew1]⟩
   ·rw [if_neg c3] at H
    have c3b0 : (x1_1.toList == ([48] : List UInt8)) = false := beq_eq_false_iff_ne.mpr c3
    have c3b1 : (x1_1.toList != ([48] : List UInt8)) = true := bne_iff_ne.mpr c3
    replace H := Option.bind_eq_some_iff.mp H
    obtain ⟨⟨t285, t286, t287⟩, A40, H⟩ := H
    try dsimp only at H
    have A4 := Aside0.mk A40
    clear A40
    by_cases c5 : t287 = 0
    ·rw [if_pos c5] at H
     have c5b0 : (t287 == 0) = true := beq_iff_eq.mpr c5
     have c5b1 : (t287 != 0) = false := bne_eq_false_iff_eq.mpr c5
     clear c5
     have H' := Aside0.mk H
     clear H
     go_wp2_with (first | ((with_reducible refine gate_callee (f := 177) rfl ?_); refine goesK (some 13) Tryz.func177 [.string x0_1, .string x1_1] rfl rfl ?_; (with_reducible refine (decimal_DivMod.calls k1 x0_1 x1_1 t285 t286 t287 _ ?side1 A4.out).mono ?_); (case side1 => refine TabW.below hT ?_; apply_rules [HB.out, below_alloc, pw_below_drewN, below_drew1]); rintro e w6 ⟨rfl, hb⟩; refine ⟨_, rfl, ?_⟩; replace HB := Aside0.mk (below_step (by apply_rules [HB.out, below_alloc, pw_below_drewN, below_drew1]) hb); (try clear hb)))
     go_roundg k1
     case measure => have := HK1.out; omega
     case rel => exact ⟨(x1_1), (t286), (by first | rfl | (simp; done) | (simp [*]; done)), (by first | rfl | (simp; done) | (simp [*]; done)), H', ⟨by have := HK1.out; omega⟩, ⟨by apply_rules [HB.out, below_alloc, pw_below_drewN, below_drew1]⟩⟩
    ·rw [if_neg c5] at H
     have c5b0 : (t287 == 0) = false := beq_eq_false_iff_ne.mpr c5
     have c5b1 : (t287 != 0) = true := bne_iff_ne.mpr c5
     obtain rfl := Option.some.inj H
     go_wp2_with (first | ((with_reducible refine gate_callee (f := 177) rfl ?_); refine goesK (some 13) Tryz.func177 [.string x0_1, .string x1_1] rfl rfl ?_; (with_reducible refine (decimal_DivMod.calls k1 x0_1 x1_1 t285 t286 t287 _ ?side1 A4.out).mono ?_); (case side1 => refine TabW.below hT ?_; apply_rules [HB.out, below_alloc, pw_below_drewN, below_drew1]); rintro e w7 ⟨rfl, hb⟩; refine ⟨_, rfl, ?_⟩; replace HB := Aside0.mk (below_step (by apply_rules [HB.out, below_alloc, pw_below_drewN, below_drew1]) hb); (try clear hb)))
     go_ret
     exact ⟨by first | rfl | simp [*], by apply_rules [HB.out, below_alloc, pw_below_drewN, below_drew1]⟩
def decimal_Check.f (k : Nat) (a0 : ByteArray) : Option (Int) := (decimal_Canonical.f k a0).bind fun t125 => (if t125 = true then (if (a0.size : Int) > 400 then (some 2) else (some 0)) else (some 2))
set_option maxHeartbeats 8000000 in
set_option maxRecDepth 100000 in
theorem decimal_Check.calls (k : Nat) (a0 : ByteArray) (r : Int) (w : World) (h : decimal_Check.f k a0 = some r) :
  Calls Tryz.prog 217 #[.string a0] w fun e w' => e = .returned (.int .i64 r) ∧ Below w.heap.size w w' := by
 have HB := Aside0.mk (Below.refl w.heap.size w)
 have H : ((decimal_Canonical.f k a0).bind fun t125 => (if t125 = true then (if (a0.size : Int) > 400 then (some 2) else (some 0)) else (some 2))) = some r := h
 clear h
 replace H := Option.bind_eq_some_iff.mp H
 obtain ⟨t125, A20, H⟩ := H
 try dsimp only at H
 have A2 := Aside0.mk A20
 clear A20
 by_cases c3 : t125 = true
 ·subst c3
  have H1 : (if (a0.size : Int) > 400 then (some 2) else (some 0)) = some r := by rw [if_pos rfl] at H; exact H
  clear H
  have H := H1
  clear H1
  by_cases c4 : (a0.size : Int) > 400
  ·rw [if_pos c4] at H
   have c4b0 : decide (400 < (a0.size : Int)) = true := decide_eq_true c4
   have c4b1 : decide (400 < a0.size) = true := decide_eq_true (by omega)
   clear c4
   obtain rfl := Option.some.inj H
   go_enter Tryz.func217, Tryz.ntmps217
   go_wp2_with (first | ((with_reducible refine gate_callee (f := 262) rfl ?_); refine goesK (some 4) Tryz.func262 [.string a0] rfl rfl ?_; (with_reducible refine (decimal_Canonical.calls k a0 true _ A2.out).mono ?_); rintro e w5 ⟨rfl, hb⟩; refine ⟨_, rfl, ?_⟩; replace HB := Aside0.mk (below_step (by apply_rules [HB.out, below_alloc, pw_below_drewN, below_drew1]) hb); (try clear hb)))
   go_ret
   exact ⟨by first | rfl | simp [*], by apply_rules [HB.out, below_alloc, pw_below_drewN, below_drew1]⟩
  ·rw [if_neg c4] at H
   have c4b0 : decide (400 < (a0.size : Int)) = false := decide_eq_false c4
   have c4b1 : decide (400 < a0.size) = false := decide_eq_false (by omega)
   clear c4
   obtain rfl := Option.some.inj H
   go_enter Tryz.func217, Tryz.ntmps217
   go_wp2_with (first | ((with_reducible refine gate_callee (f := 262) rfl ?_); refine goesK (some 4) Tryz.func262 [.string a0] rfl rfl ?_; (with_reducible refine (decimal_Canonical.calls k a0 true _ A2.out).mono ?_); rintro e w6 ⟨rfl, hb⟩; refine ⟨_, rfl, ?_⟩; replace HB := Aside0.mk (below_step (by apply_rules [HB.out, below_alloc, pw_below_drewN, below_drew1]) hb); (try clear hb)))
   go_ret
   exact ⟨by first | rfl | simp [*], by apply_rules [HB.out, below_alloc, pw_below_drewN, below_drew1]⟩
 ·replace c3 := Bool.eq_false_iff.mpr c3
  subst c3
  have H1 : (some 2) = some r := by rw [if_neg (show ¬ (false = true) by decide)] at H; exact H
  clear H
  have H := H1
  clear H1
  obtain rfl := Option.some.inj H
  go_enter Tryz.func217, Tryz.ntmps217
  go_wp2_with (first | ((with_reducible refine gate_callee (f := 262) rfl ?_); refine goesK (some 4) Tryz.func262 [.string a0] rfl rfl ?_; (with_reducible refine (decimal_Canonical.calls k a0 false _ A2.out).mono ?_); rintro e w7 ⟨rfl, hb⟩; refine ⟨_, rfl, ?_⟩; replace HB := Aside0.mk (below_step (by apply_rules [HB.out, below_alloc, pw_below_drewN, below_drew1]) hb); (try clear hb)))
  go_ret
  exact ⟨by first | rfl | simp [*], by apply_rules [HB.out, below_alloc, pw_below_drewN, below_drew1]⟩
end Go.Proofs.YtccebdpjdpjgnaaGreatDoor.P
end
