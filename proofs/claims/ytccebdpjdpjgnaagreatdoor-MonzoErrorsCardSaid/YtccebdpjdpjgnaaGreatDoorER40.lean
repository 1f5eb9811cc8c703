/-
words of the walks
-/
import Derived.Test.YtccebdpjdpjgnaaGreatDoorER35
import Derived.Test.YtccebdpjdpjgnaaGreatDoorER37
import Derived.Test.YtccebdpjdpjgnaaGreatDoorER39
set_option linter.unusedVariables false
set_option linter.unusedSimpArgs false
namespace Go.Proofs.YtccebdpjdpjgnaaGreatDoor.P
open Go.RowKit Go.Proofs.YtccebdpjdpjgnaaGreatDoorW.PrintWords Go.Proofs.YtccebdpjdpjgnaaGreatDoorW.PrintLast Go.Proofs.YtccebdpjdpjgnaaGreatDoorW.PrintMore
attribute [local go_sem] max2_int min2_int max_two min_two max_three min_three max_four min_four
set_option linter.unusedVariables false
set_option linter.unusedSimpArgs false
attribute [local go_sem high] eqA38
mutual
def schismalaw12_MonzoErrors.j0 : Nat → List Int → List Int → List Int → Bool → Option (Bool)
 | 0, _, _, _, _ => none
 | k + 1, x0, x1, x2, x45 => if x45 = true then ((schismalaw12_known.f k).bind fun t573 => (some t573)) else ((schismalaw12_check.f k x0 x1).bind fun t574 => ((schismalaw12_check.f k x0 x1).bind fun t575 => (if t575 = 0 then ((schismalaw12_check.f k x0 x2).bind fun t576 => (schismalaw12_MonzoErrors.j1 k x0 x1 x2 t574 t576)) else (schismalaw12_MonzoErrors.j1 k x0 x1 x2 t574 t575))))
def schismalaw12_MonzoErrors.j1 : Nat → List Int → List Int → List Int → Int → Int → Option (Bool)
 | 0, _, _, _, _, _ => none
 | k + 1, x0, x1, x2, x7, x8 => if x8 = 0 then (some true) else ((monzo_Add.f k x0 x1 x2).bind fun bt577 => ((monzo_Sub.f k x0 x1 x2).bind fun bt581 => ((monzo_Compare.f k x0 x1 x2).bind fun bt585 => (if (wrap64 ((bt577.1.length : Int) + (bt581.1.length : Int))) = 0 then (if bt585.1 = 0 then (if bt577.2 = x8 then (if bt581.2 = x8 then (schismalaw12_MonzoErrors.j2 k x0 x1 x7 (bt585.2 != x8)) else (schismalaw12_MonzoErrors.j2 k x0 x1 x7 true)) else (schismalaw12_MonzoErrors.j2 k x0 x1 x7 true)) else (schismalaw12_MonzoErrors.j2 k x0 x1 x7 true)) else (schismalaw12_MonzoErrors.j2 k x0 x1 x7 true)))))
def schismalaw12_MonzoErrors.j2 : Nat → List Int → List Int → Int → Bool → Option (Bool)
 | 0, _, _, _, _ => none
 | k + 1, x0, x1, x7, x105 => if x105 = true then (some false) else (if x7 = 0 then (some true) else ((monzo_Fraction.f k x0 x1).bind fun bt587 => ((monzo_Text.f k x0 x1).bind fun bt591 => ((monzo_Neg.f k x0 x1).bind fun bt593 => ((monzo_Power.f k x0 x1 2).bind fun bt597 => ((monzo_Sign.f k x0 x1).bind fun bt601 => ((monzo_Product.f k x0 x1).bind fun bt603 => ((monzo_Greater.f k x0 x1).bind fun bt605 => ((monzo_Odd.f k x0 x1).bind fun bt607 => ((monzo_Superparticular.f k x0 x1).bind fun bt609 => (if (bt587.1.toList == ([] : List UInt8) && (bt587.2.1.toList == ([] : List UInt8))) = true then (if bt587.2.2 = x7 then (if bt591.1.toList = ([] : List UInt8) then (if bt591.2 = x7 then (if (wrap64 ((bt593.1.length : Int) + (bt597.1.length : Int))) = 0 then (if bt593.2 = x7 then (if bt597.2 = x7 then (if bt601.1 = 0 then (if bt601.2 = x7 then (if bt603.1.toList = ([] : List UInt8) then (if bt603.2 = x7 then (if bt605.1.toList = ([] : List UInt8) then (if bt605.2 = x7 then (if bt607.1.toList = ([] : List UInt8) then (if bt607.2 = x7 then (if bt609.1 = true then (some false) else (some (bt609.2 == x7))) else (some false)) else (some false)) else (some false)) else (some false)) else (some false)) else (some false)) else (some false)) else (some false)) else (some false)) else (some false)) else (some false)) else (some false)) else (some false)) else (some false)) else (some false))))))))))))
end
def schismalaw12_MonzoErrors.f (k : Nat) (l0 : List Int) (l1 : List Int) (l2 : List Int) : Option (Bool) := (schismalaw12_known.f k).bind fun t571 => (if t571 = true then ((schismalaw12_few.f l0 l1).bind fun t572 => (if t572 = true then (schismalaw12_MonzoErrors.j0 k l0 l1 l2 (decide ((l2.length : Int) > 8))) else (schismalaw12_MonzoErrors.j0 k l0 l1 l2 true))) else (schismalaw12_MonzoErrors.j0 k l0 l1 l2 true))
theorem schismalaw12_MonzoErrors.j2_no {k : Nat} {x0 x1 x7} {r : Bool} (h : schismalaw12_MonzoErrors.j2 k x0 x1 x7 true = some r) (e : r = true) : False := by
 subst e
 cases k <;> simp [schismalaw12_MonzoErrors.j2] at h
set_option maxHeartbeats 8000000 in
set_option maxRecDepth 100000 in
theorem schismalaw12_MonzoErrors.calls (k : Nat) (A0 : Option Addr) (c0 : Nat) (l0 : List Int) (A1 : Option Addr) (c1 : Nat) (l1 : List Int) (A2 : Option Addr) (c2 : Nat) (l2 : List Int) (r : Bool) (w : World) (hT : TabW w) (hr0 : Kd.C (Kd.int .i64) w A0 l0.length l0) (hc0 : l0.length ≤ c0) (hr1 : Kd.C (Kd.int .i64) w A1 l1.length l1) (hc1 : l1.length ≤ c1) (hr2 : Kd.C (Kd.int .i64) w A2 l2.length l2) (hc2 : l2.length ≤ c2) (h : schismalaw12_MonzoErrors.f k l0 l1 l2 = some r) (hr : r = true) (hk : ∀ k, schismalaw12_known.f k ≠ some false) :
  Calls Tryz.prog 10 #[.slice A0 l0.length c0, .slice A1 l1.length c1, .slice A2 l2.length c2] w fun e w' => e = .returned (.bool r) ∧ Below w.heap.size w w' := by
 have hu38 := Tryz.underlying38
 have HR0 := Aside0.mk hr0
 have HC0 := Aside0.mk hc0
 clear hr0 hc0
 have HR1 := Aside0.mk hr1
 have HC1 := Aside0.mk hc1
 clear hr1 hc1
 have HR2 := Aside0.mk hr2
 have HC2 := Aside0.mk hc2
 clear hr2 hc2
 have HB := Aside0.mk (Below.refl w.heap.size w)
 have H : ((schismalaw12_known.f k).bind fun t571 => (if t571 = true then ((schismalaw12_few.f l0 l1).bind fun t572 => (if t572 = true then (schismalaw12_MonzoErrors.j0 k l0 l1 l2 (decide ((l2.length : Int) > 8))) else (schismalaw12_MonzoErrors.j0 k l0 l1 l2 true))) else (schismalaw12_MonzoErrors.j0 k l0 l1 l2 true))) = some r := h
 clear h
 have HC4 := Aside0.mk H
 clear H
 go_enter Tryz.func10, Tryz.ntmps10
 go_upto_region 1 with (fail)
 go_cut [45] (fun v45 wc => ∃ (kq : Nat) (x45_3 : Bool), v45 = .bool x45_3 ∧ Aside0 (schismalaw12_MonzoErrors.j0 kq l0 l1 l2 x45_3 = some r) ∧ Aside0 (kq ≤ k) ∧ Aside0 (Below w.heap.size w wc))
 case first =>
  as_aux_lemma =>
   have H := HC4.out
   clear HC4
   replace H := Option.bind_eq_some_iff.mp H
   obtain ⟨t571, A50, H⟩ := H
   try dsimp only at H
   have A5 := Aside0.mk A50
   clear A50
   by_cases c6 : t571 = true
   ·subst c6
    have H1 : ((schismalaw12_few.f l0 l1).bind fun t572 => (if t572 = true then (schismalaw12_MonzoErrors.j0 k l0 l1 l2 (decide ((l2.length : Int) > 8))) else (schismalaw12_MonzoErrors.j0 k l0 l1 l2 true))) = some r := by rw [if_pos rfl] at H; exact H
    clear H
    have H := H1
    clear H1
    replace H := Option.bind_eq_some_iff.mp H
    obtain ⟨t572, A70, H⟩ := H
    try dsimp only at H
    have A7 := Aside0.mk A70
    clear A70
    by_cases c8 : t572 = true
    ·subst c8
     have H1 : (schismalaw12_MonzoErrors.j0 k l0 l1 l2 (decide ((l2.length : Int) > 8))) = some r := by rw [if_pos rfl] at H; exact H
     clear H
     have H := H1
     clear H1
     have H' := Aside0.mk H
     clear H
     go_wp2_with (first | ((with_reducible refine gate_callee (f := 22) rfl ?_); refine goesK (some 33) Tryz.func22 [] rfl rfl ?_; (with_reducible refine (schismalaw12_known.calls k  true _ ?side1 A5.out (by first | rfl | assumption)).mono ?_); (case side1 => refine TabW.below hT ?_; apply_rules [HB.out, below_alloc, pw_below_drewN, below_drew1]); rintro e w9 ⟨rfl, hb⟩; refine ⟨_, rfl, ?_⟩; replace HB := Aside0.mk (below_step (by apply_rules [HB.out, below_alloc, pw_below_drewN, below_drew1]) hb); (try clear hb)) | (go_at_call 23; (with_reducible refine (schismalaw12_few.calls _ _ l0 _ _ l1 true _ ?side1 ?side2 ?side3 ?side4 A7.out).mono ?_); (case side1 => repeat (first | exact (Kd.C_below HR0.out HB.out) | (with_reducible refine Kd.C_alloc ?_ _) | (with_reducible refine Kd.C_drewN ?_ _) | (with_reducible refine Kd.C_drew ?_))); (case side2 => exact HC0.out); (case side3 => repeat (first | exact (Kd.C_below HR1.out HB.out) | (with_reducible refine Kd.C_alloc ?_ _) | (with_reducible refine Kd.C_drewN ?_ _) | (with_reducible refine Kd.C_drew ?_))); (case side4 => exact HC1.out); rintro e w' ⟨rfl, ⟨nd, rfl⟩⟩))
     go_meet
     case rel => exact ⟨_, (decide ((l2.length : Int) > 8)), (by first | rfl | (simp; done) | (simp [*]; done)), H', ⟨by first | omega | exact Nat.le_refl _⟩, ⟨by apply_rules [HB.out, below_alloc, pw_below_drewN, below_drew1]⟩⟩
    ·replace c8 := Bool.eq_false_iff.mpr c8
     subst c8
     have H1 : (schismalaw12_MonzoErrors.j0 k l0 l1 l2 true) = some r := by rw [if_neg (show ¬ (false = true) by decide)] at H; exact H
     clear H
     have H := H1
     clear H1
     have H' := Aside0.mk H
     clear H
     go_wp2_with (first | ((with_reducible refine gate_callee (f := 22) rfl ?_); refine goesK (some 33) Tryz.func22 [] rfl rfl ?_; (with_reducible refine (schismalaw12_known.calls k  true _ ?side1 A5.out (by first | rfl | assumption)).mono ?_); (case side1 => refine TabW.below hT ?_; apply_rules [HB.out, below_alloc, pw_below_drewN, below_drew1]); rintro e w10 ⟨rfl, hb⟩; refine ⟨_, rfl, ?_⟩; replace HB := Aside0.mk (below_step (by apply_rules [HB.out, below_alloc, pw_below_drewN, below_drew1]) hb); (try clear hb)) | (go_at_call 23; (with_reducible refine (schismalaw12_few.calls _ _ l0 _ _ l1 false _ ?side1 ?side2 ?side3 ?side4 A7.out).mono ?_); (case side1 => repeat (first | exact (Kd.C_below HR0.out HB.out) | (with_reducible refine Kd.C_alloc ?_ _) | (with_reducible refine Kd.C_drewN ?_ _) | (with_reducible refine Kd.C_drew ?_))); (case side2 => exact HC0.out); (case side3 => repeat (first | exact (Kd.C_below HR1.out HB.out) | (with_reducible refine Kd.C_alloc ?_ _) | (with_reducible refine Kd.C_drewN ?_ _) | (with_reducible refine Kd.C_drew ?_))); (case side4 => exact HC1.out); rintro e w' ⟨rfl, ⟨nd, rfl⟩⟩))
     go_meet
     case rel => exact ⟨_, (true), (by first | rfl | (simp; done) | (simp [*]; done)), H', ⟨by first | omega | exact Nat.le_refl _⟩, ⟨by apply_rules [HB.out, below_alloc, pw_below_drewN, below_drew1]⟩⟩
   ·replace c6 := Bool.eq_false_iff.mpr c6
    subst c6
    have H1 : (schismalaw12_MonzoErrors.j0 k l0 l1 l2 true) = some r := by rw [if_neg (show ¬ (false = true) by decide)] at H; exact H
    clear H
    have H := H1
    clear H1
    have H' := Aside0.mk H
    clear H
    exact absurd A5.out (hk _)
 case rest =>
  as_aux_lemma =>
   clear HC4
   obtain ⟨kq, x45_3, rfl, HA, HJ3, HB⟩ := hcut
   cases kq with
   | zero => exact absurd HA.out (by simp [schismalaw12_MonzoErrors.j0])
   | succ kj3 =>
    have H := HA.out
    clear HA
    simp only [schismalaw12_MonzoErrors.j0] at H
    by_cases c12 : x45_3 = true
    ·subst c12
     have H1 : ((schismalaw12_known.f kj3).bind fun t573 => (some t573)) = some r := by rw [if_pos rfl] at H; exact H
     clear H
     have H := H1
     clear H1
     replace H := Option.bind_eq_some_iff.mp H
     obtain ⟨t573, A130, H⟩ := H
     try dsimp only at H
     have A13 := Aside0.mk A130
     clear A130
     obtain rfl := Option.some.inj H
     go_wp2_with (first | ((with_reducible refine gate_callee (f := 22) rfl ?_); refine goesK (some 46) Tryz.func22 [] rfl rfl ?_; (with_reducible refine (schismalaw12_known.calls kj3  t573 _ ?side1 A13.out (by first | rfl | assumption)).mono ?_); (case side1 => refine TabW.below hT ?_; apply_rules [HB.out, below_alloc, pw_below_drewN, below_drew1]); rintro e w14 ⟨rfl, hb⟩; refine ⟨_, rfl, ?_⟩; replace HB := Aside0.mk (below_step (by apply_rules [HB.out, below_alloc, pw_below_drewN, below_drew1]) hb); (try clear hb)))
     go_ret
     exact ⟨by first | rfl | simp [*], by apply_rules [HB.out, below_alloc, pw_below_drewN, below_drew1]⟩
    ·replace c12 := Bool.eq_false_iff.mpr c12
     subst c12
     have H1 : ((schismalaw12_check.f kj3 l0 l1).bind fun t574 => ((schismalaw12_check.f kj3 l0 l1).bind fun t575 => (if t575 = 0 then ((schismalaw12_check.f kj3 l0 l2).bind fun t576 => (schismalaw12_MonzoErrors.j1 kj3 l0 l1 l2 t574 t576)) else (schismalaw12_MonzoErrors.j1 kj3 l0 l1 l2 t574 t575)))) = some r := by rw [if_neg (show ¬ (false = true) by decide)] at H; exact H
     clear H
     have H := H1
     clear H1
     replace H := Option.bind_eq_some_iff.mp H
     obtain ⟨t574, A150, H⟩ := H
     try dsimp only at H
     have A15 := Aside0.mk A150
     clear A150
     replace H := Option.bind_eq_some_iff.mp H
     obtain ⟨t575, A160, H⟩ := H
     try dsimp only at H
     have A16 := Aside0.mk A160
     clear A160
     have HC17 := Aside0.mk H
     clear H
     go_upto_if 54 with (first | ((with_reducible refine gate_callee (f := 24) rfl ?_); refine goesK (some 49) Tryz.func24 [.slice A0 l0.length c0, .slice A1 l1.length c1] rfl rfl ?_; (with_reducible refine (schismalaw12_check.calls kj3 _ _ l0 _ _ l1 t574 _ ?side1 ?side2 ?side3 ?side4 A15.out).mono ?_); (case side1 => repeat (first | exact (Kd.C_below HR0.out HB.out) | (with_reducible refine Kd.C_alloc ?_ _) | (with_reducible refine Kd.C_drewN ?_ _) | (with_reducible refine Kd.C_drew ?_))); (case side2 => exact HC0.out); (case side3 => repeat (first | exact (Kd.C_below HR1.out HB.out) | (with_reducible refine Kd.C_alloc ?_ _) | (with_reducible refine Kd.C_drewN ?_ _) | (with_reducible refine Kd.C_drew ?_))); (case side4 => exact HC1.out); rintro e w' ⟨rfl, ⟨nd, rfl⟩⟩; refine ⟨_, rfl, ?_⟩) | ((with_reducible refine gate_callee (f := 24) rfl ?_); refine goesK (some 52) Tryz.func24 [.slice A0 l0.length c0, .slice A1 l1.length c1] rfl rfl ?_; (with_reducible refine (schismalaw12_check.calls kj3 _ _ l0 _ _ l1 t575 _ ?side1 ?side2 ?side3 ?side4 A16.out).mono ?_); (case side1 => repeat (first | exact (Kd.C_below HR0.out (by apply_rules [HB.out, below_alloc, pw_below_drewN, below_drew1])) | (with_reducible refine Kd.C_alloc ?_ _) | (with_reducible refine Kd.C_drewN ?_ _) | (with_reducible refine Kd.C_drew ?_))); (case side2 => exact HC0.out); (case side3 => repeat (first | exact (Kd.C_below HR1.out (by apply_rules [HB.out, below_alloc, pw_below_drewN, below_drew1])) | (with_reducible refine Kd.C_alloc ?_ _) | (with_reducible refine Kd.C_drewN ?_ _) | (with_reducible refine Kd.C_drew ?_))); (case side4 => exact HC1.out); rintro e w' ⟨rfl, ⟨nd, rfl⟩⟩; refine ⟨_, rfl, ?_⟩))
     (try simp only [Act.put, List.setIfInBounds_toArray, List.set_cons_zero, List.set_cons_succ])
     go_cut [8] (fun v8 wc => ∃ (kq : Nat) (x8_16 : Int), v8 = .int .i64 x8_16 ∧ Aside0 (schismalaw12_MonzoErrors.j1 kq l0 l1 l2 t574 x8_16 = some r) ∧ Aside0 (kq ≤ kj3) ∧ Aside0 (Below w.heap.size w wc))
     case first =>
      as_aux_lemma =>
       have H := HC17.out
       clear HC17
       by_cases c18 : t575 = 0
       ·rw [if_pos c18] at H
        have c18b0 : (t575 == 0) = true := beq_iff_eq.mpr c18
        have c18b1 : (t575 != 0) = false := bne_eq_false_iff_eq.mpr c18
        clear c18
        (first | rw [c18b0] | (simp only [i64_w, i32_w]; rw [c18b0]) | skip)
        replace H := Option.bind_eq_some_iff.mp H
        obtain ⟨t576, A190, H⟩ := H
        try dsimp only at H
        have A19 := Aside0.mk A190
        clear A190
        have H' := Aside0.mk H
        clear H
        go_wp2_with (first | ((with_reducible refine gate_callee (f := 24) rfl ?_); refine goesK (some 57) Tryz.func24 [.slice A0 l0.length c0, .slice A2 l2.length c2] rfl rfl ?_; (with_reducible refine (schismalaw12_check.calls kj3 _ _ l0 _ _ l2 t576 _ ?side1 ?side2 ?side3 ?side4 A19.out).mono ?_); (case side1 => repeat (first | exact (Kd.C_below HR0.out HB.out) | (with_reducible refine Kd.C_alloc ?_ _) | (with_reducible refine Kd.C_drewN ?_ _) | (with_reducible refine Kd.C_drew ?_))); (case side2 => exact HC0.out); (case side3 => repeat (first | exact (Kd.C_below HR2.out HB.out) | (with_reducible refine Kd.C_alloc ?_ _) | (with_reducible refine Kd.C_drewN ?_ _) | (with_reducible refine Kd.C_drew ?_))); (case side4 => exact HC2.out); rintro e w' ⟨rfl, ⟨nd, rfl⟩⟩; refine ⟨_, rfl, ?_⟩))
        go_meet
        case rel => exact ⟨_, (t576), (by first | rfl | (simp; done) | (simp [*]; done)), H', ⟨by have := HJ3.out; first | omega | exact Nat.le_refl _⟩, ⟨by apply_rules [HB.out, below_alloc, pw_below_drewN, below_drew1]⟩⟩
       ·rw [if_neg c18] at H
        have c18b0 : (t575 == 0) = false := beq_eq_false_iff_ne.mpr c18
        have c18b1 : (t575 != 0) = true := bne_iff_ne.mpr c18
        (first | rw [c18b0] | (simp only [i64_w, i32_w]; rw [c18b0]) | skip)
        have H' := Aside0.mk H
        clear H
        go_wp2
        go_meet
        case rel => exact ⟨_, (t575), (by first | rfl | (simp; done) | (simp [*]; done)), H', ⟨by have := HJ3.out; first | omega | exact Nat.le_refl _⟩, ⟨by apply_rules [HB.out, below_alloc, pw_below_drewN, below_drew1]⟩⟩
     case rest =>
      as_aux_lemma =>
       clear HC17
       obtain ⟨kq, x8_16, rfl, HA, HJ16, HB⟩ := hcut
       cases kq with
       | zero => exact absurd HA.out (by simp [schismalaw12_MonzoErrors.j1])
       | succ kj16 =>
        have H := HA.out
        clear HA
        simp only [schismalaw12_MonzoErrors.j1] at H
        by_cases c20 : x8_16 = 0
        ·rw [if_pos c20] at H
         have c20b0 : (x8_16 == 0) = true := beq_iff_eq.mpr c20
         have c20b1 : (x8_16 != 0) = false := bne_eq_false_iff_eq.mpr c20
         clear c20
         obtain rfl := Option.some.inj H
         go_wp2
         go_ret
         exact ⟨by first | rfl | simp [*], by apply_rules [HB.out, below_alloc, pw_below_drewN, below_drew1]⟩
        ·rw [if_neg c20] at H
         have c20b0 : (x8_16 == 0) = false := beq_eq_false_iff_ne.mpr c20
         have c20b1 : (x8_16 != 0) = true := bne_iff_ne.mpr c20
         replace H := Option.bind_eq_some_iff.mp H
         obtain ⟨⟨t577, t580⟩, A210, H⟩ := H
         try dsimp only at H
         have A21 := Aside0.mk A210
         clear A210
         replace H := Option.bind_eq_some_iff.mp H
         obtain ⟨⟨t581, t584⟩, A220, H⟩ := H
         try dsimp only at H
         have A22 := Aside0.mk A220
         clear A220
         replace H := Option.bind_eq_some_iff.mp H
         obtain ⟨⟨t585, t586⟩, A230, H⟩ := H
         try dsimp only at H
         have A23 := Aside0.mk A230
         clear A230
         have HC24 := Aside0.mk H
         clear H
         go_upto_region 11 with (first | ((with_reducible refine gate_callee (f := 47) rfl ?_); refine goesK (some 64) Tryz.func47 [.slice A0 l0.length c0, .slice A1 l1.length c1, .slice A2 l2.length c2] rfl rfl ?_; (with_reducible refine (monzo_Add.calls kj16 _ _ l0 (fun k_ => k_ < w.heap.size) _ _ l1 (fun k_ => k_ < w.heap.size) _ _ l2 t577 t580 _ ?side1 ?side2 ?side3 ?side4 A21.out).mono ?_); (case side1 => repeat (first | exact (Kd.C_below HR0.out HB.out) | (with_reducible refine Kd.C_alloc ?_ _) | (with_reducible refine Kd.C_drewN ?_ _) | (with_reducible refine Kd.C_drew ?_))); (case side2 => exact HC0.out); (case side3 => exact Kd.V_mk HC1.out (Kd.F_below (Kd.C_F (Kd.heap_int .i64) HR1.out) (by apply_rules [HB.out, below_alloc, pw_below_drewN, below_drew1]))); (case side4 => exact Kd.V_mk HC2.out (Kd.F_below (Kd.C_F (Kd.heap_int .i64) HR2.out) (by apply_rules [HB.out, below_alloc, pw_below_drewN, below_drew1]))); rintro e w25 ⟨v578, rfl, ho0, hb⟩; refine ⟨_, rfl, ?_⟩; have n0_ := Aside0.mk (Kd.V_lower (Kd.V_mono (ok' := fun k_ => True) ho0 (fun k_ hk_ => trivial)) (below_size (by apply_rules [HB.out, below_alloc, pw_below_drewN, below_drew1]))); have n1_ := Aside0.mk (below_step (by apply_rules [HB.out, below_alloc, pw_below_drewN, below_drew1]) hb); clear HB; have HO579 := n0_; have HB := n1_; clear n0_ n1_; (try clear hb); (try clear ho0)) | ((with_reducible refine gate_callee (f := 48) rfl ?_); refine goesK (some 71) Tryz.func48 [.slice A0 l0.length c0, .slice A1 l1.length c1, .slice A2 l2.length c2] rfl rfl ?_; (with_reducible refine (monzo_Sub.calls kj16 _ _ l0 (fun k_ => k_ < w.heap.size) _ _ l1 (fun k_ => k_ < w.heap.size) _ _ l2 t581 t584 _ ?side1 ?side2 ?side3 ?side4 A22.out).mono ?_); (case side1 => repeat (first | exact (Kd.C_below HR0.out HB.out) | (with_reducible refine Kd.C_alloc ?_ _) | (with_reducible refine Kd.C_drewN ?_ _) | (with_reducible refine Kd.C_drew ?_))); (case side2 => exact HC0.out); (case side3 => exact Kd.V_mk HC1.out (Kd.F_below (Kd.C_F (Kd.heap_int .i64) HR1.out) (by apply_rules [HB.out, below_alloc, pw_below_drewN, below_drew1]))); (case side4 => exact Kd.V_mk HC2.out (Kd.F_below (Kd.C_F (Kd.heap_int .i64) HR2.out) (by apply_rules [HB.out, below_alloc, pw_below_drewN, below_drew1]))); rintro e w26 ⟨v582, rfl, ho0, hb⟩; refine ⟨_, rfl, ?_⟩; have n0_ := Aside0.mk (Kd.V_below (by (with_reducible repeat (first | apply Kd.V_alloc | apply Kd.V_drewN | apply Kd.V_drew)); exact HO579.out) hb); have n1_ := Aside0.mk (Kd.V_lower (Kd.V_mono (ok' := fun k_ => True) ho0 (fun k_ hk_ => trivial)) (below_size (by apply_rules [HB.out, below_alloc, pw_below_drewN, below_drew1]))); have n2_ := Aside0.mk (below_step (by apply_rules [HB.out, below_alloc, pw_below_drewN, below_drew1]) hb); clear HO579; clear HB; have HO579 := n0_; have HO583 := n1_; have HB := n2_; clear n0_ n1_ n2_; (try clear hb); (try clear ho0)) | ((with_reducible refine gate_callee (f := 45) rfl ?_); refine goesK (some 78) Tryz.func45 [.slice A0 l0.length c0, .slice A1 l1.length c1, .slice A2 l2.length c2] rfl rfl ?_; (with_reducible refine (monzo_Compare.calls kj16 _ _ l0 (fun k_ => k_ < w.heap.size) _ _ l1 (fun k_ => k_ < w.heap.size) _ _ l2 t585 t586 _ ?side1 ?side2 ?side3 ?side4 ?side5 A23.out).mono ?_); (case side1 => refine TabW.below hT ?_; apply_rules [HB.out, below_alloc, pw_below_drewN, below_drew1]); (case side2 => repeat (first | exact (Kd.C_below HR0.out HB.out) | (with_reducible refine Kd.C_alloc ?_ _) | (with_reducible refine Kd.C_drewN ?_ _) | (with_reducible refine Kd.C_drew ?_))); (case side3 => exact HC0.out); (case side4 => exact Kd.V_mk HC1.out (Kd.F_below (Kd.C_F (Kd.heap_int .i64) HR1.out) (by apply_rules [HB.out, below_alloc, pw_below_drewN, below_drew1]))); (case side5 => exact Kd.V_mk HC2.out (Kd.F_below (Kd.C_F (Kd.heap_int .i64) HR2.out) (by apply_rules [HB.out, below_alloc, pw_below_drewN, below_drew1]))); rintro e w27 ⟨rfl, hb⟩; refine ⟨_, rfl, ?_⟩; have n0_ := Aside0.mk (Kd.V_below (by (with_reducible repeat (first | apply Kd.V_alloc | apply Kd.V_drewN | apply Kd.V_drew)); exact HO579.out) hb); have n1_ := Aside0.mk (Kd.V_below (by (with_reducible repeat (first | apply Kd.V_alloc | apply Kd.V_drewN | apply Kd.V_drew)); exact HO583.out) hb); have n2_ := Aside0.mk (below_step (by apply_rules [HB.out, below_alloc, pw_below_drewN, below_drew1]) hb); clear HO579; clear HO583; clear HB; have HO579 := n0_; have HO583 := n1_; have HB := n2_; clear n0_ n1_ n2_; (try clear hb)))
         (try simp only [Act.put, List.setIfInBounds_toArray, List.set_cons_zero, List.set_cons_succ])
         go_cut [105] (fun v105 wc => ∃ (kq : Nat) (x105_23 : Bool), v105 = .bool x105_23 ∧ Aside0 (schismalaw12_MonzoErrors.j2 kq l0 l1 t574 x105_23 = some r) ∧ Aside0 (kq ≤ kj16) ∧ Aside0 (Below w.heap.size w wc))
         case first =>
          as_aux_lemma =>
           have H := HC24.out
           clear HC24
           by_cases c28 : (wrap64 ((t577.length : Int) + (t581.length : Int))) = 0
           case neg => rw [if_neg c28] at H; have c28b0 : ((wrap64 ((t577.length : Int) + (t581.length : Int))) == 0) = false := beq_eq_false_iff_ne.mpr c28; have c28b1 : ((wrap64 ((t577.length : Int) + (t581.length : Int))) != 0) = true := bne_iff_ne.mpr c28; (first | rw [c28b0] | (simp only [i64_w, i32_w]; rw [c28b0]) | skip); exact (schismalaw12_MonzoErrors.j2_no H hr).elim
           rw [if_pos c28] at H
           have c28b0 : ((wrap64 ((t577.length : Int) + (t581.length : Int))) == 0) = true := beq_iff_eq.mpr c28
           have c28b1 : ((wrap64 ((t577.length : Int) + (t581.length : Int))) != 0) = false := bne_eq_false_iff_eq.mpr c28
           clear c28
           (first | rw [c28b0] | (simp only [i64_w, i32_w]; rw [c28b0]) | skip)
           by_cases c29 : t585 = 0
           case neg => rw [if_neg c29] at H; have c29b0 : (t585 == 0) = false := beq_eq_false_iff_ne.mpr c29; have c29b1 : (t585 != 0) = true := bne_iff_ne.mpr c29; exact (schismalaw12_MonzoErrors.j2_no H hr).elim
           rw [if_pos c29] at H
           have c29b0 : (t585 == 0) = true := beq_iff_eq.mpr c29
           have c29b1 : (t585 != 0) = false := bne_eq_false_iff_eq.mpr c29
           clear c29
           by_cases c30 : t580 = x8_16
           case neg => rw [if_neg c30] at H; have c30b0 : (t580 == x8_16) = false := beq_eq_false_iff_ne.mpr c30; have c30b1 : (t580 != x8_16) = true := bne_iff_ne.mpr c30; exact (schismalaw12_MonzoErrors.j2_no H hr).elim
           rw [if_pos c30] at H
           have c30b0 : (t580 == x8_16) = true := beq_iff_eq.mpr c30
           have c30b1 : (t580 != x8_16) = false := bne_eq_false_iff_eq.mpr c30
           clear c30
           by_cases c31 : t584 = x8_16
           case neg => rw [if_neg c31] at H; have c31b0 : (t584 == x8_16) = false := beq_eq_false_iff_ne.mpr c31; have c31b1 : (t584 != x8_16) = true := bne_iff_ne.mpr c31; exact (schismalaw12_MonzoErrors.j2_no H hr).elim
           rw [if_pos c31] at H
           have c31b0 : (t584 == x8_16) = true := beq_iff_eq.mpr c31
           have c31b1 : (t584 != x8_16) = false := bne_eq_false_iff_eq.mpr c31
           clear c31
           have H' := Aside0.mk H
           clear H
           obtain ⟨Ao32, co32, eo32⟩ := Kd.V_slice HO579.out
           subst eo32
           obtain ⟨Ao33, co33, eo33⟩ := Kd.V_slice HO583.out
           subst eo33
           go_wp2
           go_meet
           case rel => exact ⟨_, ((t586 != x8_16)), (by first | rfl | (simp; done) | (simp [*]; done)), H', ⟨by have := HJ3.out; have := HJ16.out; first | omega | exact Nat.le_refl _⟩, ⟨by apply_rules [HB.out, below_alloc, pw_below_drewN, below_drew1]⟩⟩
         case rest =>
          as_aux_lemma =>
           clear HC24
           obtain ⟨kq, x105_23, rfl, HA, HJ23, HB⟩ := hcut
           cases kq with
           | zero => exact absurd HA.out (by simp [schismalaw12_MonzoErrors.j2])
           | succ kj23 =>
            have H := HA.out
            clear HA
            simp only [schismalaw12_MonzoErrors.j2] at H
            by_cases c42 : x105_23 = true
            ·subst c42
             have H1 : (some false) = some r := by rw [if_pos rfl] at H; exact H
             clear H
             have H := H1
             clear H1
             exact absurd ((Option.some.inj H).trans hr) Bool.false_ne_true
            ·replace c42 := Bool.eq_false_iff.mpr c42
             subst c42
             have H1 : (if t574 = 0 then (some true) else ((monzo_Fraction.f kj23 l0 l1).bind fun bt587 => ((monzo_Text.f kj23 l0 l1).bind fun bt591 => ((monzo_Neg.f kj23 l0 l1).bind fun bt593 => ((monzo_Power.f kj23 l0 l1 2).bind fun bt597 => ((monzo_Sign.f kj23 l0 l1).bind fun bt601 => ((monzo_Product.f kj23 l0 l1).bind fun bt603 => ((monzo_Greater.f kj23 l0 l1).bind fun bt605 => ((monzo_Odd.f kj23 l0 l1).bind fun bt607 => ((monzo_Superparticular.f kj23 l0 l1).bind fun bt609 => (if (bt587.1.toList == ([] : List UInt8) && (bt587.2.1.toList == ([] : List UInt8))) = true then (if bt587.2.2 = t574 then (if bt591.1.toList = ([] : List UInt8) then (if bt591.2 = t574 then (if (wrap64 ((bt593.1.length : Int) + (bt597.1.length : Int))) = 0 then (if bt593.2 = t574 then (if bt597.2 = t574 then (if bt601.1 = 0 then (if bt601.2 = t574 then (if bt603.1.toList = ([] : List UInt8) then (if bt603.2 = t574 then (if bt605.1.toList = ([] : List UInt8) then (if bt605.2 = t574 then (if bt607.1.toList = ([] : List UInt8) then (if bt607.2 = t574 then (if bt609.1 = true then (some false) else (some (bt609.2 == t574))) else (some false)) else (some false)) else (some false)) else (some false)) else (some false)) else (some false)) else (some false)) else (some false)) else (some false)) else (some false)) else (some false)) else (some false)) else (some false)) else (some false)) else (some false)))))))))))) = some r := by rw [if_neg (show ¬ (false = true) by decide)] at H; exact H
             clear H
             have H := H1
             clear H1
             by_cases c43 : t574 = 0
             ·rw [if_pos c43] at H
              have c43b0 : (t574 == 0) = true := beq_iff_eq.mpr c43
              have c43b1 : (t574 != 0) = false := bne_eq_false_iff_eq.mpr c43
              clear c43
              obtain rfl := Option.some.inj H
              go_wp2
              go_ret
              exact ⟨by first | rfl | simp [*], by apply_rules [HB.out, below_alloc, pw_below_drewN, below_drew1]⟩
             ·rw [if_neg c43] at H
              have c43b0 : (t574 == 0) = false := beq_eq_false_iff_ne.mpr c43
              have c43b1 : (t574 != 0) = true := bne_iff_ne.mpr c43
              replace H := Option.bind_eq_some_iff.mp H
              obtain ⟨⟨t587, t588, t589⟩, A440, H⟩ := H
              try dsimp only at H
              have A44 := Aside0.mk A440
              clear A440
              replace H := Option.bind_eq_some_iff.mp H
              obtain ⟨⟨t591, t592⟩, A450, H⟩ := H
              try dsimp only at H
              have A45 := Aside0.mk A450
              clear A450
              replace H := Option.bind_eq_some_iff.mp H
              obtain ⟨⟨t593, t596⟩, A460, H⟩ := H
              try dsimp only at H
              have A46 := Aside0.mk A460
              clear A460
              replace H := Option.bind_eq_some_iff.mp H
              obtain ⟨⟨t597, t600⟩, A470, H⟩ := H
              try dsimp only at H
              have A47 := Aside0.mk A470
              clear A470
              replace H := Option.bind_eq_some_iff.mp H
              obtain ⟨⟨t601, t602⟩, A480, H⟩ := H
              try dsimp only at H
              have A48 := Aside0.mk A480
              clear A480
              replace H := Option.bind_eq_some_iff.mp H
              obtain ⟨⟨t603, t604⟩, A490, H⟩ := H
              try dsimp only at H
              have A49 := Aside0.mk A490
              clear A490
              replace H := Option.bind_eq_some_iff.mp H
              obtain ⟨⟨t605, t606⟩, A500, H⟩ := H
              try dsimp only at H
              have A50 := Aside0.mk A500
              clear A500
              replace H := Option.bind_eq_some_iff.mp H
              obtain ⟨⟨t607, t608⟩, A510, H⟩ := H
              try dsimp only at H
              have A51 := Aside0.mk A510
              clear A510
              replace H := Option.bind_eq_some_iff.mp H
              obtain ⟨⟨t609, t610⟩, A520, H⟩ := H
              try dsimp only at H
              have A52 := Aside0.mk A520
              clear A520
              by_cases c53 : (t587.toList == ([] : List UInt8) && (t588.toList == ([] : List UInt8))) = true
              ·rw [if_pos c53] at H
               have c53b0 : (t587.toList == ([] : List UInt8) && (t588.toList == ([] : List UInt8))) = true := c53
               (try (have c53b1 : decide (t587.toList = ([] : List UInt8) && (t588.toList == ([] : List UInt8))) = true := by simpa using c53))
               (try (have c53b2 : (t587.toList == ([] : List UInt8) && (t588.toList == ([] : List UInt8))) = true := by simpa using c53))
               clear c53
               by_cases c54 : t589 = t574
               case neg => rw [if_neg c54] at H; have c54b0 : (t589 == t574) = false := beq_eq_false_iff_ne.mpr c54; have c54b1 : (t589 != t574) = true := bne_iff_ne.mpr c54; exact absurd ((Option.some.inj H).trans hr) Bool.false_ne_true
               rw [if_pos c54] at H
               have c54b0 : (t589 == t574) = true := beq_iff_eq.mpr c54
               have c54b1 : (t589 != t574) = false := bne_eq_false_iff_eq.mpr c54
               clear c54
               by_cases c55 : t591.toList = ([] : List UInt8)
               case neg => rw [if_neg c55] at H; have c55b0 : (t591.toList == ([] : List UInt8)) = false := beq_eq_false_iff_ne.mpr c55; have c55b1 : (t591.toList != ([] : List UInt8)) = true := bne_iff_ne.mpr c55; exact absurd ((Option.some.inj H).trans hr) Bool.false_ne_true
               rw [if_pos c55] at H
               have c55b0 : (t591.toList == ([] : List UInt8)) = true := beq_iff_eq.mpr c55
               have c55b1 : (t591.toList != ([] : List UInt8)) = false := bne_eq_false_iff_eq.mpr c55
               clear c55
               by_cases c56 : t592 = t574
               case neg => rw [if_neg c56] at H; have c56b0 : (t592 == t574) = false := beq_eq_false_iff_ne.mpr c56; have c56b1 : (t592 != t574) = true := bne_iff_ne.mpr c56; exact absurd ((Option.some.inj H).trans hr) Bool.false_ne_true
               rw [if_pos c56] at H
               have c56b0 : (t592 == t574) = true := beq_iff_eq.mpr c56
               have c56b1 : (t592 != t574) = false := bne_eq_false_iff_eq.mpr c56
               clear c56
               by_cases c57 : (wrap64 ((t593.length : Int) + (t597.length : Int))) = 0
               case neg => rw [if_neg c57] at H; have c57b0 : ((wrap64 ((t593.length : Int) + (t597.length : Int))) == 0) = false := beq_eq_false_iff_ne.mpr c57; have c57b1 : ((wrap64 ((t593.length : Int) + (t597.length : Int))) != 0) = true := bne_iff_ne.mpr c57; exact absurd ((Option.some.inj H).trans hr) Bool.false_ne_true
               rw [if_pos c57] at H
               have c57b0 : ((wrap64 ((t593.length : Int) + (t597.length : Int))) == 0) = true := beq_iff_eq.mpr c57
               have c57b1 : ((wrap64 ((t593.length : Int) + (t597.length : Int))) != 0) = false := bne_eq_false_iff_eq.mpr c57
               clear c57
               by_cases c58 : t596 = t574
               case neg => rw [if_neg c58] at H; have c58b0 : (t596 == t574) = false := beq_eq_false_iff_ne.mpr c58; have c58b1 : (t596 != t574) = true := bne_iff_ne.mpr c58; exact absurd ((Option.some.inj H).trans hr) Bool.false_ne_true
               rw [if_pos c58] at H
               have c58b0 : (t596 == t574) = true := beq_iff_eq.mpr c58
               have c58b1 : (t596 != t574) = false := bne_eq_false_iff_eq.mpr c58
               clear c58
               by_cases c59 : t600 = t574
               case neg => rw [if_neg c59] at H; have c59b0 : (t600 == t574) = false := beq_eq_false_iff_ne.mpr c59; have c59b1 : (t600 != t574) = true := bne_iff_ne.mpr c59; exact absurd ((Option.some.inj H).trans hr) Bool.false_ne_true
               rw [if_pos c59] at H
               have c59b0 : (t600 == t574) = true := beq_iff_eq.mpr c59
               have c59b1 : (t600 != t574) = false := bne_eq_false_iff_eq.mpr c59
               clear c59
               by_cases c60 : t601 = 0
               case neg => rw [if_neg c60] at H; have c60b0 : (t601 == 0) = false := beq_eq_false_iff_ne.mpr c60; have c60b1 : (t601 != 0) = true := bne_iff_ne.mpr c60; exact absurd ((Option.some.inj H).trans hr) Bool.false_ne_true
               rw [if_pos c60] at H
               have c60b0 : (t601 == 0) = true := beq_iff_eq.mpr c60
               have c60b1 : (t601 != 0) = false := bne_eq_false_iff_eq.mpr c60
               clear c60
               by_cases c61 : t602 = t574
               case neg => rw [if_neg c61] at H; have c61b0 : (t602 == t574) = false := beq_eq_false_iff_ne.mpr c61; have c61b1 : (t602 != t574) = true := bne_iff_ne.mpr c61; exact absurd ((Option.some.inj H).trans hr) Bool.false_ne_true
               rw [if_pos c61] at H
               have c61b0 : (t602 == t574) = true := beq_iff_eq.mpr c61
               have c61b1 : (t602 != t574) = false := bne_eq_false_iff_eq.mpr c61
               clear c61
               by_cases c62 : t603.toList = ([] : List UInt8)
               case neg => rw [if_neg c62] at H; have c62b0 : (t603.toList == ([] : List UInt8)) = false := beq_eq_false_iff_ne.mpr c62; have c62b1 : (t603.toList != ([] : List UInt8)) = true := bne_iff_ne.mpr c62; exact absurd ((Option.some.inj H).trans hr) Bool.false_ne_true
               rw [if_pos c62] at H
               have c62b0 : (t603.toList == ([] : List UInt8)) = true := beq_iff_eq.mpr c62
               have c62b1 : (t603.toList != ([] : List UInt8)) = false := bne_eq_false_iff_eq.mpr c62
               clear c62
               by_cases c63 : t604 = t574
               case neg => rw [if_neg c63] at H; have c63b0 : (t604 == t574) = false := beq_eq_false_iff_ne.mpr c63; have c63b1 : (t604 != t574) = true := bne_iff_ne.mpr c63; exact absurd ((Option.some.inj H).trans hr) Bool.false_ne_true
               rw [if_pos c63] at H
               have c63b0 : (t604 == t574) = true := beq_iff_eq.mpr c63
               have c63b1 : (t604 != t574) = false := bne_eq_false_iff_eq.mpr c63
               clear c63
               by_cases c64 : t605.toList = ([] : List UInt8)
               case neg => rw [if_neg c64] at H; have c64b0 : (t605.toList == ([] : List UInt8)) = false := beq_eq_false_iff_ne.mpr c64; have c64b1 : (t605.toList != ([] : List UInt8)) = true := bne_iff_ne.mpr c64; exact absurd ((Option.some.inj H).trans hr) Bool.false_ne_true
               rw [if_pos c64] at H
               have c64b0 : (t605.toList == ([] : List UInt8)) = true := beq_iff_eq.mpr c64
               have c64b1 : (t605.toList != ([] : List UInt8)) = false := bne_eq_false_iff_eq.mpr c64
               clear c64
               by_cases c65 : t606 = t574
               case neg => rw [if_neg c65] at H; have c65b0 : (t606 == t574) = false := beq_eq_false_iff_ne.mpr c65; have c65b1 : (t606 != t574) = true := bne_iff_ne.mpr c65; exact absurd ((Option.some.inj H).trans hr) Bool.false_ne_true
               rw [if_pos c65] at H
               have c65b0 : (t606 == t574) = true := beq_iff_eq.mpr c65
               have c65b1 : (t606 != t574) = false := bne_eq_false_iff_eq.mpr c65
               clear c65
               by_cases c66 : t607.toList = ([] : List UInt8)
               case neg => rw [if_neg c66] at H; have c66b0 : (t607.toList == ([] : List UInt8)) = false := beq_eq_false_iff_ne.mpr c66; have c66b1 : (t607.toList != ([] : List UInt8)) = true := bne_iff_ne.mpr c66; exact absurd ((Option.some.inj H).trans hr) Bool.false_ne_true
               rw [if_pos c66] at H
               have c66b0 : (t607.toList == ([] : List UInt8)) = true := beq_iff_eq.mpr c66
               have c66b1 : (t607.toList != ([] : List UInt8)) = false := bne_eq_false_iff_eq.mpr c66
               clear c66
               by_cases c67 : t608 = t574
               case neg => rw [if_neg c67] at H; have c67b0 : (t608 == t574) = false := beq_eq_false_iff_ne.mpr c67; have c67b1 : (t608 != t574) = true := bne_iff_ne.mpr c67; exact absurd ((Option.some.inj H).trans hr) Bool.false_ne_true
               rw [if_pos c67] at H
               have c67b0 : (t608 == t574) = true := beq_iff_eq.mpr c67
               have c67b1 : (t608 != t574) = false := bne_eq_false_iff_eq.mpr c67
               clear c67
               by_cases c68 : t609 = true
               ·subst c68
                have H1 : (some false) = some r := by rw [if_pos rfl] at H; exact H
                clear H
                have H := H1
                clear H1
                exact absurd ((Option.some.inj H).trans hr) Bool.false_ne_true
               ·replace c68 := Bool.eq_false_iff.mpr c68
                subst c68
                have H1 : (some (t610 == t574)) = some r := by rw [if_neg (show ¬ (false = true) by decide)] at H; exact H
                clear H
                have H := H1
                clear H1
                obtain rfl := Option.some.inj H
                go_wp2_with (first | ((with_reducible refine gate_callee (f := 37) rfl ?_); refine goesK (some 111) Tryz.func37 [.slice A0 l0.length c0, .slice A1 l1.length c1] rfl rfl ?_; (with_reducible refine (monzo_Fraction.calls kj23 _ _ l0 _ _ l1 t587 t588 t589 _ ?side1 ?side2 ?side3 ?side4 ?side5 A44.out).mono ?_); (case side1 => refine TabW.below hT ?_; apply_rules [HB.out, below_alloc, pw_below_drewN, below_drew1]); (case side2 => repeat (first | exact (Kd.C_below HR0.out HB.out) | (with_reducible refine Kd.C_alloc ?_ _) | (with_reducible refine Kd.C_drewN ?_ _) | (with_reducible refine Kd.C_drew ?_))); (case side3 => exact HC0.out); (case side4 => repeat (first | exact (Kd.C_below HR1.out HB.out) | (with_reducible refine Kd.C_alloc ?_ _) | (with_reducible refine Kd.C_drewN ?_ _) | (with_reducible refine Kd.C_drew ?_))); (case side5 => exact HC1.out); rintro e w83 ⟨rfl, hb⟩; refine ⟨_, rfl, ?_⟩; replace HB := Aside0.mk (below_step (by apply_rules [HB.out, below_alloc, pw_below_drewN, below_drew1]) hb); (try clear hb)) | ((with_reducible refine gate_dst (N := 15) rfl ?_); (try (refine gate_guard (by rfl) ?_; dsimp only)); refine box_event ?hg (N := 15) ?hd (cs := #[.string (⟨#[]⟩ : ByteArray), .string (⟨#[]⟩ : ByteArray)]) (t := 38) ?hr ?_; (case hd => rfl); (case hg => rfl); (case hr => go_simp; try rfl); intro gb590 hg w84 hbox hb; have n0_ := Aside0.mk (below_step (by apply_rules [HB.out, below_alloc, pw_below_drewN, below_drew1]) hb); have n1_ := Aside0.mk (hbox); have n2_ := Aside0.mk ((by rw [hg]; exact (below_size (by apply_rules [HB.out, below_alloc, pw_below_drewN, below_drew1])) : w.heap.size ≤ gb590)); have n3_ := Aside0.mk ((by rw [hg]; exact (below_size (by apply_rules [HB.out, below_alloc, pw_below_drewN, below_drew1])) : w.heap.size ≤ gb590)); clear HB; have HB := n0_; have BK590 := n1_; have GW590 := n2_; have GE590 := n3_; clear n0_ n1_ n2_ n3_; clear hb hbox hg; have hcz85_0 : w84.cell? ⟨gb590, 0, none⟩ = some (.string (⟨#[]⟩ : ByteArray)) := (blk_cell BK590.out 0).trans rfl; have hcz85_1 : w84.cell? ⟨gb590, 1, none⟩ = some (.string (⟨#[]⟩ : ByteArray)) := (blk_cell BK590.out 1).trans rfl; have hfz85_0 := blk_frozen BK590.out 0; have hfz85_1 := blk_frozen BK590.out 1) | ((with_reducible refine gate_callee (f := 38) rfl ?_); refine goesK (some 117) Tryz.func38 [.slice A0 l0.length c0, .slice A1 l1.length c1] rfl rfl ?_; (with_reducible refine (monzo_Text.calls kj23 _ _ l0 _ _ l1 t591 t592 _ ?side1 ?side2 ?side3 ?side4 ?side5 A45.out).mono ?_); (case side1 => refine TabW.below hT ?_; apply_rules [HB.out, below_alloc, pw_below_drewN, below_drew1, below_set, GE590.out]); (case side2 => exact Kd.C_below HR0.out (by apply_rules [HB.out, below_alloc, pw_below_drewN, below_drew1, below_set, GE590.out])); (case side3 => exact HC0.out); (case side4 => exact Kd.C_below HR1.out (by apply_rules [HB.out, below_alloc, pw_below_drewN, below_drew1, below_set, GE590.out])); (case side5 => exact HC1.out); rintro e w86 ⟨rfl, hb⟩; refine ⟨_, rfl, ?_⟩; have n0_ := Aside0.mk (blk_below (g := gb590) (o := .cells #[.string t587, .string t588] 38 (0, 0)) (by (with_reducible repeat (first | refine blk_drewN ?_ _ | refine blk_drew ?_ | refine blk_alloc ?_ _)); refine blk_put (cs := #[.string t587, .string (⟨#[]⟩ : ByteArray)]) ?_ 1 _ rfl; (with_reducible repeat (first | refine blk_drewN ?_ _ | refine blk_drew ?_ | refine blk_alloc ?_ _)); refine blk_put (cs := #[.string (⟨#[]⟩ : ByteArray), .string (⟨#[]⟩ : ByteArray)]) ?_ 0 _ rfl; apply_rules [BK590.out, blk_drewN, blk_drew, blk_alloc]) hb); have n1_ := Aside0.mk (below_step (by apply_rules [HB.out, below_alloc, pw_below_drewN, below_drew1, below_set, GE590.out]) hb); clear BK590; clear HB; have BK590 := n0_; have HB := n1_; clear n0_ n1_; (try clear hb)) | ((with_reducible refine gate_callee (f := 49) rfl ?_); refine goesK (some 123) Tryz.func49 [.slice A0 l0.length c0, .slice A1 l1.length c1] rfl rfl ?_; (with_reducible refine (monzo_Neg.calls kj23 _ _ l0 _ _ l1 t593 t596 _ ?side1 ?side2 ?side3 ?side4 A46.out).mono ?_); (case side1 => repeat (first | exact (Kd.C_below HR0.out HB.out) | (with_reducible refine Kd.C_alloc ?_ _) | (with_reducible refine Kd.C_drewN ?_ _) | (with_reducible refine Kd.C_drew ?_))); (case side2 => exact HC0.out); (case side3 => repeat (first | exact (Kd.C_below HR1.out HB.out) | (with_reducible refine Kd.C_alloc ?_ _) | (with_reducible refine Kd.C_drewN ?_ _) | (with_reducible refine Kd.C_drew ?_))); (case side4 => exact HC1.out); rintro e w87 ⟨v594, rfl, ho0, hb⟩; refine ⟨_, rfl, ?_⟩; have n0_ := Aside0.mk (Kd.V_lower (Kd.V_mono (ok' := fun k_ => k_ ≠ gb590) ho0 (fun k_ hk_ => (Kd.freshB (g := gb590) (o := .cells #[.string t587, .string t588] 38 (0, 0)) (by apply_rules [BK590.out, blk_drewN, blk_drew, blk_alloc]) k_ hk_))) (below_size (by apply_rules [HB.out, below_alloc, pw_below_drewN, below_drew1, below_set, GE590.out]))); have n1_ := Aside0.mk (blk_below (g := gb590) (o := .cells #[.string t587, .string t588] 38 (0, 0)) (by apply_rules [BK590.out, blk_drewN, blk_drew, blk_alloc]) hb); have n2_ := Aside0.mk (below_step (by apply_rules [HB.out, below_alloc, pw_below_drewN, below_drew1, below_set, GE590.out]) hb); clear BK590; clear HB; have HO595 := n0_; have BK590 := n1_; have HB := n2_; clear n0_ n1_ n2_; (try clear hb); (try clear ho0)) | ((with_reducible refine gate_callee (f := 50) rfl ?_); refine goesK (some 129) Tryz.func50 [.slice A0 l0.length c0, .slice A1 l1.length c1, .int .i64 2] rfl rfl ?_; (with_reducible refine (monzo_Power.calls kj23 _ _ l0 _ _ l1 2 t597 t600 _ ?side1 ?side2 ?side3 ?side4 A47.out).mono ?_); (case side1 => repeat (first | exact (Kd.C_below HR0.out HB.out) | (with_reducible refine Kd.C_alloc ?_ _) | (with_reducible refine Kd.C_drewN ?_ _) | (with_reducible refine Kd.C_drew ?_))); (case side2 => exact HC0.out); (case side3 => repeat (first | exact (Kd.C_below HR1.out HB.out) | (with_reducible refine Kd.C_alloc ?_ _) | (with_reducible refine Kd.C_drewN ?_ _) | (with_reducible refine Kd.C_drew ?_))); (case side4 => exact HC1.out); rintro e w88 ⟨v598, rfl, ho0, hb⟩; refine ⟨_, rfl, ?_⟩; have n0_ := Aside0.mk (Kd.V_below (by (with_reducible repeat (first | apply Kd.V_alloc | apply Kd.V_drewN | apply Kd.V_drew)); exact HO595.out) hb); have n1_ := Aside0.mk (Kd.V_lower (Kd.V_mono (ok' := fun k_ => k_ ≠ gb590) ho0 (fun k_ hk_ => (Kd.freshB (g := gb590) (o := .cells #[.string t587, .string t588] 38 (0, 0)) (by apply_rules [BK590.out, blk_drewN, blk_drew, blk_alloc]) k_ hk_))) (below_size (by apply_rules [HB.out, below_alloc, pw_below_drewN, below_drew1, below_set, GE590.out]))); have n2_ := Aside0.mk (blk_below (g := gb590) (o := .cells #[.string t587, .string t588] 38 (0, 0)) (by apply_rules [BK590.out, blk_drewN, blk_drew, blk_alloc]) hb); have n3_ := Aside0.mk (below_step (by apply_rules [HB.out, below_alloc, pw_below_drewN, below_drew1, below_set, GE590.out]) hb); clear HO595; clear BK590; clear HB; have HO595 := n0_; have HO599 := n1_; have BK590 := n2_; have HB := n3_; clear n0_ n1_ n2_ n3_; (try clear hb); (try clear ho0)) | ((with_reducible refine gate_callee (f := 44) rfl ?_); refine goesK (some 135) Tryz.func44 [.slice A0 l0.length c0, .slice A1 l1.length c1] rfl rfl ?_; (with_reducible refine (monzo_Sign.calls kj23 _ _ l0 _ _ l1 t601 t602 _ ?side1 ?side2 ?side3 ?side4 ?side5 A48.out).mono ?_); (case side1 => refine TabW.below hT ?_; apply_rules [HB.out, below_alloc, pw_below_drewN, below_drew1, below_set, GE590.out]); (case side2 => repeat (first | exact (Kd.C_below HR0.out HB.out) | (with_reducible refine Kd.C_alloc ?_ _) | (with_reducible refine Kd.C_drewN ?_ _) | (with_reducible refine Kd.C_drew ?_))); (case side3 => exact HC0.out); (case side4 => repeat (first | exact (Kd.C_below HR1.out HB.out) | (with_reducible refine Kd.C_alloc ?_ _) | (with_reducible refine Kd.C_drewN ?_ _) | (with_reducible refine Kd.C_drew ?_))); (case side5 => exact HC1.out); rintro e w89 ⟨rfl, hb⟩; refine ⟨_, rfl, ?_⟩; have n0_ := Aside0.mk (Kd.V_below (by (with_reducible repeat (first | apply Kd.V_alloc | apply Kd.V_drewN | apply Kd.V_drew)); exact HO595.out) hb); have n1_ := Aside0.mk (Kd.V_below (by (with_reducible repeat (first | apply Kd.V_alloc | apply Kd.V_drewN | apply Kd.V_drew)); exact HO599.out) hb); have n2_ := Aside0.mk (blk_below (g := gb590) (o := .cells #[.string t587, .string t588] 38 (0, 0)) (by apply_rules [BK590.out, blk_drewN, blk_drew, blk_alloc]) hb); have n3_ := Aside0.mk (below_step (by apply_rules [HB.out, below_alloc, pw_below_drewN, below_drew1, below_set, GE590.out]) hb); clear HO595; clear HO599; clear BK590; clear HB; have HO595 := n0_; have HO599 := n1_; have BK590 := n2_; have HB := n3_; clear n0_ n1_ n2_ n3_; (try clear hb)) | ((with_reducible refine gate_callee (f := 43) rfl ?_); refine goesK (some 141) Tryz.func43 [.slice A0 l0.length c0, .slice A1 l1.length c1] rfl rfl ?_; (with_reducible refine (monzo_Product.calls kj23 _ _ l0 _ _ l1 t603 t604 _ ?side1 ?side2 ?side3 ?side4 ?side5 A49.out).mono ?_); (case side1 => refine TabW.below hT ?_; apply_rules [HB.out, below_alloc, pw_below_drewN, below_drew1, below_set, GE590.out]); (case side2 => repeat (first | exact (Kd.C_below HR0.out HB.out) | (with_reducible refine Kd.C_alloc ?_ _) | (with_reducible refine Kd.C_drewN ?_ _) | (with_reducible refine Kd.C_drew ?_))); (case side3 => exact HC0.out); (case side4 => repeat (first | exact (Kd.C_below HR1.out HB.out) | (with_reducible refine Kd.C_alloc ?_ _) | (with_reducible refine Kd.C_drewN ?_ _) | (with_reducible refine Kd.C_drew ?_))); (case side5 => exact HC1.out); rintro e w90 ⟨rfl, hb⟩; refine ⟨_, rfl, ?_⟩; have n0_ := Aside0.mk (Kd.V_below (by (with_reducible repeat (first | apply Kd.V_alloc | apply Kd.V_drewN | apply Kd.V_drew)); exact HO595.out) hb); have n1_ := Aside0.mk (Kd.V_below (by (with_reducible repeat (first | apply Kd.V_alloc | apply Kd.V_drewN | apply Kd.V_drew)); exact HO599.out) hb); have n2_ := Aside0.mk (blk_below (g := gb590) (o := .cells #[.string t587, .string t588] 38 (0, 0)) (by apply_rules [BK590.out, blk_drewN, blk_drew, blk_alloc]) hb); have n3_ := Aside0.mk (below_step (by apply_rules [HB.out, below_alloc, pw_below_drewN, below_drew1, below_set, GE590.out]) hb); clear HO595; clear HO599; clear BK590; clear HB; have HO595 := n0_; have HO599 := n1_; have BK590 := n2_; have HB := n3_; clear n0_ n1_ n2_ n3_; (try clear hb)) | ((with_reducible refine gate_callee (f := 42) rfl ?_); refine goesK (some 147) Tryz.func42 [.slice A0 l0.length c0, .slice A1 l1.length c1] rfl rfl ?_; (with_reducible refine (monzo_Greater.calls kj23 _ _ l0 _ _ l1 t605 t606 _ ?side1 ?side2 ?side3 ?side4 ?side5 A50.out).mono ?_); (case side1 => refine TabW.below hT ?_; apply_rules [HB.out, below_alloc, pw_below_drewN, below_drew1, below_set, GE590.out]); (case side2 => repeat (first | exact (Kd.C_below HR0.out HB.out) | (with_reducible refine Kd.C_alloc ?_ _) | (with_reducible refine Kd.C_drewN ?_ _) | (with_reducible refine Kd.C_drew ?_))); (case side3 => exact HC0.out); (case side4 => repeat (first | exact (Kd.C_below HR1.out HB.out) | (with_reducible refine Kd.C_alloc ?_ _) | (with_reducible refine Kd.C_drewN ?_ _) | (with_reducible refine Kd.C_drew ?_))); (case side5 => exact HC1.out); rintro e w91 ⟨rfl, hb⟩; refine ⟨_, rfl, ?_⟩; have n0_ := Aside0.mk (Kd.V_below (by (with_reducible repeat (first | apply Kd.V_alloc | apply Kd.V_drewN | apply Kd.V_drew)); exact HO595.out) hb); have n1_ := Aside0.mk (Kd.V_below (by (with_reducible repeat (first | apply Kd.V_alloc | apply Kd.V_drewN | apply Kd.V_drew)); exact HO599.out) hb); have n2_ := Aside0.mk (blk_below (g := gb590) (o := .cells #[.string t587, .string t588] 38 (0, 0)) (by apply_rules [BK590.out, blk_drewN, blk_drew, blk_alloc]) hb); have n3_ := Aside0.mk (below_step (by apply_rules [HB.out, below_alloc, pw_below_drewN, below_drew1, below_set, GE590.out]) hb); clear HO595; clear HO599; clear BK590; clear HB; have HO595 := n0_; have HO599 := n1_; have BK590 := n2_; have HB := n3_; clear n0_ n1_ n2_ n3_; (try clear hb)) | ((with_reducible refine gate_callee (f := 53) rfl ?_); refine goesK (some 153) Tryz.func53 [.slice A0 l0.length c0, .slice A1 l1.length c1] rfl rfl ?_; (with_reducible refine (monzo_Odd.calls kj23 _ _ l0 _ _ l1 t607 t608 _ ?side1 ?side2 ?side3 ?side4 ?side5 A51.out).mono ?_); (case side1 => refine TabW.below hT ?_; apply_rules [HB.out, below_alloc, pw_below_drewN, below_drew1, below_set, GE590.out]); (case side2 => repeat (first | exact (Kd.C_below HR0.out HB.out) | (with_reducible refine Kd.C_alloc ?_ _) | (with_reducible refine Kd.C_drewN ?_ _) | (with_reducible refine Kd.C_drew ?_))); (case side3 => exact HC0.out); (case side4 => repeat (first | exact (Kd.C_below HR1.out HB.out) | (with_reducible refine Kd.C_alloc ?_ _) | (with_reducible refine Kd.C_drewN ?_ _) | (with_reducible refine Kd.C_drew ?_))); (case side5 => exact HC1.out); rintro e w92 ⟨rfl, hb⟩; refine ⟨_, rfl, ?_⟩; have n0_ := Aside0.mk (Kd.V_below (by (with_reducible repeat (first | apply Kd.V_alloc | apply Kd.V_drewN | apply Kd.V_drew)); exact HO595.out) hb); have n1_ := Aside0.mk (Kd.V_below (by (with_reducible repeat (first | apply Kd.V_alloc | apply Kd.V_drewN | apply Kd.V_drew)); exact HO599.out) hb); have n2_ := Aside0.mk (blk_below (g := gb590) (o := .cells #[.string t587, .string t588] 38 (0, 0)) (by apply_rules [BK590.out, blk_drewN, blk_drew, blk_alloc]) hb); have n3_ := Aside0.mk (below_step (by apply_rules [HB.out, below_alloc, pw_below_drewN, below_drew1, below_set, GE590.out]) hb); clear HO595; clear HO599; clear BK590; clear HB; have HO595 := n0_; have HO599 := n1_; have BK590 := n2_; have HB := n3_; clear n0_ n1_ n2_ n3_; (try clear hb)) | ((with_reducible refine gate_callee (f := 54) rfl ?_); refine goesK (some 159) Tryz.func54 [.slice A0 l0.length c0, .slice A1 l1.length c1] rfl rfl ?_; (with_reducible refine (monzo_Superparticular.calls kj23 _ _ l0 _ _ l1 false t610 _ ?side1 ?side2 ?side3 ?side4 ?side5 A52.out).mono ?_); (case side1 => refine TabW.below hT ?_; apply_rules [HB.out, below_alloc, pw_below_drewN, below_drew1, below_set, GE590.out]); (case side2 => repeat (first | exact (Kd.C_below HR0.out HB.out) | (with_reducible refine Kd.C_alloc ?_ _) | (with_reducible refine Kd.C_drewN ?_ _) | (with_reducible refine Kd.C_drew ?_))); (case side3 => exact HC0.out); (case side4 => repeat (first | exact (Kd.C_below HR1.out HB.out) | (with_reducible refine Kd.C_alloc ?_ _) | (with_reducible refine Kd.C_drewN ?_ _) | (with_reducible refine Kd.C_drew ?_))); (case side5 => exact HC1.out); rintro e w93 ⟨rfl, hb⟩; refine ⟨_, rfl, ?_⟩; have n0_ := Aside0.mk (Kd.V_below (by (with_reducible repeat (first | apply Kd.V_alloc | apply Kd.V_drewN | apply Kd.V_drew)); exact HO595.out) hb); have n1_ := Aside0.mk (Kd.V_below (by (with_reducible repeat (first | apply Kd.V_alloc | apply Kd.V_drewN | apply Kd.V_drew)); exact HO599.out) hb); have n2_ := Aside0.mk (blk_below (g := gb590) (o := .cells #[.string t587, .string t588] 38 (0, 0)) (by apply_rules [BK590.out, blk_drewN, blk_drew, blk_alloc]) hb); have n3_ := Aside0.mk (below_step (by apply_rules [HB.out, below_alloc, pw_below_drewN, below_drew1, below_set, GE590.out]) hb); clear HO595; clear HO599; clear BK590; clear HB; have HO595 := n0_; have HO599 := n1_; have BK590 := n2_; have HB := n3_; clear n0_ n1_ n2_ n3_; (try clear hb); have hcz94_0 : w93.cell? ⟨gb590, 0, none⟩ = some (.string t587) := (blk_cell BK590.out 0).trans rfl; have hcz94_1 : w93.cell? ⟨gb590, 1, none⟩ = some (.string t588) := (blk_cell BK590.out 1).trans rfl; have hfz94_0 := blk_frozen BK590.out 0; have hfz94_1 := blk_frozen BK590.out 1; obtain ⟨Ao95, co95, eo95⟩ := Kd.V_slice HO595.out; subst eo95; obtain ⟨Ao96, co96, eo96⟩ := Kd.V_slice HO599.out; subst eo96))
                go_ret
                exact ⟨by first | rfl | simp [*], by apply_rules [HB.out, below_alloc, pw_below_drewN, below_drew1, below_set, GE590.out]⟩
                all_goals (rename_i hz_; exact absurd (by simpa using c53b0) hz_)
              ·rw [if_neg c53] at H
               have c53b0 : (t587.toList == ([] : List UInt8) && (t588.toList == ([] : List UInt8))) = false := by simpa using c53
               (try (have c53b1 : decide (t587.toList = ([] : List UInt8) && (t588.toList == ([] : List UInt8))) = false := by simpa using c53))
               (try (have c53b2 : (t587.toList == ([] : List UInt8) && (t588.toList == ([] : List UInt8))) = false := by simpa using c53))
               (try (have c53b3 : ¬ (t587.toList = ([] : List UInt8) && (t588.toList == ([] : List UInt8))) := by simpa using c53))
               clear c53
               exact absurd ((Option.some.inj H).trans hr) Bool.false_ne_true
end Go.Proofs.YtccebdpjdpjgnaaGreatDoor.P
