/-
words of the walks
-/
import Derived.Test.YtccebdpjdpjgnaaGreatDoorBF06
import Derived.Test.YtccebdpjdpjgnaaGreatDoorBF42
import Derived.Test.YtccebdpjdpjgnaaGreatDoorBF35
import Derived.Test.YtccebdpjdpjgnaaGreatDoorBF30
import Derived.Test.YtccebdpjdpjgnaaGreatDoorBF36
import Derived.Test.YtccebdpjdpjgnaaGreatDoorBF37
import Derived.Test.YtccebdpjdpjgnaaGreatDoorBF40
import Derived.Test.YtccebdpjdpjgnaaGreatDoorBF38
set_option linter.unusedVariables false
set_option linter.unusedSimpArgs false
namespace Go.Proofs.YtccebdpjdpjgnaaGreatDoor.P
open Go.RowKit Go.Proofs.YtccebdpjdpjgnaaGreatDoorW.PrintWords Go.Proofs.YtccebdpjdpjgnaaGreatDoorW.PrintLast Go.Proofs.YtccebdpjdpjgnaaGreatDoorW.PrintMore
attribute [local go_sem] max2_int min2_int max_two min_two max_three min_three max_four min_four
set_option linter.unusedVariables false
set_option linter.unusedSimpArgs false
attribute [local go_sem high] eqA38
def schismalaw12_MonzoFractions.f (k : Nat) (a0_0 : Int) (a0_1 : Int) (a0_2 : Int) (a0_3 : Int) (a0_4 : Int) : Option (Bool) := (schismalaw12_known.f k).bind fun t606 => (if t606 = true then ((schismalaw12_Make.f k a0_0 a0_1 a0_2 a0_3 a0_4).bind fun bt607 => ((schismalaw12_Value.f k bt607.1 bt607.2).bind fun bt613 => ((monzo_Fraction.f k bt607.1 bt607.2).bind fun bt615 => ((monzo_Text.f k bt607.1 bt607.2).bind fun bt619 => ((monzo_Of.f k bt607.1 bt615.1 bt615.2.1).bind fun bt621 => (if (bt615.1.toList == bt613.1.toList && (bt615.2.1.toList == bt613.2.toList)) = true then (if bt615.2.2 = 0 then ((fraction_Text.f bt615.1 bt615.2.1).bind fun t625 => (if bt619.1.toList = t625.toList then (if bt619.2 = 0 then ((schismalaw12_Same.f k bt607.2 bt621.1).bind fun t626 => (if t626 = true then (some (bt621.2 == 0)) else (some false))) else (some false)) else (some false))) else (some false)) else (some false))))))) else (some false))
theorem schismalaw12_MonzoFractions.mono : ∀ a0 a1 a2 a3 a4 k, LeO (schismalaw12_MonzoFractions.f k a0 a1 a2 a3 a4) (schismalaw12_MonzoFractions.f (k + 1) a0 a1 a2 a3 a4) := by
 intro a0 a1 a2 a3 a4 k
 unfold schismalaw12_MonzoFractions.f
 repeat' first
   | (with_reducible exact monzo_Fraction.mono _ _ _)
   | (with_reducible exact monzo_Of.mono _ _ _ _)
   | (with_reducible exact monzo_Text.mono _ _ _)
   | (with_reducible exact schismalaw12_Make.mono _ _ _ _ _ _)
   | (with_reducible exact schismalaw12_Same.mono _ _ _)
   | (with_reducible exact schismalaw12_Value.mono _ _ _)
   | (with_reducible exact schismalaw12_known.mono _)
   | (with_reducible exact LeO.refl _)
   | (with_reducible exact LeO.none _)
   | (with_reducible refine LeO.ite ?_ ?_)
   | (with_reducible refine LeO.bind ?_ (fun _ => ?_))
   | exact monzo_Fraction.mono _ _ _
   | exact monzo_Of.mono _ _ _ _
   | exact monzo_Text.mono _ _ _
   | exact schismalaw12_Make.mono _ _ _ _ _ _
   | exact schismalaw12_Same.mono _ _ _
   | exact schismalaw12_Value.mono _ _ _
   | exact schismalaw12_known.mono _
   | exact LeO.none _
   | refine LeO.ite ?_ ?_
   | refine LeO.bind ?_ (fun _ => ?_)
set_option maxHeartbeats 8000000 in
set_option maxRecDepth 100000 in
theorem schismalaw12_MonzoFractions.calls (k : Nat) (a0_0 : Int) (a0_1 : Int) (a0_2 : Int) (a0_3 : Int) (a0_4 : Int) (r : Bool) (w : World) (hT : TabW w) (h : schismalaw12_MonzoFractions.f k a0_0 a0_1 a0_2 a0_3 a0_4 = some r) (hr : r = true) :
  Calls Tryz.prog 5 #[.agg #[.int .u8 a0_0, .int .i8 a0_1, .int .i8 a0_2, .int .i8 a0_3, .int .i8 a0_4]] w fun e w' => e = .returned (.bool r) ∧ Below w.heap.size w w' := by
 have hu50 := Tryz.underlying50
 have hu38 := Tryz.underlying38
 have HB := Aside0.mk (Below.refl w.heap.size w)
 have H : ((schismalaw12_known.f k).bind fun t606 => (if t606 = true then ((schismalaw12_Make.f k a0_0 a0_1 a0_2 a0_3 a0_4).bind fun bt607 => ((schismalaw12_Value.f k bt607.1 bt607.2).bind fun bt613 => ((monzo_Fraction.f k bt607.1 bt607.2).bind fun bt615 => ((monzo_Text.f k bt607.1 bt607.2).bind fun bt619 => ((monzo_Of.f k bt607.1 bt615.1 bt615.2.1).bind fun bt621 => (if (bt615.1.toList == bt613.1.toList && (bt615.2.1.toList == bt613.2.toList)) = true then (if bt615.2.2 = 0 then ((fraction_Text.f bt615.1 bt615.2.1).bind fun t625 => (if bt619.1.toList = t625.toList then (if bt619.2 = 0 then ((schismalaw12_Same.f k bt607.2 bt621.1).bind fun t626 => (if t626 = true then (some (bt621.2 == 0)) else (some false))) else (some false)) else (some false))) else (some false)) else (some false))))))) else (some false))) = some r := h
 clear h
 replace H := Option.bind_eq_some_iff.mp H
 obtain ⟨t606, A20, H⟩ := H
 try dsimp only at H
 have A2 := Aside0.mk A20
 clear A20
 by_cases c3 : t606 = true
 ·subst c3
  have H1 : ((schismalaw12_Make.f k a0_0 a0_1 a0_2 a0_3 a0_4).bind fun bt607 => ((schismalaw12_Value.f k bt607.1 bt607.2).bind fun bt613 => ((monzo_Fraction.f k bt607.1 bt607.2).bind fun bt615 => ((monzo_Text.f k bt607.1 bt607.2).bind fun bt619 => ((monzo_Of.f k bt607.1 bt615.1 bt615.2.1).bind fun bt621 => (if (bt615.1.toList == bt613.1.toList && (bt615.2.1.toList == bt613.2.toList)) = true then (if bt615.2.2 = 0 then ((fraction_Text.f bt615.1 bt615.2.1).bind fun t625 => (if bt619.1.toList = t625.toList then (if bt619.2 = 0 then ((schismalaw12_Same.f k bt607.2 bt621.1).bind fun t626 => (if t626 = true then (some (bt621.2 == 0)) else (some false))) else (some false)) else (some false))) else (some false)) else (some false))))))) = some r := by rw [if_pos rfl] at H; exact H
  clear H
  have H := H1
  clear H1
  replace H := Option.bind_eq_some_iff.mp H
  obtain ⟨⟨t607, t610⟩, A40, H⟩ := H
  try dsimp only at H
  have A4 := Aside0.mk A40
  clear A40
  replace H := Option.bind_eq_some_iff.mp H
  obtain ⟨⟨t613, t614⟩, A50, H⟩ := H
  try dsimp only at H
  have A5 := Aside0.mk A50
  clear A50
  replace H := Option.bind_eq_some_iff.mp H
  obtain ⟨⟨t615, t616, t617⟩, A60, H⟩ := H
  try dsimp only at H
  have A6 := Aside0.mk A60
  clear A60
  replace H := Option.bind_eq_some_iff.mp H
  obtain ⟨⟨t619, t620⟩, A70, H⟩ := H
  try dsimp only at H
  have A7 := Aside0.mk A70
  clear A70
  replace H := Option.bind_eq_some_iff.mp H
  obtain ⟨⟨t621, t624⟩, A80, H⟩ := H
  try dsimp only at H
  have A8 := Aside0.mk A80
  clear A80
  by_cases c9 : (t615.toList == t613.toList && (t616.toList == t614.toList)) = true
  ·rw [if_pos c9] at H
   have c9b0 : (t615.toList == t613.toList && (t616.toList == t614.toList)) = true := c9
   (try (have c9b1 : decide (t615.toList = t613.toList && (t616.toList == t614.toList)) = true := by simpa using c9))
   (try (have c9b2 : (t615.toList == t613.toList && (t616.toList == t614.toList)) = true := by simpa using c9))
   clear c9
   by_cases c10 : t617 = 0
   ·rw [if_pos c10] at H
    have c10b0 : (t617 == 0) = true := beq_iff_eq.mpr c10
    have c10b1 : (t617 != 0) = false := bne_eq_false_iff_eq.mpr c10
    clear c10
    replace H := Option.bind_eq_some_iff.mp H
    obtain ⟨t625, A110, H⟩ := H
    try dsimp only at H
    have A11 := Aside0.mk A110
    clear A110
    by_cases c12 : t619.toList = t625.toList
    ·rw [if_pos c12] at H
     have c12b0 : (t619.toList == t625.toList) = true := beq_iff_eq.mpr c12
     have c12b1 : (t619.toList != t625.toList) = false := bne_eq_false_iff_eq.mpr c12
     clear c12
     by_cases c13 : t620 = 0
     ·rw [if_pos c13] at H
      have c13b0 : (t620 == 0) = true := beq_iff_eq.mpr c13
      have c13b1 : (t620 != 0) = false := bne_eq_false_iff_eq.mpr c13
      clear c13
      replace H := Option.bind_eq_some_iff.mp H
      obtain ⟨t626, A140, H⟩ := H
      try dsimp only at H
      have A14 := Aside0.mk A140
      clear A140
      by_cases c15 : t626 = true
      ·subst c15
       have H1 : (some (t624 == 0)) = some r := by rw [if_pos rfl] at H; exact H
       clear H
       have H := H1
       clear H1
       obtain rfl := Option.some.inj H
       go_enter Tryz.func5, Tryz.ntmps5
       go_wp2_with (first | ((with_reducible refine gate_dst (N := 1) rfl ?_); refine box_event ?hg (N := 1) ?hd (cs := #[.int .u8 a0_0, .int .i8 a0_1, .int .i8 a0_2, .int .i8 a0_3, .int .i8 a0_4]) (t := 50) ?hr ?_; (case hd => rfl); (case hg => rfl); (case hr => go_simp; try rfl); intro gb605 hg w16 hbox hb; have n0_ := Aside0.mk (below_step (by apply_rules [HB.out, below_alloc, pw_below_drewN, below_drew1]) hb); have n1_ := Aside0.mk (hbox); have n2_ := Aside0.mk ((by rw [hg]; exact (below_size (by apply_rules [HB.out, below_alloc, pw_below_drewN, below_drew1])) : w.heap.size ≤ gb605)); have n3_ := Aside0.mk ((by rw [hg]; exact (below_size (by apply_rules [HB.out, below_alloc, pw_below_drewN, below_drew1])) : w.heap.size ≤ gb605)); clear HB; have HB := n0_; have BK605 := n1_; have GW605 := n2_; have GE605 := n3_; clear n0_ n1_ n2_ n3_; clear hb hbox hg) | ((with_reducible refine gate_callee (f := 22) rfl ?_); refine goesK (some 13) Tryz.func22 [] rfl rfl ?_; (with_reducible refine (schismalaw12_known.calls k  true _ ?side1 A2.out (by first | rfl | assumption)).mono ?_); (case side1 => refine TabW.below hT ?_; apply_rules [HB.out, below_alloc, pw_below_drewN, below_drew1, below_set, GE605.out]); rintro e w17 ⟨rfl, hb⟩; refine ⟨_, rfl, ?_⟩; replace BK605 := Aside0.mk (blk_below (g := gb605) (o := .cells #[.int .u8 a0_0, .int .i8 a0_1, .int .i8 a0_2, .int .i8 a0_3, .int .i8 a0_4] 50 (0, 0)) (by apply_rules [BK605.out, blk_drewN, blk_drew, blk_alloc]) hb); replace HB := Aside0.mk (below_step (by apply_rules [HB.out, below_alloc, pw_below_drewN, below_drew1, below_set, GE605.out]) hb); (try clear hb); have hcz18_0 : w17.cell? ⟨gb605, 0, none⟩ = some (.int .u8 a0_0) := (blk_cell BK605.out 0).trans rfl; have hcz18_1 : w17.cell? ⟨gb605, 1, none⟩ = some (.int .i8 a0_1) := (blk_cell BK605.out 1).trans rfl; have hcz18_2 : w17.cell? ⟨gb605, 2, none⟩ = some (.int .i8 a0_2) := (blk_cell BK605.out 2).trans rfl; have hcz18_3 : w17.cell? ⟨gb605, 3, none⟩ = some (.int .i8 a0_3) := (blk_cell BK605.out 3).trans rfl; have hcz18_4 : w17.cell? ⟨gb605, 4, none⟩ = some (.int .i8 a0_4) := (blk_cell BK605.out 4).trans rfl; have hfz18_0 := blk_frozen BK605.out 0; have hfz18_1 := blk_frozen BK605.out 1; have hfz18_2 := blk_frozen BK605.out 2; have hfz18_3 := blk_frozen BK605.out 3; have hfz18_4 := blk_frozen BK605.out 4) | ((with_reducible refine gate_callee (f := 35) rfl ?_); refine goesK (some 17) Tryz.func35 [.agg #[.int .u8 a0_0, .int .i8 a0_1, .int .i8 a0_2, .int .i8 a0_3, .int .i8 a0_4]] rfl rfl ?_; (with_reducible refine (schismalaw12_Make.calls k a0_0 a0_1 a0_2 a0_3 a0_4 t607 t610 _ A4.out).mono ?_); rintro e w19 ⟨v608, v611, rfl, ho0, ho1, hb⟩; refine ⟨_, rfl, ?_⟩; have HO609 := Aside0.mk (Kd.V_lower (Kd.V_mono (ok' := fun k_ => some k_ ≠ (v611 : Value).ownBlock ∧ k_ ≠ gb605) ho0 (fun k_ hk_ => ⟨hk_.2, (Kd.freshB (g := gb605) (o := .cells #[.int .u8 a0_0, .int .i8 a0_1, .int .i8 a0_2, .int .i8 a0_3, .int .i8 a0_4] 50 (0, 0)) (by apply_rules [BK605.out, blk_drewN, blk_drew, blk_alloc]) k_ hk_.1)⟩)) (below_size (by apply_rules [HB.out, below_alloc, pw_below_drewN, below_drew1, below_set, GE605.out]))); have HO612 := Aside0.mk (Kd.R_lower (Kd.R_mono (ok' := fun k_ => True) ho1 (fun _ hk_ => trivial)) (below_size (by apply_rules [HB.out, below_alloc, pw_below_drewN, below_drew1, below_set, GE605.out]))); replace BK605 := Aside0.mk (blk_below (g := gb605) (o := .cells #[.int .u8 a0_0, .int .i8 a0_1, .int .i8 a0_2, .int .i8 a0_3, .int .i8 a0_4] 50 (0, 0)) (by apply_rules [BK605.out, blk_drewN, blk_drew, blk_alloc]) hb); replace HB := Aside0.mk (below_step (by apply_rules [HB.out, below_alloc, pw_below_drewN, below_drew1, below_set, GE605.out]) hb); (try clear hb); (try clear ho0); (try clear ho1); obtain ⟨Ao20, co20, eo20⟩ := Kd.V_slice HO609.out; subst eo20; obtain ⟨Ao21, co21, eo21⟩ := Kd.R_slice HO612.out; subst eo21) | ((with_reducible refine gate_callee (f := 36) rfl ?_); refine goesK (some 23) Tryz.func36 [.slice Ao20 t607.length co20, .slice Ao21 t610.length co21] rfl rfl ?_; (with_reducible refine (schismalaw12_Value.calls k _ _ t607 _ _ t610 t613 t614 _ ?side1 ?side2 ?side3 ?side4 ?side5 A5.out).mono ?_); (case side1 => refine TabW.below hT ?_; apply_rules [HB.out, below_alloc, pw_below_drewN, below_drew1, below_set, GE605.out]); (case side2 => apply_rules [(Kd.V_reads' HO609.out).2.2, Kd.C_alloc, Kd.C_drewN, Kd.C_drew]); (case side3 => exact (Kd.V_reads' HO609.out).2.1); (case side4 => apply_rules [(Kd.R_reads' HO612.out).2.2, Kd.C_alloc, Kd.C_drewN, Kd.C_drew]); (case side5 => exact (Kd.R_reads' HO612.out).2.1); rintro e w22 ⟨rfl, hb⟩; refine ⟨_, rfl, ?_⟩; replace HO609 := Aside0.mk (Kd.V_below (by apply_rules [HO609.out, Kd.V_alloc, Kd.V_drewN, Kd.V_drew]) hb); replace HO612 := Aside0.mk (Kd.R_below (by apply_rules [HO612.out, Kd.R_alloc, Kd.R_drewN, Kd.R_drew]) hb); replace BK605 := Aside0.mk (blk_below (g := gb605) (o := .cells #[.int .u8 a0_0, .int .i8 a0_1, .int .i8 a0_2, .int .i8 a0_3, .int .i8 a0_4] 50 (0, 0)) (by apply_rules [BK605.out, blk_drewN, blk_drew, blk_alloc]) hb); replace HB := Aside0.mk (below_step (by apply_rules [HB.out, below_alloc, pw_below_drewN, below_drew1, below_set, GE605.out]) hb); (try clear hb)) | ((with_reducible refine gate_callee (f := 37) rfl ?_); refine goesK (some 29) Tryz.func37 [.slice Ao20 t607.length co20, .slice Ao21 t610.length co21] rfl rfl ?_; (with_reducible refine (monzo_Fraction.calls k _ _ t607 _ _ t610 t615 t616 t617 _ ?side1 ?side2 ?side3 ?side4 ?side5 A6.out).mono ?_); (case side1 => refine TabW.below hT ?_; apply_rules [HB.out, below_alloc, pw_below_drewN, below_drew1, below_set, GE605.out]); (case side2 => apply_rules [(Kd.V_reads' HO609.out).2.2, Kd.C_alloc, Kd.C_drewN, Kd.C_drew]); (case side3 => exact (Kd.V_reads' HO609.out).2.1); (case side4 => apply_rules [(Kd.R_reads' HO612.out).2.2, Kd.C_alloc, Kd.C_drewN, Kd.C_drew]); (case side5 => exact (Kd.R_reads' HO612.out).2.1); rintro e w23 ⟨rfl, hb⟩; refine ⟨_, rfl, ?_⟩; replace HO609 := Aside0.mk (Kd.V_below (by apply_rules [HO609.out, Kd.V_alloc, Kd.V_drewN, Kd.V_drew]) hb); replace HO612 := Aside0.mk (Kd.R_below (by apply_rules [HO612.out, Kd.R_alloc, Kd.R_drewN, Kd.R_drew]) hb); replace BK605 := Aside0.mk (blk_below (g := gb605) (o := .cells #[.int .u8 a0_0, .int .i8 a0_1, .int .i8 a0_2, .int .i8 a0_3, .int .i8 a0_4] 50 (0, 0)) (by apply_rules [BK605.out, blk_drewN, blk_drew, blk_alloc]) hb); replace HB := Aside0.mk (below_step (by apply_rules [HB.out, below_alloc, pw_below_drewN, below_drew1, below_set, GE605.out]) hb); (try clear hb)) | ((with_reducible refine gate_dst (N := 7) rfl ?_); refine box_event ?hg (N := 7) ?hd (cs := #[.string (⟨#[]⟩ : ByteArray), .string (⟨#[]⟩ : ByteArray)]) (t := 38) ?hr ?_; (case hd => rfl); (case hg => rfl); (case hr => go_simp; try rfl); intro gb618 hg w24 hbox hb; have n0_ := Aside0.mk (Kd.V_below (Kd.V_elderB (by apply_rules [HO609.out, Kd.V_alloc, Kd.V_drewN, Kd.V_drew]) gb618 (Nat.le_of_eq hg.symm)) hb); have n1_ := Aside0.mk (Kd.R_below (by apply_rules [HO612.out, Kd.R_alloc, Kd.R_drewN, Kd.R_drew]) hb); have n2_ := Aside0.mk (blk_below (g := gb605) (o := .cells #[.int .u8 a0_0, .int .i8 a0_1, .int .i8 a0_2, .int .i8 a0_3, .int .i8 a0_4] 50 (0, 0)) (by apply_rules [BK605.out, blk_drewN, blk_drew, blk_alloc]) hb); have n3_ := Aside0.mk (below_step (by apply_rules [HB.out, below_alloc, pw_below_drewN, below_drew1, below_set, GE605.out]) hb); have n4_ := Aside0.mk (hbox); have n5_ := Aside0.mk ((by rw [hg]; exact (below_size (by apply_rules [HB.out, below_alloc, pw_below_drewN, below_drew1, below_set, GE605.out])) : w.heap.size ≤ gb618)); have n6_ := Aside0.mk ((by rw [hg]; exact (below_size (by apply_rules [HB.out, below_alloc, pw_below_drewN, below_drew1, below_set, GE605.out])) : w.heap.size ≤ gb618)); have n7_ := Aside0.mk ((by rw [hg]; exact Nat.ne_of_lt (blk_lt (g := gb605) (o := .cells #[.int .u8 a0_0, .int .i8 a0_1, .int .i8 a0_2, .int .i8 a0_3, .int .i8 a0_4] 50 (0, 0)) (by apply_rules [BK605.out, blk_drewN, blk_drew, blk_alloc])) : gb605 ≠ gb618)); have n8_ := Aside0.mk ((by rw [hg]; exact Nat.ne_of_gt (blk_lt (g := gb605) (o := .cells #[.int .u8 a0_0, .int .i8 a0_1, .int .i8 a0_2, .int .i8 a0_3, .int .i8 a0_4] 50 (0, 0)) (by apply_rules [BK605.out, blk_drewN, blk_drew, blk_alloc])) : gb618 ≠ gb605)); clear HO609; clear HO612; clear BK605; clear HB; have HO609 := n0_; have HO612 := n1_; have BK605 := n2_; have HB := n3_; have BK618 := n4_; have GW618 := n5_; have GE618 := n6_; have NB605_618 := n7_; have NB618_605 := n8_; clear n0_ n1_ n2_ n3_ n4_ n5_ n6_ n7_ n8_; clear hb hbox hg; have hnb25 := NB618_605.out; have hnc25 := NB605_618.out; have hcz26_0 : w24.cell? ⟨gb618, 0, none⟩ = some (.string (⟨#[]⟩ : ByteArray)) := (blk_cell BK618.out 0).trans rfl; have hcz26_1 : w24.cell? ⟨gb618, 1, none⟩ = some (.string (⟨#[]⟩ : ByteArray)) := (blk_cell BK618.out 1).trans rfl; have hfz26_0 := blk_frozen BK618.out 0; have hfz26_1 := blk_frozen BK618.out 1) | ((with_reducible refine gate_callee (f := 38) rfl ?_); refine goesK (some 35) Tryz.func38 [.slice Ao20 t607.length co20, .slice Ao21 t610.length co21] rfl rfl ?_; (with_reducible refine (monzo_Text.calls k _ _ t607 _ _ t610 t619 t620 _ ?side1 ?side2 ?side3 ?side4 ?side5 A7.out).mono ?_); (case side1 => refine TabW.below hT ?_; repeat (first | (with_reducible first | exact HB.out | apply below_alloc | apply pw_below_drewN | apply below_drew1 | refine below_set ?_ GE605.out | refine below_set ?_ GE618.out) | exact HB.out)); (case side2 => refine (Kd.V_reads' (e := 3) (base := w.heap.size) (ok := fun k_ => ((some k_ ≠ (.slice Ao21 t610.length co21 : Value).ownBlock ∧ k_ ≠ gb605) ∧ k_ ≠ gb618)) (n := t607.length) (c := co20) ?_).2.2; exact (by (with_reducible repeat (first | apply Kd.V_alloc | apply Kd.V_drewN | apply Kd.V_drew)); exact (Kd.V_mono (Kd.V_far (p := ⟨gb618, 1, none⟩) (Kd.V_far (p := ⟨gb618, 0, none⟩) (Kd.V_mono HO609.out (fun k_ hk => (⟨hk, hk.2⟩ : _ ∧ k_ ≠ gb618))) (fun _ hk => hk.2) (.string t615)) (fun _ hk => hk.2) (.string t616)) (fun _ h_ => h_.1)))); (case side3 => exact (Kd.V_reads' HO609.out).2.1); (case side4 => refine (Kd.R_reads' (e := 3) (base := w.heap.size) (ok := fun k_ => True) (n := t610.length) (c := co21) ?_).2.2; exact (by (with_reducible repeat (first | apply Kd.R_alloc | apply Kd.R_drewN | apply Kd.R_drew)); exact (Kd.R_mono (Kd.R_far (p := ⟨gb618, 1, none⟩) (Kd.R_far (p := ⟨gb618, 0, none⟩) (Kd.R_types HO612.out BK618.out (by decide)) (fun _ hk => hk.2) (.string t615)) (fun _ hk => hk.2) (.string t616)) (fun _ h_ => h_.1)))); (case side5 => exact (Kd.R_reads' HO612.out).2.1); rintro e w27 ⟨rfl, hb⟩; refine ⟨_, rfl, ?_⟩; have n0_ := Aside0.mk (Kd.V_below (by (with_reducible repeat (first | apply Kd.V_alloc | apply Kd.V_drewN | apply Kd.V_drew)); exact (Kd.V_mono (Kd.V_far (p := ⟨gb618, 1, none⟩) (Kd.V_far (p := ⟨gb618, 0, none⟩) (Kd.V_mono HO609.out (fun k_ hk => (⟨hk, hk.2⟩ : _ ∧ k_ ≠ gb618))) (fun _ hk => hk.2) (.string t615)) (fun _ hk => hk.2) (.string t616)) (fun _ h_ => h_.1))) hb); have n1_ := Aside0.mk (Kd.R_below (by (with_reducible repeat (first | apply Kd.R_alloc | apply Kd.R_drewN | apply Kd.R_drew)); exact (Kd.R_mono (Kd.R_far (p := ⟨gb618, 1, none⟩) (Kd.R_far (p := ⟨gb618, 0, none⟩) (Kd.R_types HO612.out BK618.out (by decide)) (fun _ hk => hk.2) (.string t615)) (fun _ hk => hk.2) (.string t616)) (fun _ h_ => h_.1))) hb); have n2_ := Aside0.mk (blk_below (g := gb605) (o := .cells #[.int .u8 a0_0, .int .i8 a0_1, .int .i8 a0_2, .int .i8 a0_3, .int .i8 a0_4] 50 (0, 0)) (by (with_reducible repeat (first | refine blk_drewN ?_ _ | refine blk_drew ?_ | refine blk_alloc ?_ _)); refine blk_far ?_ NB605_618.out _; (with_reducible repeat (first | refine blk_drewN ?_ _ | refine blk_drew ?_ | refine blk_alloc ?_ _)); refine blk_far ?_ NB605_618.out _; apply_rules [BK605.out, blk_drewN, blk_drew, blk_alloc]) hb); have n3_ := Aside0.mk (blk_below (g := gb618) (o := .cells #[.string t615, .string t616] 38 (0, 0)) (by (with_reducible repeat (first | refine blk_drewN ?_ _ | refine blk_drew ?_ | refine blk_alloc ?_ _)); refine blk_put (cs := #[.string t615, .string (⟨#[]⟩ : ByteArray)]) ?_ 1 _ rfl; (with_reducible repeat (first | refine blk_drewN ?_ _ | refine blk_drew ?_ | refine blk_alloc ?_ _)); refine blk_put (cs := #[.string (⟨#[]⟩ : ByteArray), .string (⟨#[]⟩ : ByteArray)]) ?_ 0 _ rfl; apply_rules [BK618.out, blk_drewN, blk_drew, blk_alloc]) hb); have n4_ := Aside0.mk (below_step (by repeat (first | (with_reducible first | exact HB.out | apply below_alloc | apply pw_below_drewN | apply below_drew1 | refine below_set ?_ GE605.out | refine below_set ?_ GE618.out) | exact HB.out)) hb); clear HO609; clear HO612; clear BK605; clear BK618; clear HB; have HO609 := n0_; have HO612 := n1_; have BK605 := n2_; have BK618 := n3_; have HB := n4_; clear n0_ n1_ n2_ n3_ n4_; (try clear hb); have hcz28_0 : w27.cell? ⟨gb618, 0, none⟩ = some (.string t615) := (blk_cell BK618.out 0).trans rfl; have hcz28_1 : w27.cell? ⟨gb618, 1, none⟩ = some (.string t616) := (blk_cell BK618.out 1).trans rfl; have hfz28_0 := blk_frozen BK618.out 0; have hfz28_1 := blk_frozen BK618.out 1) | ((with_reducible refine gate_callee (f := 31) rfl ?_); refine goesK (some 41) Tryz.func31 [.slice Ao20 t607.length co20, .agg #[.string t615, .string t616]] rfl rfl ?_; (with_reducible refine (monzo_Of.calls k _ _ t607 t615 t616 t621 t624 _ ?side1 ?side2 ?side3 A8.out).mono ?_); (case side1 => refine TabW.below hT ?_; repeat (first | (with_reducible first | exact HB.out | apply below_alloc | apply pw_below_drewN | apply below_drew1 | refine below_set ?_ GE605.out | refine below_set ?_ GE618.out) | exact HB.out)); (case side2 => apply_rules [(Kd.V_reads' HO609.out).2.2, Kd.C_alloc, Kd.C_drewN, Kd.C_drew]); (case side3 => exact (Kd.V_reads' HO609.out).2.1); rintro e w29 ⟨v622, rfl, ho0, hb⟩; refine ⟨_, rfl, ?_⟩; have n0_ := Aside0.mk (Kd.V_below (by apply_rules [HO609.out, Kd.V_alloc, Kd.V_drewN, Kd.V_drew]) hb); have n1_ := Aside0.mk (Kd.R_below (by apply_rules [HO612.out, Kd.R_alloc, Kd.R_drewN, Kd.R_drew]) hb); have n2_ := Aside0.mk (Kd.V_lower (Kd.V_mono (ok' := fun k_ => some k_ ≠ (.slice Ao21 t610.length co21 : Value).ownBlock ∧ k_ ≠ gb605 ∧ k_ ≠ gb618) ho0 (fun k_ hk_ => ⟨(Kd.fresh' (Kd.R_lt (by apply_rules [HO612.out, Kd.R_alloc, Kd.R_drewN, Kd.R_drew])) k_ hk_), (Kd.freshB (g := gb605) (o := .cells #[.int .u8 a0_0, .int .i8 a0_1, .int .i8 a0_2, .int .i8 a0_3, .int .i8 a0_4] 50 (0, 0)) (by apply_rules [BK605.out, blk_drewN, blk_drew, blk_alloc]) k_ hk_), (Kd.freshB (g := gb618) (o := .cells #[.string t615, .string t616] 38 (0, 0)) (by apply_rules [BK618.out, blk_drewN, blk_drew, blk_alloc]) k_ hk_)⟩)) (below_size (by repeat (first | (with_reducible first | exact HB.out | apply below_alloc | apply pw_below_drewN | apply below_drew1 | refine below_set ?_ GE605.out | refine below_set ?_ GE618.out) | exact HB.out)))); have n3_ := Aside0.mk (blk_below (g := gb605) (o := .cells #[.int .u8 a0_0, .int .i8 a0_1, .int .i8 a0_2, .int .i8 a0_3, .int .i8 a0_4] 50 (0, 0)) (by apply_rules [BK605.out, blk_drewN, blk_drew, blk_alloc]) hb); have n4_ := Aside0.mk (blk_below (g := gb618) (o := .cells #[.string t615, .string t616] 38 (0, 0)) (by apply_rules [BK618.out, blk_drewN, blk_drew, blk_alloc]) hb); have n5_ := Aside0.mk (below_step (by repeat (first | (with_reducible first | exact HB.out | apply below_alloc | apply pw_below_drewN | apply below_drew1 | refine below_set ?_ GE605.out | refine below_set ?_ GE618.out) | exact HB.out)) hb); clear HO609; clear HO612; clear BK605; clear BK618; clear HB; have HO609 := n0_; have HO612 := n1_; have HO623 := n2_; have BK605 := n3_; have BK618 := n4_; have HB := n5_; clear n0_ n1_ n2_ n3_ n4_ n5_; (try clear hb); (try clear ho0); have hcz30_0 : w29.cell? ⟨gb618, 0, none⟩ = some (.string t615) := (blk_cell BK618.out 0).trans rfl; have hcz30_1 : w29.cell? ⟨gb618, 1, none⟩ = some (.string t616) := (blk_cell BK618.out 1).trans rfl; have hfz30_0 := blk_frozen BK618.out 0; have hfz30_1 := blk_frozen BK618.out 1) | (go_at_call 39; (with_reducible refine (fraction_Text.calls t615 t616 t625 _ A11.out).mono ?_); rintro e w31 ⟨rfl, hb⟩; have n0_ := Aside0.mk (Kd.V_below (by apply_rules [HO609.out, Kd.V_alloc, Kd.V_drewN, Kd.V_drew]) hb); have n1_ := Aside0.mk (Kd.R_below (by apply_rules [HO612.out, Kd.R_alloc, Kd.R_drewN, Kd.R_drew]) hb); have n2_ := Aside0.mk (Kd.V_below (by apply_rules [HO623.out, Kd.V_alloc, Kd.V_drewN, Kd.V_drew]) hb); have n3_ := Aside0.mk (blk_below (g := gb605) (o := .cells #[.int .u8 a0_0, .int .i8 a0_1, .int .i8 a0_2, .int .i8 a0_3, .int .i8 a0_4] 50 (0, 0)) (by apply_rules [BK605.out, blk_drewN, blk_drew, blk_alloc]) hb); have n4_ := Aside0.mk (blk_below (g := gb618) (o := .cells #[.string t615, .string t616] 38 (0, 0)) (by apply_rules [BK618.out, blk_drewN, blk_drew, blk_alloc]) hb); have n5_ := Aside0.mk (below_step (by repeat (first | (with_reducible first | exact HB.out | apply below_alloc | apply pw_below_drewN | apply below_drew1 | refine below_set ?_ GE605.out | refine below_set ?_ GE618.out) | exact HB.out)) hb); clear HO609; clear HO612; clear HO623; clear BK605; clear BK618; clear HB; have HO609 := n0_; have HO612 := n1_; have HO623 := n2_; have BK605 := n3_; have BK618 := n4_; have HB := n5_; clear n0_ n1_ n2_ n3_ n4_ n5_; (try clear hb); obtain ⟨Ao32, co32, eo32⟩ := Kd.V_slice HO623.out; subst eo32) | (go_at_call 34; (with_reducible refine (schismalaw12_Same.calls k _ _ t610 _ _ t621 true _ ?side1 ?side2 ?side3 ?side4 A14.out).mono ?_); (case side1 => apply_rules [(Kd.R_reads' HO612.out).2.2, Kd.C_alloc, Kd.C_drewN, Kd.C_drew]); (case side2 => exact (Kd.R_reads' HO612.out).2.1); (case side3 => apply_rules [(Kd.V_reads' HO623.out).2.2, Kd.C_alloc, Kd.C_drewN, Kd.C_drew]); (case side4 => exact (Kd.V_reads' HO623.out).2.1); rintro e w' ⟨rfl, ⟨nd, rfl⟩⟩))
       go_ret
       exact ⟨by first | rfl | simp [*], by repeat (first | (with_reducible first | exact HB.out | apply below_alloc | apply pw_below_drewN | apply below_drew1 | refine below_set ?_ GE605.out | refine below_set ?_ GE618.out) | exact HB.out)⟩
      ·replace c15 := Bool.eq_false_iff.mpr c15
       subst c15
       have H1 : (some false) = some r := by rw [if_neg (show ¬ (false = true) by decide)] at H; exact H
       clear H
       have H := H1
       clear H1
       exact absurd ((Option.some.inj H).trans hr) Bool.false_ne_true
     ·rw [if_neg c13] at H
      have c13b0 : (t620 == 0) = false := beq_eq_false_iff_ne.mpr c13
      have c13b1 : (t620 != 0) = true := bne_iff_ne.mpr c13
      exact absurd ((Option.some.inj H).trans hr) Bool.false_ne_true
    ·rw [if_neg c12] at H
     have c12b0 : (t619.toList == t625.toList) = false := beq_eq_false_iff_ne.mpr c12
     have c12b1 : (t619.toList != t625.toList) = true := bne_iff_ne.mpr c12
     exact absurd ((Option.some.inj H).trans hr) Bool.false_ne_true
   ·rw [if_neg c10] at H
    have c10b0 : (t617 == 0) = false := beq_eq_false_iff_ne.mpr c10
    have c10b1 : (t617 != 0) = true := bne_iff_ne.mpr c10
    exact absurd ((Option.some.inj H).trans hr) Bool.false_ne_true
  ·rw [if_neg c9] at H
   have c9b0 : (t615.toList == t613.toList && (t616.toList == t614.toList)) = false := by simpa using c9
   (try (have c9b1 : decide (t615.toList = t613.toList && (t616.toList == t614.toList)) = false := by simpa using c9))
   (try (have c9b2 : (t615.toList == t613.toList && (t616.toList == t614.toList)) = false := by simpa using c9))
   (try (have c9b3 : ¬ (t615.toList = t613.toList && (t616.toList == t614.toList)) := by simpa using c9))
   clear c9
   exact absurd ((Option.some.inj H).trans hr) Bool.false_ne_true
 ·replace c3 := Bool.eq_false_iff.mpr c3
  subst c3
  have H1 : (some false) = some r := by rw [if_neg (show ¬ (false = true) by decide)] at H; exact H
  clear H
  have H := H1
  clear H1
  exact absurd ((Option.some.inj H).trans hr) Bool.false_ne_true
end Go.Proofs.YtccebdpjdpjgnaaGreatDoor.P
