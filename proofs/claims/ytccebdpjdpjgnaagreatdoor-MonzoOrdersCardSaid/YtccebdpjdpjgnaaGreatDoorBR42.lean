/-
words of the walks
-/
import Derived.Test.YtccebdpjdpjgnaaGreatDoorBR36
import Derived.Test.YtccebdpjdpjgnaaGreatDoorBR38
set_option linter.unusedVariables false
set_option linter.unusedSimpArgs false
namespace Go.Proofs.YtccebdpjdpjgnaaGreatDoor.P
open Go.RowKit Go.Proofs.YtccebdpjdpjgnaaGreatDoorW.PrintWords Go.Proofs.YtccebdpjdpjgnaaGreatDoorW.PrintLast Go.Proofs.YtccebdpjdpjgnaaGreatDoorW.PrintMore
attribute [local go_sem] max2_int min2_int max_two min_two max_three min_three max_four min_four
set_option linter.unusedVariables false
set_option linter.unusedSimpArgs false
def schismalaw12_MonzoOrders.f (k : Nat) (a0_0 : Int) (a0_1 : Int) (a0_2 : Int) (a0_3 : Int) (a0_4 : Int) (a1_0 : Int) (a1_1 : Int) (a1_2 : Int) (a1_3 : Int) (a2_0 : Int) (a2_1 : Int) (a2_2 : Int) (a2_3 : Int) : Option (Bool) := (schismalaw12_known.f k).bind fun t809 => (if t809 = true then ((schismalaw12_Make.f k a0_0 a0_1 a0_2 a0_3 a0_4).bind fun bt810 => ((schismalaw12_Interval.f k bt810.1 a1_0 a1_1 a1_2 a1_3).bind fun t816 => ((schismalaw12_Interval.f k bt810.1 a2_0 a2_1 a2_2 a2_3).bind fun t819 => ((schismalaw12_Value.f k bt810.1 bt810.2).bind fun bt822 => ((monzo_Sign.f k bt810.1 bt810.2).bind fun bt824 => ((monzo_Compare.f k bt810.1 bt810.2 t816).bind fun bt826 => ((monzo_Compare.f k bt810.1 t816 bt810.2).bind fun bt828 => ((monzo_Add.f k bt810.1 bt810.2 t819).bind fun bt830 => ((monzo_Add.f k bt810.1 t816 t819).bind fun bt834 => ((monzo_Compare.f k bt810.1 bt830.1 bt834.1).bind fun bt838 => ((schismalaw12_Value.f k bt810.1 t816).bind fun bt840 => ((whole_Compare.f bt822.1 bt822.2).bind fun t842 => (if bt824.1 = t842 then (if bt824.2 = 0 then ((whole_Mul.f k bt822.1 bt840.2).bind fun t843 => ((whole_Mul.f k bt840.1 bt822.2).bind fun t844 => ((whole_Compare.f t843 t844).bind fun t845 => (if bt826.1 = t845 then (if bt826.2 = 0 then (if bt828.1 = (wrap64 (-bt826.1)) then (if bt828.2 = 0 then (if bt830.2 = 0 then (if bt834.2 = 0 then (if bt838.1 = bt826.1 then (if bt838.2 = 0 then ((schismalaw12_Same.f k bt810.2 t816).bind fun t846 => (some ((bt826.1 == 0) == t846))) else (some false)) else (some false)) else (some false)) else (some false)) else (some false)) else (some false)) else (some false)) else (some false))))) else (some false)) else (some false)))))))))))))) else (some false))
def schismalaw12_MonzoOrders.T4 : Bool × List (List Nat × List Nat) := (true, [([], []), ([], []), ([0, 1], [0, 1]), ([], []), ([], []), ([3, 4, 2], [3, 4]), ([2, 5, 0, 1, 2], [2]), ([5, 6, 0, 1, 2, 3, 4, 5, 6], [5])])
def schismalaw12_MonzoOrders.B4 : List Nat := [0, 0, 3, 0, 0, 31, 63, 127]
theorem schismalaw12_MonzoOrders.tab4 : rtab .any (opsOf Tryz.f9 4) = schismalaw12_MonzoOrders.T4 := by kernel_rfl
theorem schismalaw12_MonzoOrders.bits4 : waitsOk schismalaw12_MonzoOrders.T4.2 schismalaw12_MonzoOrders.B4 = true := by kernel_rfl
set_option maxHeartbeats 8000000 in
set_option maxRecDepth 100000 in
theorem schismalaw12_MonzoOrders.calls (k : Nat) (a0_0 : Int) (a0_1 : Int) (a0_2 : Int) (a0_3 : Int) (a0_4 : Int) (a1_0 : Int) (a1_1 : Int) (a1_2 : Int) (a1_3 : Int) (a2_0 : Int) (a2_1 : Int) (a2_2 : Int) (a2_3 : Int) (r : Bool) (w : World) (hT : TabW w) (h : schismalaw12_MonzoOrders.f k a0_0 a0_1 a0_2 a0_3 a0_4 a1_0 a1_1 a1_2 a1_3 a2_0 a2_1 a2_2 a2_3 = some r) (hr : r = true) :
  Calls Tryz.prog 9 #[.agg #[.int .u8 a0_0, .int .i8 a0_1, .int .i8 a0_2, .int .i8 a0_3, .int .i8 a0_4], .agg #[.int .i8 a1_0, .int .i8 a1_1, .int .i8 a1_2, .int .i8 a1_3], .agg #[.int .i8 a2_0, .int .i8 a2_1, .int .i8 a2_2, .int .i8 a2_3]] w fun e w' => e = .returned (.bool r) ∧ Below w.heap.size w w' := by
 have hu50 := Tryz.underlying50
 have hu48 := Tryz.underlying48
 have HB := Aside0.mk (Below.refl w.heap.size w)
 have H : ((schismalaw12_known.f k).bind fun t809 => (if t809 = true then ((schismalaw12_Make.f k a0_0 a0_1 a0_2 a0_3 a0_4).bind fun bt810 => ((schismalaw12_Interval.f k bt810.1 a1_0 a1_1 a1_2 a1_3).bind fun t816 => ((schismalaw12_Interval.f k bt810.1 a2_0 a2_1 a2_2 a2_3).bind fun t819 => ((schismalaw12_Value.f k bt810.1 bt810.2).bind fun bt822 => ((monzo_Sign.f k bt810.1 bt810.2).bind fun bt824 => ((monzo_Compare.f k bt810.1 bt810.2 t816).bind fun bt826 => ((monzo_Compare.f k bt810.1 t816 bt810.2).bind fun bt828 => ((monzo_Add.f k bt810.1 bt810.2 t819).bind fun bt830 => ((monzo_Add.f k bt810.1 t816 t819).bind fun bt834 => ((monzo_Compare.f k bt810.1 bt830.1 bt834.1).bind fun bt838 => ((schismalaw12_Value.f k bt810.1 t816).bind fun bt840 => ((whole_Compare.f bt822.1 bt822.2).bind fun t842 => (if bt824.1 = t842 then (if bt824.2 = 0 then ((whole_Mul.f k bt822.1 bt840.2).bind fun t843 => ((whole_Mul.f k bt840.1 bt822.2).bind fun t844 => ((whole_Compare.f t843 t844).bind fun t845 => (if bt826.1 = t845 then (if bt826.2 = 0 then (if bt828.1 = (wrap64 (-bt826.1)) then (if bt828.2 = 0 then (if bt830.2 = 0 then (if bt834.2 = 0 then (if bt838.1 = bt826.1 then (if bt838.2 = 0 then ((schismalaw12_Same.f k bt810.2 t816).bind fun t846 => (some ((bt826.1 == 0) == t846))) else (some false)) else (some false)) else (some false)) else (some false)) else (some false)) else (some false)) else (some false)) else (some false))))) else (some false)) else (some false)))))))))))))) else (some false))) = some r := h
 clear h
 replace H := Option.bind_eq_some_iff.mp H
 obtain ⟨t809, A40, H⟩ := H
 try dsimp only at H
 have A4 := Aside0.mk A40
 clear A40
 by_cases c5 : t809 = true
 ·subst c5
  have H1 : ((schismalaw12_Make.f k a0_0 a0_1 a0_2 a0_3 a0_4).bind fun bt810 => ((schismalaw12_Interval.f k bt810.1 a1_0 a1_1 a1_2 a1_3).bind fun t816 => ((schismalaw12_Interval.f k bt810.1 a2_0 a2_1 a2_2 a2_3).bind fun t819 => ((schismalaw12_Value.f k bt810.1 bt810.2).bind fun bt822 => ((monzo_Sign.f k bt810.1 bt810.2).bind fun bt824 => ((monzo_Compare.f k bt810.1 bt810.2 t816).bind fun bt826 => ((monzo_Compare.f k bt810.1 t816 bt810.2).bind fun bt828 => ((monzo_Add.f k bt810.1 bt810.2 t819).bind fun bt830 => ((monzo_Add.f k bt810.1 t816 t819).bind fun bt834 => ((monzo_Compare.f k bt810.1 bt830.1 bt834.1).bind fun bt838 => ((schismalaw12_Value.f k bt810.1 t816).bind fun bt840 => ((whole_Compare.f bt822.1 bt822.2).bind fun t842 => (if bt824.1 = t842 then (if bt824.2 = 0 then ((whole_Mul.f k bt822.1 bt840.2).bind fun t843 => ((whole_Mul.f k bt840.1 bt822.2).bind fun t844 => ((whole_Compare.f t843 t844).bind fun t845 => (if bt826.1 = t845 then (if bt826.2 = 0 then (if bt828.1 = (wrap64 (-bt826.1)) then (if bt828.2 = 0 then (if bt830.2 = 0 then (if bt834.2 = 0 then (if bt838.1 = bt826.1 then (if bt838.2 = 0 then ((schismalaw12_Same.f k bt810.2 t816).bind fun t846 => (some ((bt826.1 == 0) == t846))) else (some false)) else (some false)) else (some false)) else (some false)) else (some false)) else (some false)) else (some false)) else (some false))))) else (some false)) else (some false)))))))))))))) = some r := by rw [if_pos rfl] at H; exact H
  clear H
  have H := H1
  clear H1
  replace H := Option.bind_eq_some_iff.mp H
  obtain ⟨⟨t810, t813⟩, A60, H⟩ := H
  try dsimp only at H
  have A6 := Aside0.mk A60
  clear A60
  replace H := Option.bind_eq_some_iff.mp H
  obtain ⟨t816, A70, H⟩ := H
  try dsimp only at H
  have A7 := Aside0.mk A70
  clear A70
  replace H := Option.bind_eq_some_iff.mp H
  obtain ⟨t819, A80, H⟩ := H
  try dsimp only at H
  have A8 := Aside0.mk A80
  clear A80
  replace H := Option.bind_eq_some_iff.mp H
  obtain ⟨⟨t822, t823⟩, A90, H⟩ := H
  try dsimp only at H
  have A9 := Aside0.mk A90
  clear A90
  replace H := Option.bind_eq_some_iff.mp H
  obtain ⟨⟨t824, t825⟩, A100, H⟩ := H
  try dsimp only at H
  have A10 := Aside0.mk A100
  clear A100
  replace H := Option.bind_eq_some_iff.mp H
  obtain ⟨⟨t826, t827⟩, A110, H⟩ := H
  try dsimp only at H
  have A11 := Aside0.mk A110
  clear A110
  replace H := Option.bind_eq_some_iff.mp H
  obtain ⟨⟨t828, t829⟩, A120, H⟩ := H
  try dsimp only at H
  have A12 := Aside0.mk A120
  clear A120
  replace H := Option.bind_eq_some_iff.mp H
  obtain ⟨⟨t830, t833⟩, A130, H⟩ := H
  try dsimp only at H
  have A13 := Aside0.mk A130
  clear A130
  replace H := Option.bind_eq_some_iff.mp H
  obtain ⟨⟨t834, t837⟩, A140, H⟩ := H
  try dsimp only at H
  have A14 := Aside0.mk A140
  clear A140
  replace H := Option.bind_eq_some_iff.mp H
  obtain ⟨⟨t838, t839⟩, A150, H⟩ := H
  try dsimp only at H
  have A15 := Aside0.mk A150
  clear A150
  replace H := Option.bind_eq_some_iff.mp H
  obtain ⟨⟨t840, t841⟩, A160, H⟩ := H
  try dsimp only at H
  have A16 := Aside0.mk A160
  clear A160
  replace H := Option.bind_eq_some_iff.mp H
  obtain ⟨t842, A170, H⟩ := H
  try dsimp only at H
  have A17 := Aside0.mk A170
  clear A170
  by_cases c18 : t824 = t842
  case neg => rw [if_neg c18] at H; have c18b0 : (t824 == t842) = false := beq_eq_false_iff_ne.mpr c18; have c18b1 : (t824 != t842) = true := bne_iff_ne.mpr c18; exact absurd ((Option.some.inj H).trans hr) Bool.false_ne_true
  rw [if_pos c18] at H
  have c18b0 : (t824 == t842) = true := beq_iff_eq.mpr c18
  have c18b1 : (t824 != t842) = false := bne_eq_false_iff_eq.mpr c18
  clear c18
  by_cases c19 : t825 = 0
  case neg => rw [if_neg c19] at H; have c19b0 : (t825 == 0) = false := beq_eq_false_iff_ne.mpr c19; have c19b1 : (t825 != 0) = true := bne_iff_ne.mpr c19; exact absurd ((Option.some.inj H).trans hr) Bool.false_ne_true
  rw [if_pos c19] at H
  have c19b0 : (t825 == 0) = true := beq_iff_eq.mpr c19
  have c19b1 : (t825 != 0) = false := bne_eq_false_iff_eq.mpr c19
  clear c19
  replace H := Option.bind_eq_some_iff.mp H
  obtain ⟨t843, A200, H⟩ := H
  try dsimp only at H
  have A20 := Aside0.mk A200
  clear A200
  replace H := Option.bind_eq_some_iff.mp H
  obtain ⟨t844, A210, H⟩ := H
  try dsimp only at H
  have A21 := Aside0.mk A210
  clear A210
  replace H := Option.bind_eq_some_iff.mp H
  obtain ⟨t845, A220, H⟩ := H
  try dsimp only at H
  have A22 := Aside0.mk A220
  clear A220
  by_cases c23 : t826 = t845
  case neg => rw [if_neg c23] at H; have c23b0 : (t826 == t845) = false := beq_eq_false_iff_ne.mpr c23; have c23b1 : (t826 != t845) = true := bne_iff_ne.mpr c23; exact absurd ((Option.some.inj H).trans hr) Bool.false_ne_true
  rw [if_pos c23] at H
  have c23b0 : (t826 == t845) = true := beq_iff_eq.mpr c23
  have c23b1 : (t826 != t845) = false := bne_eq_false_iff_eq.mpr c23
  clear c23
  by_cases c24 : t827 = 0
  case neg => rw [if_neg c24] at H; have c24b0 : (t827 == 0) = false := beq_eq_false_iff_ne.mpr c24; have c24b1 : (t827 != 0) = true := bne_iff_ne.mpr c24; exact absurd ((Option.some.inj H).trans hr) Bool.false_ne_true
  rw [if_pos c24] at H
  have c24b0 : (t827 == 0) = true := beq_iff_eq.mpr c24
  have c24b1 : (t827 != 0) = false := bne_eq_false_iff_eq.mpr c24
  clear c24
  by_cases c25 : t828 = (wrap64 (-t826))
  case neg => rw [if_neg c25] at H; have c25b0 : (t828 == (wrap64 (-t826))) = false := beq_eq_false_iff_ne.mpr c25; have c25b1 : (t828 != (wrap64 (-t826))) = true := bne_iff_ne.mpr c25; exact absurd ((Option.some.inj H).trans hr) Bool.false_ne_true
  rw [if_pos c25] at H
  have c25b0 : (t828 == (wrap64 (-t826))) = true := beq_iff_eq.mpr c25
  have c25b1 : (t828 != (wrap64 (-t826))) = false := bne_eq_false_iff_eq.mpr c25
  clear c25
  by_cases c26 : t829 = 0
  case neg => rw [if_neg c26] at H; have c26b0 : (t829 == 0) = false := beq_eq_false_iff_ne.mpr c26; have c26b1 : (t829 != 0) = true := bne_iff_ne.mpr c26; exact absurd ((Option.some.inj H).trans hr) Bool.false_ne_true
  rw [if_pos c26] at H
  have c26b0 : (t829 == 0) = true := beq_iff_eq.mpr c26
  have c26b1 : (t829 != 0) = false := bne_eq_false_iff_eq.mpr c26
  clear c26
  by_cases c27 : t833 = 0
  case neg => rw [if_neg c27] at H; have c27b0 : (t833 == 0) = false := beq_eq_false_iff_ne.mpr c27; have c27b1 : (t833 != 0) = true := bne_iff_ne.mpr c27; exact absurd ((Option.some.inj H).trans hr) Bool.false_ne_true
  rw [if_pos c27] at H
  have c27b0 : (t833 == 0) = true := beq_iff_eq.mpr c27
  have c27b1 : (t833 != 0) = false := bne_eq_false_iff_eq.mpr c27
  clear c27
  by_cases c28 : t837 = 0
  case neg => rw [if_neg c28] at H; have c28b0 : (t837 == 0) = false := beq_eq_false_iff_ne.mpr c28; have c28b1 : (t837 != 0) = true := bne_iff_ne.mpr c28; exact absurd ((Option.some.inj H).trans hr) Bool.false_ne_true
  rw [if_pos c28] at H
  have c28b0 : (t837 == 0) = true := beq_iff_eq.mpr c28
  have c28b1 : (t837 != 0) = false := bne_eq_false_iff_eq.mpr c28
  clear c28
  by_cases c29 : t838 = t826
  case neg => rw [if_neg c29] at H; have c29b0 : (t838 == t826) = false := beq_eq_false_iff_ne.mpr c29; have c29b1 : (t838 != t826) = true := bne_iff_ne.mpr c29; exact absurd ((Option.some.inj H).trans hr) Bool.false_ne_true
  rw [if_pos c29] at H
  have c29b0 : (t838 == t826) = true := beq_iff_eq.mpr c29
  have c29b1 : (t838 != t826) = false := bne_eq_false_iff_eq.mpr c29
  clear c29
  by_cases c30 : t839 = 0
  case neg => rw [if_neg c30] at H; have c30b0 : (t839 == 0) = false := beq_eq_false_iff_ne.mpr c30; have c30b1 : (t839 != 0) = true := bne_iff_ne.mpr c30; exact absurd ((Option.some.inj H).trans hr) Bool.false_ne_true
  rw [if_pos c30] at H
  have c30b0 : (t839 == 0) = true := beq_iff_eq.mpr c30
  have c30b1 : (t839 != 0) = false := bne_eq_false_iff_eq.mpr c30
  clear c30
  replace H := Option.bind_eq_some_iff.mp H
  obtain ⟨t846, A310, H⟩ := H
  try dsimp only at H
  have A31 := Aside0.mk A310
  clear A310
  obtain rfl := Option.some.inj H
  go_enter Tryz.func9, Tryz.ntmps9
  try go_wp2_with (first | ((with_reducible refine gate_dst (N := 3) rfl ?_); refine box_event ?hg (N := 3) ?hd (cs := #[.int .u8 a0_0, .int .i8 a0_1, .int .i8 a0_2, .int .i8 a0_3, .int .i8 a0_4]) (t := 50) ?hr ?_; (case hd => rfl); (case hg => rfl); (case hr => go_simp; try rfl); intro gb806 hg w32 hbox hb; have n0_ := Aside0.mk (below_step (by apply_rules [HB.out, below_alloc, pw_below_drewN, below_drew1]) hb); have n1_ := Aside0.mk (hbox); have n2_ := Aside0.mk ((by rw [hg]; exact (below_size (by apply_rules [HB.out, below_alloc, pw_below_drewN, below_drew1])) : w.heap.size ≤ gb806)); have n3_ := Aside0.mk ((by rw [hg]; exact (below_size (by apply_rules [HB.out, below_alloc, pw_below_drewN, below_drew1])) : w.heap.size ≤ gb806)); clear HB; have HB := n0_; have BK806 := n1_; have GW806 := n2_; have GE806 := n3_; clear n0_ n1_ n2_ n3_; clear hb hbox hg) | ((with_reducible refine gate_dst (N := 4) rfl ?_); refine box_event ?hg (N := 4) ?hd (cs := #[.int .i8 a1_0, .int .i8 a1_1, .int .i8 a1_2, .int .i8 a1_3]) (t := 48) ?hr ?_; (case hd => rfl); (case hg => rfl); (case hr => go_simp; try rfl); intro gb807 hg w33 hbox hb; have n0_ := Aside0.mk (blk_below (g := gb806) (o := .cells #[.int .u8 a0_0, .int .i8 a0_1, .int .i8 a0_2, .int .i8 a0_3, .int .i8 a0_4] 50 (0, 0)) (by apply_rules [BK806.out, blk_drewN, blk_drew, blk_alloc]) hb); have n1_ := Aside0.mk (below_step (by apply_rules [HB.out, below_alloc, pw_below_drewN, below_drew1, below_set, GE806.out]) hb); have n2_ := Aside0.mk (hbox); have n3_ := Aside0.mk ((by rw [hg]; exact (below_size (by apply_rules [HB.out, below_alloc, pw_below_drewN, below_drew1, below_set, GE806.out])) : w.heap.size ≤ gb807)); have n4_ := Aside0.mk ((by rw [hg]; exact (below_size (by apply_rules [HB.out, below_alloc, pw_below_drewN, below_drew1, below_set, GE806.out])) : w.heap.size ≤ gb807)); have n5_ := Aside0.mk ((by rw [hg]; exact Nat.ne_of_lt (blk_lt (g := gb806) (o := .cells #[.int .u8 a0_0, .int .i8 a0_1, .int .i8 a0_2, .int .i8 a0_3, .int .i8 a0_4] 50 (0, 0)) (by apply_rules [BK806.out, blk_drewN, blk_drew, blk_alloc])) : gb806 ≠ gb807)); have n6_ := Aside0.mk ((by rw [hg]; exact Nat.ne_of_gt (blk_lt (g := gb806) (o := .cells #[.int .u8 a0_0, .int .i8 a0_1, .int .i8 a0_2, .int .i8 a0_3, .int .i8 a0_4] 50 (0, 0)) (by apply_rules [BK806.out, blk_drewN, blk_drew, blk_alloc])) : gb807 ≠ gb806)); clear BK806; clear HB; have BK806 := n0_; have HB := n1_; have BK807 := n2_; have GW807 := n3_; have GE807 := n4_; have NB806_807 := n5_; have NB807_806 := n6_; clear n0_ n1_ n2_ n3_ n4_ n5_ n6_; clear hb hbox hg) | ((with_reducible refine gate_dst (N := 5) rfl ?_); refine box_event ?hg (N := 5) ?hd (cs := #[.int .i8 a2_0, .int .i8 a2_1, .int .i8 a2_2, .int .i8 a2_3]) (t := 48) ?hr ?_; (case hd => rfl); (case hg => rfl); (case hr => go_simp; try rfl); intro gb808 hg w34 hbox hb; have n0_ := Aside0.mk (blk_below (g := gb806) (o := .cells #[.int .u8 a0_0, .int .i8 a0_1, .int .i8 a0_2, .int .i8 a0_3, .int .i8 a0_4] 50 (0, 0)) (by apply_rules [BK806.out, blk_drewN, blk_drew, blk_alloc]) hb); have n1_ := Aside0.mk (blk_below (g := gb807) (o := .cells #[.int .i8 a1_0, .int .i8 a1_1, .int .i8 a1_2, .int .i8 a1_3] 48 (0, 0)) (by apply_rules [BK807.out, blk_drewN, blk_drew, blk_alloc]) hb); have n2_ := Aside0.mk (below_step (by apply_rules [HB.out, below_alloc, pw_below_drewN, below_drew1, below_set, GE806.out, GE807.out]) hb); have n3_ := Aside0.mk (hbox); have n4_ := Aside0.mk ((by rw [hg]; exact (below_size (by apply_rules [HB.out, below_alloc, pw_below_drewN, below_drew1, below_set, GE806.out, GE807.out])) : w.heap.size ≤ gb808)); have n5_ := Aside0.mk ((by rw [hg]; exact (below_size (by apply_rules [HB.out, below_alloc, pw_below_drewN, below_drew1, below_set, GE806.out, GE807.out])) : w.heap.size ≤ gb808)); have n6_ := Aside0.mk ((by rw [hg]; exact Nat.ne_of_lt (blk_lt (g := gb806) (o := .cells #[.int .u8 a0_0, .int .i8 a0_1, .int .i8 a0_2, .int .i8 a0_3, .int .i8 a0_4] 50 (0, 0)) (by apply_rules [BK806.out, blk_drewN, blk_drew, blk_alloc])) : gb806 ≠ gb808)); have n7_ := Aside0.mk ((by rw [hg]; exact Nat.ne_of_gt (blk_lt (g := gb806) (o := .cells #[.int .u8 a0_0, .int .i8 a0_1, .int .i8 a0_2, .int .i8 a0_3, .int .i8 a0_4] 50 (0, 0)) (by apply_rules [BK806.out, blk_drewN, blk_drew, blk_alloc])) : gb808 ≠ gb806)); have n8_ := Aside0.mk ((by rw [hg]; exact Nat.ne_of_lt (blk_lt (g := gb807) (o := .cells #[.int .i8 a1_0, .int .i8 a1_1, .int .i8 a1_2, .int .i8 a1_3] 48 (0, 0)) (by apply_rules [BK807.out, blk_drewN, blk_drew, blk_alloc])) : gb807 ≠ gb808)); have n9_ := Aside0.mk ((by rw [hg]; exact Nat.ne_of_gt (blk_lt (g := gb807) (o := .cells #[.int .i8 a1_0, .int .i8 a1_1, .int .i8 a1_2, .int .i8 a1_3] 48 (0, 0)) (by apply_rules [BK807.out, blk_drewN, blk_drew, blk_alloc])) : gb808 ≠ gb807)); clear BK806; clear BK807; clear HB; have BK806 := n0_; have BK807 := n1_; have HB := n2_; have BK808 := n3_; have GW808 := n4_; have GE808 := n5_; have NB806_808 := n6_; have NB808_806 := n7_; have NB807_808 := n8_; have NB808_807 := n9_; clear n0_ n1_ n2_ n3_ n4_ n5_ n6_ n7_ n8_ n9_; clear hb hbox hg) | ((with_reducible refine gate_callee (f := 22) rfl ?_); refine goesK (some 27) Tryz.func22 [] rfl rfl ?_; (with_reducible refine (schismalaw12_known.calls k  true _ ?side1 A4.out (by first | rfl | assumption)).mono ?_); (case side1 => refine TabW.below hT ?_; apply_rules [HB.out, below_alloc, pw_below_drewN, below_drew1, below_set, GE806.out, GE807.out, GE808.out]); rintro e w35 ⟨rfl, hb⟩; refine ⟨_, rfl, ?_⟩; replace BK806 := Aside0.mk (blk_below (g := gb806) (o := .cells #[.int .u8 a0_0, .int .i8 a0_1, .int .i8 a0_2, .int .i8 a0_3, .int .i8 a0_4] 50 (0, 0)) (by apply_rules [BK806.out, blk_drewN, blk_drew, blk_alloc]) hb); replace BK807 := Aside0.mk (blk_below (g := gb807) (o := .cells #[.int .i8 a1_0, .int .i8 a1_1, .int .i8 a1_2, .int .i8 a1_3] 48 (0, 0)) (by apply_rules [BK807.out, blk_drewN, blk_drew, blk_alloc]) hb); replace BK808 := Aside0.mk (blk_below (g := gb808) (o := .cells #[.int .i8 a2_0, .int .i8 a2_1, .int .i8 a2_2, .int .i8 a2_3] 48 (0, 0)) (by apply_rules [BK808.out, blk_drewN, blk_drew, blk_alloc]) hb); replace HB := Aside0.mk (below_step (by apply_rules [HB.out, below_alloc, pw_below_drewN, below_drew1, below_set, GE806.out, GE807.out, GE808.out]) hb); (try clear hb); have hnb36 := NB806_807.out; have hnc36 := NB807_806.out; have hnb37 := NB806_808.out; have hnc37 := NB808_806.out; have hcz38_0 : w35.cell? ⟨gb806, 0, none⟩ = some (.int .u8 a0_0) := (blk_cell BK806.out 0).trans rfl; have hcz38_1 : w35.cell? ⟨gb806, 1, none⟩ = some (.int .i8 a0_1) := (blk_cell BK806.out 1).trans rfl; have hcz38_2 : w35.cell? ⟨gb806, 2, none⟩ = some (.int .i8 a0_2) := (blk_cell BK806.out 2).trans rfl; have hcz38_3 : w35.cell? ⟨gb806, 3, none⟩ = some (.int .i8 a0_3) := (blk_cell BK806.out 3).trans rfl; have hcz38_4 : w35.cell? ⟨gb806, 4, none⟩ = some (.int .i8 a0_4) := (blk_cell BK806.out 4).trans rfl; have hfz38_0 := blk_frozen BK806.out 0; have hfz38_1 := blk_frozen BK806.out 1; have hfz38_2 := blk_frozen BK806.out 2; have hfz38_3 := blk_frozen BK806.out 3; have hfz38_4 := blk_frozen BK806.out 4) | ((with_reducible refine gate_callee (f := 35) rfl ?_); refine goesK (some 31) Tryz.func35 [.agg #[.int .u8 a0_0, .int .i8 a0_1, .int .i8 a0_2, .int .i8 a0_3, .int .i8 a0_4]] rfl rfl ?_; (with_reducible refine (schismalaw12_Make.calls k a0_0 a0_1 a0_2 a0_3 a0_4 t810 t813 _ A6.out).mono ?_); rintro e w39 ⟨v811, v814, rfl, ho0, ho1, hb⟩; refine ⟨_, rfl, ?_⟩; have HO812 := Aside0.mk (Kd.V_lower (Kd.V_mono (ok' := fun k_ => some k_ ≠ (v814 : Value).ownBlock ∧ k_ ≠ gb806 ∧ k_ ≠ gb807 ∧ k_ ≠ gb808) ho0 (fun k_ hk_ => ⟨hk_.2, (Kd.freshB (g := gb806) (o := .cells #[.int .u8 a0_0, .int .i8 a0_1, .int .i8 a0_2, .int .i8 a0_3, .int .i8 a0_4] 50 (0, 0)) (by apply_rules [BK806.out, blk_drewN, blk_drew, blk_alloc]) k_ hk_.1), (Kd.freshB (g := gb807) (o := .cells #[.int .i8 a1_0, .int .i8 a1_1, .int .i8 a1_2, .int .i8 a1_3] 48 (0, 0)) (by apply_rules [BK807.out, blk_drewN, blk_drew, blk_alloc]) k_ hk_.1), (Kd.freshB (g := gb808) (o := .cells #[.int .i8 a2_0, .int .i8 a2_1, .int .i8 a2_2, .int .i8 a2_3] 48 (0, 0)) (by apply_rules [BK808.out, blk_drewN, blk_drew, blk_alloc]) k_ hk_.1)⟩)) (below_size (by apply_rules [HB.out, below_alloc, pw_below_drewN, below_drew1, below_set, GE806.out, GE807.out, GE808.out]))); have HO815 := Aside0.mk (Kd.R_lower (Kd.R_mono (ok' := fun k_ => True) ho1 (fun _ hk_ => trivial)) (below_size (by apply_rules [HB.out, below_alloc, pw_below_drewN, below_drew1, below_set, GE806.out, GE807.out, GE808.out]))); replace BK806 := Aside0.mk (blk_below (g := gb806) (o := .cells #[.int .u8 a0_0, .int .i8 a0_1, .int .i8 a0_2, .int .i8 a0_3, .int .i8 a0_4] 50 (0, 0)) (by apply_rules [BK806.out, blk_drewN, blk_drew, blk_alloc]) hb); replace BK807 := Aside0.mk (blk_below (g := gb807) (o := .cells #[.int .i8 a1_0, .int .i8 a1_1, .int .i8 a1_2, .int .i8 a1_3] 48 (0, 0)) (by apply_rules [BK807.out, blk_drewN, blk_drew, blk_alloc]) hb); replace BK808 := Aside0.mk (blk_below (g := gb808) (o := .cells #[.int .i8 a2_0, .int .i8 a2_1, .int .i8 a2_2, .int .i8 a2_3] 48 (0, 0)) (by apply_rules [BK808.out, blk_drewN, blk_drew, blk_alloc]) hb); replace HB := Aside0.mk (below_step (by apply_rules [HB.out, below_alloc, pw_below_drewN, below_drew1, below_set, GE806.out, GE807.out, GE808.out]) hb); (try clear hb); (try clear ho0); (try clear ho1)))
  have n0_ := Aside0.mk (Kd.V_drew HO812.out)
  have n1_ := Aside0.mk (Kd.R_drew HO815.out)
  have n2_ := Aside0.mk (blk_drew BK806.out)
  have n3_ := Aside0.mk (blk_drew BK807.out)
  have n4_ := Aside0.mk (blk_drew BK808.out)
  have n5_ := Aside0.mk (below_drew1 HB.out)
  clear HO812
  clear HO815
  clear BK806
  clear BK807
  clear BK808
  clear HB
  have HO812 := n0_
  have HO815 := n1_
  have BK806 := n2_
  have BK807 := n3_
  have BK808 := n4_
  have HB := n5_
  clear n0_ n1_ n2_ n3_ n4_ n5_
  obtain ⟨Ao41, co41, eo41⟩ := Kd.V_slice HO812.out
  (first | subst eo41 | (injection eo41 with f1_ f2_ f3_; have f4_ := f1_.symm; have f5_ := f3_.symm; clear f1_ f2_ f3_; subst f4_; subst f5_))
  refine start_ (n := 8) (S := fun w' => w'.cell? ⟨gb807, 0, none⟩ = some (.int .i8 a1_0) ∧ w'.cell? ⟨gb807, 1, none⟩ = some (.int .i8 a1_1) ∧ w'.cell? ⟨gb807, 2, none⟩ = some (.int .i8 a1_2) ∧ w'.cell? ⟨gb807, 3, none⟩ = some (.int .i8 a1_3) ∧ w'.cell? ⟨gb808, 0, none⟩ = some (.int .i8 a2_0) ∧ w'.cell? ⟨gb808, 1, none⟩ = some (.int .i8 a2_1) ∧ w'.cell? ⟨gb808, 2, none⟩ = some (.int .i8 a2_2) ∧ w'.cell? ⟨gb808, 3, none⟩ = some (.int .i8 a2_3)) (ds := []) #[false, false, false, false, false, false, false, false] (by kernel_rfl) rfl rfl ⟨(blk_cell BK807.out 0).trans rfl, (blk_cell BK807.out 1).trans rfl, (blk_cell BK807.out 2).trans rfl, (blk_cell BK807.out 3).trans rfl, (blk_cell BK808.out 0).trans rfl, (blk_cell BK808.out 1).trans rfl, (blk_cell BK808.out 2).trans rfl, (blk_cell BK808.out 3).trans rfl⟩ (fun hHeld => ?_); refine with_tabW schismalaw12_MonzoOrders.tab4 schismalaw12_MonzoOrders.bits4 (fun HT_ HW_ => ?_)
  generalize w39.drew = w40 at HO812 HO815 BK806 BK807 BK808 HB hHeld ⊢
  refine pure_ (i := 0) (N := some 34) (v := ?_) (a' := ?_) #[true, false, false, false, false, false, false, false] rfl rfl (any_of HT_.out (by kernel_rfl)) (fun _ _ _ h => h) (Or.inl ⟨by rfl, ?_⟩) ?_ ?_
  rotate_left
  ·intro w'
   go_simp
   with_reducible rfl
  rotate_left
  ·simp only [Act.put, List.setIfInBounds_toArray, List.set_cons_zero, List.set_cons_succ, i64_w, i32_w]
   rfl
  refine pure_ (i := 3) (N := some 37) (v := ?_) (a' := ?_) #[true, false, false, true, false, false, false, false] rfl rfl (any_of HT_.out (by kernel_rfl)) (fun _ _ _ h => h) (Or.inl ⟨by rfl, ?_⟩) ?_ ?_
  rotate_left
  ·intro w'
   go_simp
   with_reducible rfl
  rotate_left
  ·simp only [Act.put, List.setIfInBounds_toArray, List.set_cons_zero, List.set_cons_succ, i64_w, i32_w]
   rfl
  refine take_ (i := 1) (N := some 35) (v := ?_) (a' := ?_) #[true, true, false, true, false, false, false, false] rfl rfl (take_ofW HT_.out HW_.out (by kernel_rfl)) (fun _ _ _ h => h) (Or.inl ⟨by rfl, ?_⟩) hHeld ?_ ?_
  rotate_left
  ·rintro w' ⟨s0, s1, s2, s3, s4, s5, s6, s7⟩
   go_simp
   with_reducible rfl
  rotate_left
  ·simp only [Act.put, List.setIfInBounds_toArray, List.set_cons_zero, List.set_cons_succ, i64_w, i32_w]
   rfl
  refine take_ (i := 4) (N := some 38) (v := ?_) (a' := ?_) #[true, true, false, true, true, false, false, false] rfl rfl (take_ofW HT_.out HW_.out (by kernel_rfl)) (fun _ _ _ h => h) (Or.inl ⟨by rfl, ?_⟩) hHeld ?_ ?_
  rotate_left
  ·rintro w' ⟨s0, s1, s2, s3, s4, s5, s6, s7⟩
   go_simp
   with_reducible rfl
  rotate_left
  ·simp only [Act.put, List.setIfInBounds_toArray, List.set_cons_zero, List.set_cons_succ, i64_w, i32_w]
   rfl
  refine one_ (i := 2) (N := some 36) #[true, true, true, true, true, false, false, false] rfl rfl (one_of HT_.out (by kernel_rfl)) (by decide) (fun K hK => ?_)
  refine goes_ Tryz.func46 (by kernel_rfl) rfl #[.slice Ao41 t810.length co41, .agg #[.int .i8 a1_0, .int .i8 a1_1, .int .i8 a1_2, .int .i8 a1_3]] (by rfl) rfl rfl (by (try simp only [List.map_toArray, List.map_cons, List.map_nil]); first | done | rfl | (simp only [List.length_drop, List.length_take]; rfl)) ?_
  with_reducible refine (schismalaw12_Interval.calls k _ _ t810 a1_0 a1_1 a1_2 a1_3 t816 _ ?side1 ?side2 A7.out).mono ?_
  (case side1 => apply_rules [(Kd.V_reads' HO812.out).2.2, Kd.C_alloc, Kd.C_drewN, Kd.C_drew])
  (case side2 => exact (Kd.V_reads' HO812.out).2.1)
  rintro e w42 ⟨v817, rfl, ho0, hb⟩
  refine ⟨_, rfl, ?_⟩
  have n0_ := Aside0.mk (Kd.V_elder' (by apply_rules [HO812.out, Kd.V_alloc, Kd.V_drewN, Kd.V_drew]) (Kd.R_base ho0) hb)
  have n1_ := Aside0.mk (Kd.R_elder' (by apply_rules [HO815.out, Kd.R_alloc, Kd.R_drewN, Kd.R_drew]) (Kd.R_base ho0) hb)
  have n2_ := Aside0.mk (Kd.R_lower (Kd.R_new' ho0 (Kd.R_lt (by apply_rules [HO815.out, Kd.R_alloc, Kd.R_drewN, Kd.R_drew]))) (below_size (by apply_rules [HB.out, below_alloc, pw_below_drewN, below_drew1, below_set, GE806.out, GE807.out, GE808.out])))
  have n3_ := Aside0.mk (blk_below (g := gb806) (o := .cells #[.int .u8 a0_0, .int .i8 a0_1, .int .i8 a0_2, .int .i8 a0_3, .int .i8 a0_4] 50 (0, 0)) (by apply_rules [BK806.out, blk_drewN, blk_drew, blk_alloc]) hb)
  have n4_ := Aside0.mk (blk_below (g := gb807) (o := .cells #[.int .i8 a1_0, .int .i8 a1_1, .int .i8 a1_2, .int .i8 a1_3] 48 (0, 0)) (by apply_rules [BK807.out, blk_drewN, blk_drew, blk_alloc]) hb)
  have n5_ := Aside0.mk (blk_below (g := gb808) (o := .cells #[.int .i8 a2_0, .int .i8 a2_1, .int .i8 a2_2, .int .i8 a2_3] 48 (0, 0)) (by apply_rules [BK808.out, blk_drewN, blk_drew, blk_alloc]) hb)
  have n6_ := Aside0.mk (below_step (by apply_rules [HB.out, below_alloc, pw_below_drewN, below_drew1, below_set, GE806.out, GE807.out, GE808.out]) hb)
  clear HO812
  clear HO815
  clear BK806
  clear BK807
  clear BK808
  clear HB
  have HO812 := n0_
  have HO815 := n1_
  have HO818 := n2_
  have BK806 := n3_
  have BK807 := n4_
  have BK808 := n5_
  have HB := n6_
  clear n0_ n1_ n2_ n3_ n4_ n5_ n6_
  (try clear hb)
  (try clear hb2)
  (try clear hk)
  (try clear hi)
  (try clear ho0)
  refine hK.out _ _ ⟨(blk_cell BK807.out 0).trans rfl, (blk_cell BK807.out 1).trans rfl, (blk_cell BK807.out 2).trans rfl, (blk_cell BK807.out 3).trans rfl, (blk_cell BK808.out 0).trans rfl, (blk_cell BK808.out 1).trans rfl, (blk_cell BK808.out 2).trans rfl, (blk_cell BK808.out 3).trans rfl⟩ (fun hHeld => ?_)
  clear hK K
  refine norm_ (a' := ?_) ?_ ?_
  rotate_left
  ·show Act.put _ (some 36) _ = _
   simp only [Act.put, List.setIfInBounds_toArray, List.set_cons_zero, List.set_cons_succ, i64_w, i32_w]
   rfl
  refine one_ (i := 5) (N := some 39) #[true, true, true, true, true, true, false, false] rfl rfl (one_of HT_.out (by kernel_rfl)) (by decide) (fun K hK => ?_)
  refine goes_ Tryz.func46 (by kernel_rfl) rfl #[.slice Ao41 t810.length co41, .agg #[.int .i8 a2_0, .int .i8 a2_1, .int .i8 a2_2, .int .i8 a2_3]] (by rfl) rfl rfl (by (try simp only [List.map_toArray, List.map_cons, List.map_nil]); first | done | rfl | (simp only [List.length_drop, List.length_take]; rfl)) ?_
  with_reducible refine (schismalaw12_Interval.calls k _ _ t810 a2_0 a2_1 a2_2 a2_3 t819 _ ?side1 ?side2 A8.out).mono ?_
  (case side1 => apply_rules [(Kd.V_reads' HO812.out).2.2, Kd.C_alloc, Kd.C_drewN, Kd.C_drew])
  (case side2 => exact (Kd.V_reads' HO812.out).2.1)
  rintro e w43 ⟨v820, rfl, ho0, hb⟩
  refine ⟨_, rfl, ?_⟩
  have n0_ := Aside0.mk (Kd.V_elder' (by apply_rules [HO812.out, Kd.V_alloc, Kd.V_drewN, Kd.V_drew]) (Kd.R_base ho0) hb)
  have n1_ := Aside0.mk (Kd.R_elder' (by apply_rules [HO815.out, Kd.R_alloc, Kd.R_drewN, Kd.R_drew]) (Kd.R_base ho0) hb)
  have n2_ := Aside0.mk (Kd.R_elder' (by apply_rules [HO818.out, Kd.R_alloc, Kd.R_drewN, Kd.R_drew]) (Kd.R_base ho0) hb)
  have n3_ := Aside0.mk (Kd.R_lower (Kd.R_new' (Kd.R_new' ho0 (Kd.R_lt (by apply_rules [HO815.out, Kd.R_alloc, Kd.R_drewN, Kd.R_drew]))) (Kd.R_lt (by apply_rules [HO818.out, Kd.R_alloc, Kd.R_drewN, Kd.R_drew]))) (below_size (by apply_rules [HB.out, below_alloc, pw_below_drewN, below_drew1, below_set, GE806.out, GE807.out, GE808.out])))
  have n4_ := Aside0.mk (blk_below (g := gb806) (o := .cells #[.int .u8 a0_0, .int .i8 a0_1, .int .i8 a0_2, .int .i8 a0_3, .int .i8 a0_4] 50 (0, 0)) (by apply_rules [BK806.out, blk_drewN, blk_drew, blk_alloc]) hb)
  have n5_ := Aside0.mk (blk_below (g := gb807) (o := .cells #[.int .i8 a1_0, .int .i8 a1_1, .int .i8 a1_2, .int .i8 a1_3] 48 (0, 0)) (by apply_rules [BK807.out, blk_drewN, blk_drew, blk_alloc]) hb)
  have n6_ := Aside0.mk (blk_below (g := gb808) (o := .cells #[.int .i8 a2_0, .int .i8 a2_1, .int .i8 a2_2, .int .i8 a2_3] 48 (0, 0)) (by apply_rules [BK808.out, blk_drewN, blk_drew, blk_alloc]) hb)
  have n7_ := Aside0.mk (below_step (by apply_rules [HB.out, below_alloc, pw_below_drewN, below_drew1, below_set, GE806.out, GE807.out, GE808.out]) hb)
  clear HO812
  clear HO815
  clear HO818
  clear BK806
  clear BK807
  clear BK808
  clear HB
  have HO812 := n0_
  have HO815 := n1_
  have HO818 := n2_
  have HO821 := n3_
  have BK806 := n4_
  have BK807 := n5_
  have BK808 := n6_
  have HB := n7_
  clear n0_ n1_ n2_ n3_ n4_ n5_ n6_ n7_
  (try clear hb)
  (try clear hb2)
  (try clear hk)
  (try clear hi)
  (try clear ho0)
  refine hK.out _ _ ⟨(blk_cell BK807.out 0).trans rfl, (blk_cell BK807.out 1).trans rfl, (blk_cell BK807.out 2).trans rfl, (blk_cell BK807.out 3).trans rfl, (blk_cell BK808.out 0).trans rfl, (blk_cell BK808.out 1).trans rfl, (blk_cell BK808.out 2).trans rfl, (blk_cell BK808.out 3).trans rfl⟩ (fun hHeld => ?_)
  clear hK K
  refine norm_ (a' := ?_) ?_ ?_
  rotate_left
  ·show Act.put _ (some 39) _ = _
   simp only [Act.put, List.setIfInBounds_toArray, List.set_cons_zero, List.set_cons_succ, i64_w, i32_w]
   rfl
  refine pure_ (i := 6) (N := some 9) (v := ?_) (a' := ?_) #[true, true, true, true, true, true, true, false] rfl rfl (any_of HT_.out (by kernel_rfl)) (fun _ _ _ h => h) (Or.inl ⟨by rfl, ?_⟩) ?_ ?_
  rotate_left
  ·intro w'
   go_simp
   with_reducible rfl
  rotate_left
  ·simp only [Act.put, List.setIfInBounds_toArray, List.set_cons_zero, List.set_cons_succ, i64_w, i32_w]
   rfl
  refine pure_ (i := 7) (N := some 10) (v := ?_) (a' := ?_) #[true, true, true, true, true, true, true, true] rfl rfl (any_of HT_.out (by kernel_rfl)) (fun _ _ _ h => h) (Or.inl ⟨by rfl, ?_⟩) ?_ ?_
  rotate_left
  ·intro w'
   go_simp
   with_reducible rfl
  rotate_left
  ·simp only [Act.put, List.setIfInBounds_toArray, List.set_cons_zero, List.set_cons_succ, i64_w, i32_w]
   rfl
  refine done_ (done_of HT_.out (by kernel_rfl)) ?_
  obtain ⟨Ao44, co44, eo44⟩ := Kd.R_slice HO815.out
  subst eo44
  try go_wp2_with (first | ((with_reducible refine gate_callee (f := 36) rfl ?_); refine goesK (some 43) Tryz.func36 [.slice Ao41 t810.length co41, .slice Ao44 t813.length co44] rfl rfl ?_; (with_reducible refine (schismalaw12_Value.calls k _ _ t810 _ _ t813 t822 t823 _ ?side1 ?side2 ?side3 ?side4 ?side5 A9.out).mono ?_); (case side1 => refine TabW.below hT ?_; apply_rules [HB.out, below_alloc, pw_below_drewN, below_drew1, below_set, GE806.out, GE807.out, GE808.out]); (case side2 => apply_rules [(Kd.V_reads' HO812.out).2.2, Kd.C_alloc, Kd.C_drewN, Kd.C_drew]); (case side3 => exact (Kd.V_reads' HO812.out).2.1); (case side4 => apply_rules [(Kd.R_reads' HO815.out).2.2, Kd.C_alloc, Kd.C_drewN, Kd.C_drew]); (case side5 => exact (Kd.R_reads' HO815.out).2.1); rintro e w45 ⟨rfl, hb⟩; refine ⟨_, rfl, ?_⟩; replace HO812 := Aside0.mk (Kd.V_below (by apply_rules [HO812.out, Kd.V_alloc, Kd.V_drewN, Kd.V_drew]) hb); replace HO815 := Aside0.mk (Kd.R_below (by apply_rules [HO815.out, Kd.R_alloc, Kd.R_drewN, Kd.R_drew]) hb); replace HO818 := Aside0.mk (Kd.R_below (by apply_rules [HO818.out, Kd.R_alloc, Kd.R_drewN, Kd.R_drew]) hb); replace HO821 := Aside0.mk (Kd.R_below (by apply_rules [HO821.out, Kd.R_alloc, Kd.R_drewN, Kd.R_drew]) hb); replace BK806 := Aside0.mk (blk_below (g := gb806) (o := .cells #[.int .u8 a0_0, .int .i8 a0_1, .int .i8 a0_2, .int .i8 a0_3, .int .i8 a0_4] 50 (0, 0)) (by apply_rules [BK806.out, blk_drewN, blk_drew, blk_alloc]) hb); replace BK807 := Aside0.mk (blk_below (g := gb807) (o := .cells #[.int .i8 a1_0, .int .i8 a1_1, .int .i8 a1_2, .int .i8 a1_3] 48 (0, 0)) (by apply_rules [BK807.out, blk_drewN, blk_drew, blk_alloc]) hb); replace BK808 := Aside0.mk (blk_below (g := gb808) (o := .cells #[.int .i8 a2_0, .int .i8 a2_1, .int .i8 a2_2, .int .i8 a2_3] 48 (0, 0)) (by apply_rules [BK808.out, blk_drewN, blk_drew, blk_alloc]) hb); replace HB := Aside0.mk (below_step (by apply_rules [HB.out, below_alloc, pw_below_drewN, below_drew1, below_set, GE806.out, GE807.out, GE808.out]) hb); (try clear hb)) | ((with_reducible refine gate_callee (f := 44) rfl ?_); refine goesK (some 49) Tryz.func44 [.slice Ao41 t810.length co41, .slice Ao44 t813.length co44] rfl rfl ?_; (with_reducible refine (monzo_Sign.calls k _ _ t810 _ _ t813 t824 t825 _ ?side1 ?side2 ?side3 ?side4 ?side5 A10.out).mono ?_); (case side1 => refine TabW.below hT ?_; apply_rules [HB.out, below_alloc, pw_below_drewN, below_drew1, below_set, GE806.out, GE807.out, GE808.out]); (case side2 => apply_rules [(Kd.V_reads' HO812.out).2.2, Kd.C_alloc, Kd.C_drewN, Kd.C_drew]); (case side3 => exact (Kd.V_reads' HO812.out).2.1); (case side4 => apply_rules [(Kd.R_reads' HO815.out).2.2, Kd.C_alloc, Kd.C_drewN, Kd.C_drew]); (case side5 => exact (Kd.R_reads' HO815.out).2.1); rintro e w46 ⟨rfl, hb⟩; refine ⟨_, rfl, ?_⟩; replace HO812 := Aside0.mk (Kd.V_below (by apply_rules [HO812.out, Kd.V_alloc, Kd.V_drewN, Kd.V_drew]) hb); replace HO815 := Aside0.mk (Kd.R_below (by apply_rules [HO815.out, Kd.R_alloc, Kd.R_drewN, Kd.R_drew]) hb); replace HO818 := Aside0.mk (Kd.R_below (by apply_rules [HO818.out, Kd.R_alloc, Kd.R_drewN, Kd.R_drew]) hb); replace HO821 := Aside0.mk (Kd.R_below (by apply_rules [HO821.out, Kd.R_alloc, Kd.R_drewN, Kd.R_drew]) hb); replace BK806 := Aside0.mk (blk_below (g := gb806) (o := .cells #[.int .u8 a0_0, .int .i8 a0_1, .int .i8 a0_2, .int .i8 a0_3, .int .i8 a0_4] 50 (0, 0)) (by apply_rules [BK806.out, blk_drewN, blk_drew, blk_alloc]) hb); replace BK807 := Aside0.mk (blk_below (g := gb807) (o := .cells #[.int .i8 a1_0, .int .i8 a1_1, .int .i8 a1_2, .int .i8 a1_3] 48 (0, 0)) (by apply_rules [BK807.out, blk_drewN, blk_drew, blk_alloc]) hb); replace BK808 := Aside0.mk (blk_below (g := gb808) (o := .cells #[.int .i8 a2_0, .int .i8 a2_1, .int .i8 a2_2, .int .i8 a2_3] 48 (0, 0)) (by apply_rules [BK808.out, blk_drewN, blk_drew, blk_alloc]) hb); replace HB := Aside0.mk (below_step (by apply_rules [HB.out, below_alloc, pw_below_drewN, below_drew1, below_set, GE806.out, GE807.out, GE808.out]) hb); (try clear hb); obtain ⟨Ao47, co47, eo47⟩ := Kd.R_slice HO818.out; subst eo47) | ((with_reducible refine gate_callee (f := 45) rfl ?_); refine goesK (some 56) Tryz.func45 [.slice Ao41 t810.length co41, .slice Ao44 t813.length co44, .slice Ao47 t816.length co47] rfl rfl ?_; (with_reducible refine (monzo_Compare.calls k _ _ t810 (fun k_ => some k_ = (.slice Ao44 t813.length co44 : Value).ownBlock) _ _ t813 (fun k_ => some k_ = (.slice Ao47 t816.length co47 : Value).ownBlock) _ _ t816 t826 t827 _ ?side1 ?side2 ?side3 ?side4 ?side5 A11.out).mono ?_); (case side1 => refine TabW.below hT ?_; apply_rules [HB.out, below_alloc, pw_below_drewN, below_drew1, below_set, GE806.out, GE807.out, GE808.out]); (case side2 => apply_rules [(Kd.V_reads' HO812.out).2.2, Kd.C_alloc, Kd.C_drewN, Kd.C_drew]); (case side3 => exact (Kd.V_reads' HO812.out).2.1); (case side4 => exact Kd.R_V (Kd.R_tight rfl (Kd.R_types (Kd.R_types (Kd.R_types (HO815.out) BK806.out (by decide)) BK807.out (by decide)) BK808.out (by decide)))); (case side5 => exact Kd.R_V (Kd.R_tight rfl (Kd.R_types (Kd.R_types (Kd.R_types (HO818.out) BK806.out (by decide)) BK807.out (by decide)) BK808.out (by decide)))); rintro e w48 ⟨rfl, hb⟩; refine ⟨_, rfl, ?_⟩; replace HO812 := Aside0.mk (Kd.V_below (by apply_rules [HO812.out, Kd.V_alloc, Kd.V_drewN, Kd.V_drew]) hb); replace HO815 := Aside0.mk (Kd.R_below (by apply_rules [HO815.out, Kd.R_alloc, Kd.R_drewN, Kd.R_drew]) hb); replace HO818 := Aside0.mk (Kd.R_below (by apply_rules [HO818.out, Kd.R_alloc, Kd.R_drewN, Kd.R_drew]) hb); replace HO821 := Aside0.mk (Kd.R_below (by apply_rules [HO821.out, Kd.R_alloc, Kd.R_drewN, Kd.R_drew]) hb); replace BK806 := Aside0.mk (blk_below (g := gb806) (o := .cells #[.int .u8 a0_0, .int .i8 a0_1, .int .i8 a0_2, .int .i8 a0_3, .int .i8 a0_4] 50 (0, 0)) (by apply_rules [BK806.out, blk_drewN, blk_drew, blk_alloc]) hb); replace BK807 := Aside0.mk (blk_below (g := gb807) (o := .cells #[.int .i8 a1_0, .int .i8 a1_1, .int .i8 a1_2, .int .i8 a1_3] 48 (0, 0)) (by apply_rules [BK807.out, blk_drewN, blk_drew, blk_alloc]) hb); replace BK808 := Aside0.mk (blk_below (g := gb808) (o := .cells #[.int .i8 a2_0, .int .i8 a2_1, .int .i8 a2_2, .int .i8 a2_3] 48 (0, 0)) (by apply_rules [BK808.out, blk_drewN, blk_drew, blk_alloc]) hb); replace HB := Aside0.mk (below_step (by apply_rules [HB.out, below_alloc, pw_below_drewN, below_drew1, below_set, GE806.out, GE807.out, GE808.out]) hb); (try clear hb)) | ((with_reducible refine gate_callee (f := 45) rfl ?_); refine goesK (some 63) Tryz.func45 [.slice Ao41 t810.length co41, .slice Ao47 t816.length co47, .slice Ao44 t813.length co44] rfl rfl ?_; (with_reducible refine (monzo_Compare.calls k _ _ t810 (fun k_ => some k_ = (.slice Ao47 t816.length co47 : Value).ownBlock) _ _ t816 (fun k_ => some k_ = (.slice Ao44 t813.length co44 : Value).ownBlock) _ _ t813 t828 t829 _ ?side1 ?side2 ?side3 ?side4 ?side5 A12.out).mono ?_); (case side1 => refine TabW.below hT ?_; apply_rules [HB.out, below_alloc, pw_below_drewN, below_drew1, below_set, GE806.out, GE807.out, GE808.out]); (case side2 => apply_rules [(Kd.V_reads' HO812.out).2.2, Kd.C_alloc, Kd.C_drewN, Kd.C_drew]); (case side3 => exact (Kd.V_reads' HO812.out).2.1); (case side4 => exact Kd.R_V (Kd.R_tight rfl (Kd.R_types (Kd.R_types (Kd.R_types (HO818.out) BK806.out (by decide)) BK807.out (by decide)) BK808.out (by decide)))); (case side5 => exact Kd.R_V (Kd.R_tight rfl (Kd.R_types (Kd.R_types (Kd.R_types (HO815.out) BK806.out (by decide)) BK807.out (by decide)) BK808.out (by decide)))); rintro e w49 ⟨rfl, hb⟩; refine ⟨_, rfl, ?_⟩; replace HO812 := Aside0.mk (Kd.V_below (by apply_rules [HO812.out, Kd.V_alloc, Kd.V_drewN, Kd.V_drew]) hb); replace HO815 := Aside0.mk (Kd.R_below (by apply_rules [HO815.out, Kd.R_alloc, Kd.R_drewN, Kd.R_drew]) hb); replace HO818 := Aside0.mk (Kd.R_below (by apply_rules [HO818.out, Kd.R_alloc, Kd.R_drewN, Kd.R_drew]) hb); replace HO821 := Aside0.mk (Kd.R_below (by apply_rules [HO821.out, Kd.R_alloc, Kd.R_drewN, Kd.R_drew]) hb); replace BK806 := Aside0.mk (blk_below (g := gb806) (o := .cells #[.int .u8 a0_0, .int .i8 a0_1, .int .i8 a0_2, .int .i8 a0_3, .int .i8 a0_4] 50 (0, 0)) (by apply_rules [BK806.out, blk_drewN, blk_drew, blk_alloc]) hb); replace BK807 := Aside0.mk (blk_below (g := gb807) (o := .cells #[.int .i8 a1_0, .int .i8 a1_1, .int .i8 a1_2, .int .i8 a1_3] 48 (0, 0)) (by apply_rules [BK807.out, blk_drewN, blk_drew, blk_alloc]) hb); replace BK808 := Aside0.mk (blk_below (g := gb808) (o := .cells #[.int .i8 a2_0, .int .i8 a2_1, .int .i8 a2_2, .int .i8 a2_3] 48 (0, 0)) (by apply_rules [BK808.out, blk_drewN, blk_drew, blk_alloc]) hb); replace HB := Aside0.mk (below_step (by apply_rules [HB.out, below_alloc, pw_below_drewN, below_drew1, below_set, GE806.out, GE807.out, GE808.out]) hb); (try clear hb); obtain ⟨Ao50, co50, eo50⟩ := Kd.R_slice HO821.out; subst eo50) | ((with_reducible refine gate_callee (f := 47) rfl ?_); refine goesK (some 70) Tryz.func47 [.slice Ao41 t810.length co41, .slice Ao44 t813.length co44, .slice Ao50 t819.length co50] rfl rfl ?_; (with_reducible refine (monzo_Add.calls k _ _ t810 (fun k_ => some k_ = (.slice Ao44 t813.length co44 : Value).ownBlock) _ _ t813 (fun k_ => some k_ = (.slice Ao50 t819.length co50 : Value).ownBlock) _ _ t819 t830 t833 _ ?side1 ?side2 ?side3 ?side4 A13.out).mono ?_); (case side1 => apply_rules [(Kd.V_reads' HO812.out).2.2, Kd.C_alloc, Kd.C_drewN, Kd.C_drew]); (case side2 => exact (Kd.V_reads' HO812.out).2.1); (case side3 => exact Kd.R_V (Kd.R_tight rfl (Kd.R_types (Kd.R_types (Kd.R_types (HO815.out) BK806.out (by decide)) BK807.out (by decide)) BK808.out (by decide)))); (case side4 => exact Kd.R_V (Kd.R_tight rfl (Kd.R_types (Kd.R_types (Kd.R_types (HO821.out) BK806.out (by decide)) BK807.out (by decide)) BK808.out (by decide)))); rintro e w51 ⟨v831, rfl, ho0, hb⟩; refine ⟨_, rfl, ?_⟩; have n0_ := Aside0.mk (Kd.V_below (by apply_rules [HO812.out, Kd.V_alloc, Kd.V_drewN, Kd.V_drew]) hb); have n1_ := Aside0.mk (Kd.R_below (by apply_rules [HO815.out, Kd.R_alloc, Kd.R_drewN, Kd.R_drew]) hb); have n2_ := Aside0.mk (Kd.R_below (by apply_rules [HO818.out, Kd.R_alloc, Kd.R_drewN, Kd.R_drew]) hb); have n3_ := Aside0.mk (Kd.R_below (by apply_rules [HO821.out, Kd.R_alloc, Kd.R_drewN, Kd.R_drew]) hb); have n4_ := Aside0.mk (Kd.V_lower (Kd.V_mono (ok' := fun k_ => some k_ ≠ (.slice Ao47 t816.length co47 : Value).ownBlock ∧ k_ ≠ gb806 ∧ k_ ≠ gb807 ∧ k_ ≠ gb808) ho0 (fun k_ hk_ => ⟨Or.elim hk_ (fun hs_ => Or.elim hs_ (fun hs_ => ((Kd.R_types (Kd.R_types (Kd.R_types (HO815.out) BK806.out (by decide)) BK807.out (by decide)) BK808.out (by decide)).1 k_ hs_.symm).1.1.1.1.2) (fun hs_ => ((Kd.R_types (Kd.R_types (Kd.R_types (HO821.out) BK806.out (by decide)) BK807.out (by decide)) BK808.out (by decide)).1 k_ hs_.symm).1.1.1.2)) (fun hn_ => (Kd.fresh' (Kd.R_lt (by apply_rules [HO818.out, Kd.R_alloc, Kd.R_drewN, Kd.R_drew])) k_ hn_)), Or.elim hk_ (fun hs_ => Or.elim hs_ (fun hs_ => ((Kd.R_types (Kd.R_types (Kd.R_types (HO815.out) BK806.out (by decide)) BK807.out (by decide)) BK808.out (by decide)).1 k_ hs_.symm).1.1.2) (fun hs_ => ((Kd.R_types (Kd.R_types (Kd.R_types (HO821.out) BK806.out (by decide)) BK807.out (by decide)) BK808.out (by decide)).1 k_ hs_.symm).1.1.2)) (fun hn_ => (Kd.freshB (g := gb806) (o := .cells #[.int .u8 a0_0, .int .i8 a0_1, .int .i8 a0_2, .int .i8 a0_3, .int .i8 a0_4] 50 (0, 0)) (by apply_rules [BK806.out, blk_drewN, blk_drew, blk_alloc]) k_ hn_)), Or.elim hk_ (fun hs_ => Or.elim hs_ (fun hs_ => ((Kd.R_types (Kd.R_types (Kd.R_types (HO815.out) BK806.out (by decide)) BK807.out (by decide)) BK808.out (by decide)).1 k_ hs_.symm).1.2) (fun hs_ => ((Kd.R_types (Kd.R_types (Kd.R_types (HO821.out) BK806.out (by decide)) BK807.out (by decide)) BK808.out (by decide)).1 k_ hs_.symm).1.2)) (fun hn_ => (Kd.freshB (g := gb807) (o := .cells #[.int .i8 a1_0, .int .i8 a1_1, .int .i8 a1_2, .int .i8 a1_3] 48 (0, 0)) (by apply_rules [BK807.out, blk_drewN, blk_drew, blk_alloc]) k_ hn_)), Or.elim hk_ (fun hs_ => Or.elim hs_ (fun hs_ => ((Kd.R_types (Kd.R_types (Kd.R_types (HO815.out) BK806.out (by decide)) BK807.out (by decide)) BK808.out (by decide)).1 k_ hs_.symm).2) (fun hs_ => ((Kd.R_types (Kd.R_types (Kd.R_types (HO821.out) BK806.out (by decide)) BK807.out (by decide)) BK808.out (by decide)).1 k_ hs_.symm).2)) (fun hn_ => (Kd.freshB (g := gb808) (o := .cells #[.int .i8 a2_0, .int .i8 a2_1, .int .i8 a2_2, .int .i8 a2_3] 48 (0, 0)) (by apply_rules [BK808.out, blk_drewN, blk_drew, blk_alloc]) k_ hn_))⟩)) (below_size (by apply_rules [HB.out, below_alloc, pw_below_drewN, below_drew1, below_set, GE806.out, GE807.out, GE808.out]))); have n5_ := Aside0.mk (blk_below (g := gb806) (o := .cells #[.int .u8 a0_0, .int .i8 a0_1, .int .i8 a0_2, .int .i8 a0_3, .int .i8 a0_4] 50 (0, 0)) (by apply_rules [BK806.out, blk_drewN, blk_drew, blk_alloc]) hb); have n6_ := Aside0.mk (blk_below (g := gb807) (o := .cells #[.int .i8 a1_0, .int .i8 a1_1, .int .i8 a1_2, .int .i8 a1_3] 48 (0, 0)) (by apply_rules [BK807.out, blk_drewN, blk_drew, blk_alloc]) hb); have n7_ := Aside0.mk (blk_below (g := gb808) (o := .cells #[.int .i8 a2_0, .int .i8 a2_1, .int .i8 a2_2, .int .i8 a2_3] 48 (0, 0)) (by apply_rules [BK808.out, blk_drewN, blk_drew, blk_alloc]) hb); have n8_ := Aside0.mk (below_step (by apply_rules [HB.out, below_alloc, pw_below_drewN, below_drew1, below_set, GE806.out, GE807.out, GE808.out]) hb); clear HO812; clear HO815; clear HO818; clear HO821; clear BK806; clear BK807; clear BK808; clear HB; have HO812 := n0_; have HO815 := n1_; have HO818 := n2_; have HO821 := n3_; have HO832 := n4_; have BK806 := n5_; have BK807 := n6_; have BK808 := n7_; have HB := n8_; clear n0_ n1_ n2_ n3_ n4_ n5_ n6_ n7_ n8_; (try clear hb); (try clear ho0)) | ((with_reducible refine gate_callee (f := 47) rfl ?_); refine goesK (some 77) Tryz.func47 [.slice Ao41 t810.length co41, .slice Ao47 t816.length co47, .slice Ao50 t819.length co50] rfl rfl ?_; (with_reducible refine (monzo_Add.calls k _ _ t810 (fun k_ => some k_ = (.slice Ao47 t816.length co47 : Value).ownBlock) _ _ t816 (fun k_ => some k_ = (.slice Ao50 t819.length co50 : Value).ownBlock) _ _ t819 t834 t837 _ ?side1 ?side2 ?side3 ?side4 A14.out).mono ?_); (case side1 => apply_rules [(Kd.V_reads' HO812.out).2.2, Kd.C_alloc, Kd.C_drewN, Kd.C_drew]); (case side2 => exact (Kd.V_reads' HO812.out).2.1); (case side3 => exact Kd.R_V (Kd.R_tight rfl (Kd.R_types (Kd.R_types (Kd.R_types (HO818.out) BK806.out (by decide)) BK807.out (by decide)) BK808.out (by decide)))); (case side4 => exact Kd.R_V (Kd.R_tight rfl (Kd.R_types (Kd.R_types (Kd.R_types (HO821.out) BK806.out (by decide)) BK807.out (by decide)) BK808.out (by decide)))); rintro e w52 ⟨v835, rfl, ho0, hb⟩; refine ⟨_, rfl, ?_⟩; have n0_ := Aside0.mk (Kd.V_below (by apply_rules [HO812.out, Kd.V_alloc, Kd.V_drewN, Kd.V_drew]) hb); have n1_ := Aside0.mk (Kd.R_below (by apply_rules [HO815.out, Kd.R_alloc, Kd.R_drewN, Kd.R_drew]) hb); have n2_ := Aside0.mk (Kd.R_below (by apply_rules [HO818.out, Kd.R_alloc, Kd.R_drewN, Kd.R_drew]) hb); have n3_ := Aside0.mk (Kd.R_below (by apply_rules [HO821.out, Kd.R_alloc, Kd.R_drewN, Kd.R_drew]) hb); have n4_ := Aside0.mk (Kd.V_below (by apply_rules [HO832.out, Kd.V_alloc, Kd.V_drewN, Kd.V_drew]) hb); have n5_ := Aside0.mk (Kd.V_lower (Kd.V_mono (ok' := fun k_ => some k_ ≠ (.slice Ao44 t813.length co44 : Value).ownBlock ∧ k_ ≠ gb806 ∧ k_ ≠ gb807 ∧ k_ ≠ gb808) ho0 (fun k_ hk_ => ⟨Or.elim hk_ (fun hs_ => Or.elim hs_ (fun hs_ => ((Kd.R_types (Kd.R_types (Kd.R_types (HO818.out) BK806.out (by decide)) BK807.out (by decide)) BK808.out (by decide)).1 k_ hs_.symm).1.1.1.1.2) (fun hs_ => ((Kd.R_types (Kd.R_types (Kd.R_types (HO821.out) BK806.out (by decide)) BK807.out (by decide)) BK808.out (by decide)).1 k_ hs_.symm).1.1.1.1.2)) (fun hn_ => (Kd.fresh' (Kd.R_lt (by apply_rules [HO815.out, Kd.R_alloc, Kd.R_drewN, Kd.R_drew])) k_ hn_)), Or.elim hk_ (fun hs_ => Or.elim hs_ (fun hs_ => ((Kd.R_types (Kd.R_types (Kd.R_types (HO818.out) BK806.out (by decide)) BK807.out (by decide)) BK808.out (by decide)).1 k_ hs_.symm).1.1.2) (fun hs_ => ((Kd.R_types (Kd.R_types (Kd.R_types (HO821.out) BK806.out (by decide)) BK807.out (by decide)) BK808.out (by decide)).1 k_ hs_.symm).1.1.2)) (fun hn_ => (Kd.freshB (g := gb806) (o := .cells #[.int .u8 a0_0, .int .i8 a0_1, .int .i8 a0_2, .int .i8 a0_3, .int .i8 a0_4] 50 (0, 0)) (by apply_rules [BK806.out, blk_drewN, blk_drew, blk_alloc]) k_ hn_)), Or.elim hk_ (fun hs_ => Or.elim hs_ (fun hs_ => ((Kd.R_types (Kd.R_types (Kd.R_types (HO818.out) BK806.out (by decide)) BK807.out (by decide)) BK808.out (by decide)).1 k_ hs_.symm).1.2) (fun hs_ => ((Kd.R_types (Kd.R_types (Kd.R_types (HO821.out) BK806.out (by decide)) BK807.out (by decide)) BK808.out (by decide)).1 k_ hs_.symm).1.2)) (fun hn_ => (Kd.freshB (g := gb807) (o := .cells #[.int .i8 a1_0, .int .i8 a1_1, .int .i8 a1_2, .int .i8 a1_3] 48 (0, 0)) (by apply_rules [BK807.out, blk_drewN, blk_drew, blk_alloc]) k_ hn_)), Or.elim hk_ (fun hs_ => Or.elim hs_ (fun hs_ => ((Kd.R_types (Kd.R_types (Kd.R_types (HO818.out) BK806.out (by decide)) BK807.out (by decide)) BK808.out (by decide)).1 k_ hs_.symm).2) (fun hs_ => ((Kd.R_types (Kd.R_types (Kd.R_types (HO821.out) BK806.out (by decide)) BK807.out (by decide)) BK808.out (by decide)).1 k_ hs_.symm).2)) (fun hn_ => (Kd.freshB (g := gb808) (o := .cells #[.int .i8 a2_0, .int .i8 a2_1, .int .i8 a2_2, .int .i8 a2_3] 48 (0, 0)) (by apply_rules [BK808.out, blk_drewN, blk_drew, blk_alloc]) k_ hn_))⟩)) (below_size (by apply_rules [HB.out, below_alloc, pw_below_drewN, below_drew1, below_set, GE806.out, GE807.out, GE808.out]))); have n6_ := Aside0.mk (blk_below (g := gb806) (o := .cells #[.int .u8 a0_0, .int .i8 a0_1, .int .i8 a0_2, .int .i8 a0_3, .int .i8 a0_4] 50 (0, 0)) (by apply_rules [BK806.out, blk_drewN, blk_drew, blk_alloc]) hb); have n7_ := Aside0.mk (blk_below (g := gb807) (o := .cells #[.int .i8 a1_0, .int .i8 a1_1, .int .i8 a1_2, .int .i8 a1_3] 48 (0, 0)) (by apply_rules [BK807.out, blk_drewN, blk_drew, blk_alloc]) hb); have n8_ := Aside0.mk (blk_below (g := gb808) (o := .cells #[.int .i8 a2_0, .int .i8 a2_1, .int .i8 a2_2, .int .i8 a2_3] 48 (0, 0)) (by apply_rules [BK808.out, blk_drewN, blk_drew, blk_alloc]) hb); have n9_ := Aside0.mk (below_step (by apply_rules [HB.out, below_alloc, pw_below_drewN, below_drew1, below_set, GE806.out, GE807.out, GE808.out]) hb); clear HO812; clear HO815; clear HO818; clear HO821; clear HO832; clear BK806; clear BK807; clear BK808; clear HB; have HO812 := n0_; have HO815 := n1_; have HO818 := n2_; have HO821 := n3_; have HO832 := n4_; have HO836 := n5_; have BK806 := n6_; have BK807 := n7_; have BK808 := n8_; have HB := n9_; clear n0_ n1_ n2_ n3_ n4_ n5_ n6_ n7_ n8_ n9_; (try clear hb); (try clear ho0); obtain ⟨Ao53, co53, eo53⟩ := Kd.V_slice HO832.out; subst eo53; obtain ⟨Ao54, co54, eo54⟩ := Kd.V_slice HO836.out; subst eo54) | ((with_reducible refine gate_callee (f := 45) rfl ?_); refine goesK (some 84) Tryz.func45 [.slice Ao41 t810.length co41, .slice Ao53 t830.length co53, .slice Ao54 t834.length co54] rfl rfl ?_; (with_reducible refine (monzo_Compare.calls k _ _ t810 (fun k_ => (some k_ ≠ (.slice Ao47 t816.length co47 : Value).ownBlock ∧ (k_ ≠ gb806 ∧ (k_ ≠ gb807 ∧ k_ ≠ gb808)))) _ _ t830 (fun k_ => (some k_ ≠ (.slice Ao44 t813.length co44 : Value).ownBlock ∧ (k_ ≠ gb806 ∧ (k_ ≠ gb807 ∧ k_ ≠ gb808)))) _ _ t834 t838 t839 _ ?side1 ?side2 ?side3 ?side4 ?side5 A15.out).mono ?_); (case side1 => refine TabW.below hT ?_; apply_rules [HB.out, below_alloc, pw_below_drewN, below_drew1, below_set, GE806.out, GE807.out, GE808.out]); (case side2 => apply_rules [(Kd.V_reads' HO812.out).2.2, Kd.C_alloc, Kd.C_drewN, Kd.C_drew]); (case side3 => exact (Kd.V_reads' HO812.out).2.1); (case side4 => exact HO832.out); (case side5 => exact HO836.out); rintro e w55 ⟨rfl, hb⟩; refine ⟨_, rfl, ?_⟩; replace HO812 := Aside0.mk (Kd.V_below (by apply_rules [HO812.out, Kd.V_alloc, Kd.V_drewN, Kd.V_drew]) hb); replace HO815 := Aside0.mk (Kd.R_below (by apply_rules [HO815.out, Kd.R_alloc, Kd.R_drewN, Kd.R_drew]) hb); replace HO818 := Aside0.mk (Kd.R_below (by apply_rules [HO818.out, Kd.R_alloc, Kd.R_drewN, Kd.R_drew]) hb); replace HO821 := Aside0.mk (Kd.R_below (by apply_rules [HO821.out, Kd.R_alloc, Kd.R_drewN, Kd.R_drew]) hb); replace HO832 := Aside0.mk (Kd.V_below (by apply_rules [HO832.out, Kd.V_alloc, Kd.V_drewN, Kd.V_drew]) hb); replace HO836 := Aside0.mk (Kd.V_below (by apply_rules [HO836.out, Kd.V_alloc, Kd.V_drewN, Kd.V_drew]) hb); replace BK806 := Aside0.mk (blk_below (g := gb806) (o := .cells #[.int .u8 a0_0, .int .i8 a0_1, .int .i8 a0_2, .int .i8 a0_3, .int .i8 a0_4] 50 (0, 0)) (by apply_rules [BK806.out, blk_drewN, blk_drew, blk_alloc]) hb); replace BK807 := Aside0.mk (blk_below (g := gb807) (o := .cells #[.int .i8 a1_0, .int .i8 a1_1, .int .i8 a1_2, .int .i8 a1_3] 48 (0, 0)) (by apply_rules [BK807.out, blk_drewN, blk_drew, blk_alloc]) hb); replace BK808 := Aside0.mk (blk_below (g := gb808) (o := .cells #[.int .i8 a2_0, .int .i8 a2_1, .int .i8 a2_2, .int .i8 a2_3] 48 (0, 0)) (by apply_rules [BK808.out, blk_drewN, blk_drew, blk_alloc]) hb); replace HB := Aside0.mk (below_step (by apply_rules [HB.out, below_alloc, pw_below_drewN, below_drew1, below_set, GE806.out, GE807.out, GE808.out]) hb); (try clear hb)) | ((with_reducible refine gate_callee (f := 36) rfl ?_); refine goesK (some 90) Tryz.func36 [.slice Ao41 t810.length co41, .slice Ao47 t816.length co47] rfl rfl ?_; (with_reducible refine (schismalaw12_Value.calls k _ _ t810 _ _ t816 t840 t841 _ ?side1 ?side2 ?side3 ?side4 ?side5 A16.out).mono ?_); (case side1 => refine TabW.below hT ?_; apply_rules [HB.out, below_alloc, pw_below_drewN, below_drew1, below_set, GE806.out, GE807.out, GE808.out]); (case side2 => apply_rules [(Kd.V_reads' HO812.out).2.2, Kd.C_alloc, Kd.C_drewN, Kd.C_drew]); (case side3 => exact (Kd.V_reads' HO812.out).2.1); (case side4 => apply_rules [(Kd.R_reads' HO818.out).2.2, Kd.C_alloc, Kd.C_drewN, Kd.C_drew]); (case side5 => exact (Kd.R_reads' HO818.out).2.1); rintro e w56 ⟨rfl, hb⟩; refine ⟨_, rfl, ?_⟩; replace HO812 := Aside0.mk (Kd.V_below (by apply_rules [HO812.out, Kd.V_alloc, Kd.V_drewN, Kd.V_drew]) hb); replace HO815 := Aside0.mk (Kd.R_below (by apply_rules [HO815.out, Kd.R_alloc, Kd.R_drewN, Kd.R_drew]) hb); replace HO818 := Aside0.mk (Kd.R_below (by apply_rules [HO818.out, Kd.R_alloc, Kd.R_drewN, Kd.R_drew]) hb); replace HO821 := Aside0.mk (Kd.R_below (by apply_rules [HO821.out, Kd.R_alloc, Kd.R_drewN, Kd.R_drew]) hb); replace HO832 := Aside0.mk (Kd.V_below (by apply_rules [HO832.out, Kd.V_alloc, Kd.V_drewN, Kd.V_drew]) hb); replace HO836 := Aside0.mk (Kd.V_below (by apply_rules [HO836.out, Kd.V_alloc, Kd.V_drewN, Kd.V_drew]) hb); replace BK806 := Aside0.mk (blk_below (g := gb806) (o := .cells #[.int .u8 a0_0, .int .i8 a0_1, .int .i8 a0_2, .int .i8 a0_3, .int .i8 a0_4] 50 (0, 0)) (by apply_rules [BK806.out, blk_drewN, blk_drew, blk_alloc]) hb); replace BK807 := Aside0.mk (blk_below (g := gb807) (o := .cells #[.int .i8 a1_0, .int .i8 a1_1, .int .i8 a1_2, .int .i8 a1_3] 48 (0, 0)) (by apply_rules [BK807.out, blk_drewN, blk_drew, blk_alloc]) hb); replace BK808 := Aside0.mk (blk_below (g := gb808) (o := .cells #[.int .i8 a2_0, .int .i8 a2_1, .int .i8 a2_2, .int .i8 a2_3] 48 (0, 0)) (by apply_rules [BK808.out, blk_drewN, blk_drew, blk_alloc]) hb); replace HB := Aside0.mk (below_step (by apply_rules [HB.out, below_alloc, pw_below_drewN, below_drew1, below_set, GE806.out, GE807.out, GE808.out]) hb); (try clear hb)) | ((with_reducible refine gate_callee (f := 51) rfl ?_); refine goesK (some 96) Tryz.func51 [.string t822, .string t823] rfl rfl ?_; (with_reducible refine (whole_Compare.calls t822 t823 t842 _ A17.out).mono ?_); rintro e w57 ⟨rfl, hb⟩; refine ⟨_, rfl, ?_⟩; replace HO812 := Aside0.mk (Kd.V_below (by apply_rules [HO812.out, Kd.V_alloc, Kd.V_drewN, Kd.V_drew]) hb); replace HO815 := Aside0.mk (Kd.R_below (by apply_rules [HO815.out, Kd.R_alloc, Kd.R_drewN, Kd.R_drew]) hb); replace HO818 := Aside0.mk (Kd.R_below (by apply_rules [HO818.out, Kd.R_alloc, Kd.R_drewN, Kd.R_drew]) hb); replace HO821 := Aside0.mk (Kd.R_below (by apply_rules [HO821.out, Kd.R_alloc, Kd.R_drewN, Kd.R_drew]) hb); replace HO832 := Aside0.mk (Kd.V_below (by apply_rules [HO832.out, Kd.V_alloc, Kd.V_drewN, Kd.V_drew]) hb); replace HO836 := Aside0.mk (Kd.V_below (by apply_rules [HO836.out, Kd.V_alloc, Kd.V_drewN, Kd.V_drew]) hb); replace BK806 := Aside0.mk (blk_below (g := gb806) (o := .cells #[.int .u8 a0_0, .int .i8 a0_1, .int .i8 a0_2, .int .i8 a0_3, .int .i8 a0_4] 50 (0, 0)) (by apply_rules [BK806.out, blk_drewN, blk_drew, blk_alloc]) hb); replace BK807 := Aside0.mk (blk_below (g := gb807) (o := .cells #[.int .i8 a1_0, .int .i8 a1_1, .int .i8 a1_2, .int .i8 a1_3] 48 (0, 0)) (by apply_rules [BK807.out, blk_drewN, blk_drew, blk_alloc]) hb); replace BK808 := Aside0.mk (blk_below (g := gb808) (o := .cells #[.int .i8 a2_0, .int .i8 a2_1, .int .i8 a2_2, .int .i8 a2_3] 48 (0, 0)) (by apply_rules [BK808.out, blk_drewN, blk_drew, blk_alloc]) hb); replace HB := Aside0.mk (below_step (by apply_rules [HB.out, below_alloc, pw_below_drewN, below_drew1, below_set, GE806.out, GE807.out, GE808.out]) hb); (try clear hb)) | (go_at_call 52; (with_reducible refine (whole_Mul.calls k t822 t841 t843 _ ?side1 A20.out).mono ?_); (case side1 => refine TabW.below hT ?_; apply_rules [HB.out, below_alloc, pw_below_drewN, below_drew1, below_set, GE806.out, GE807.out, GE808.out]); rintro e w58 ⟨rfl, hb⟩; replace HO812 := Aside0.mk (Kd.V_below (by apply_rules [HO812.out, Kd.V_alloc, Kd.V_drewN, Kd.V_drew]) hb); replace HO815 := Aside0.mk (Kd.R_below (by apply_rules [HO815.out, Kd.R_alloc, Kd.R_drewN, Kd.R_drew]) hb); replace HO818 := Aside0.mk (Kd.R_below (by apply_rules [HO818.out, Kd.R_alloc, Kd.R_drewN, Kd.R_drew]) hb); replace HO821 := Aside0.mk (Kd.R_below (by apply_rules [HO821.out, Kd.R_alloc, Kd.R_drewN, Kd.R_drew]) hb); replace HO832 := Aside0.mk (Kd.V_below (by apply_rules [HO832.out, Kd.V_alloc, Kd.V_drewN, Kd.V_drew]) hb); replace HO836 := Aside0.mk (Kd.V_below (by apply_rules [HO836.out, Kd.V_alloc, Kd.V_drewN, Kd.V_drew]) hb); replace BK806 := Aside0.mk (blk_below (g := gb806) (o := .cells #[.int .u8 a0_0, .int .i8 a0_1, .int .i8 a0_2, .int .i8 a0_3, .int .i8 a0_4] 50 (0, 0)) (by apply_rules [BK806.out, blk_drewN, blk_drew, blk_alloc]) hb); replace BK807 := Aside0.mk (blk_below (g := gb807) (o := .cells #[.int .i8 a1_0, .int .i8 a1_1, .int .i8 a1_2, .int .i8 a1_3] 48 (0, 0)) (by apply_rules [BK807.out, blk_drewN, blk_drew, blk_alloc]) hb); replace BK808 := Aside0.mk (blk_below (g := gb808) (o := .cells #[.int .i8 a2_0, .int .i8 a2_1, .int .i8 a2_2, .int .i8 a2_3] 48 (0, 0)) (by apply_rules [BK808.out, blk_drewN, blk_drew, blk_alloc]) hb); replace HB := Aside0.mk (below_step (by apply_rules [HB.out, below_alloc, pw_below_drewN, below_drew1, below_set, GE806.out, GE807.out, GE808.out]) hb); (try clear hb)) | (go_at_call 52; (with_reducible refine (whole_Mul.calls k t840 t823 t844 _ ?side1 A21.out).mono ?_); (case side1 => refine TabW.below hT ?_; apply_rules [HB.out, below_alloc, pw_below_drewN, below_drew1, below_set, GE806.out, GE807.out, GE808.out]); rintro e w59 ⟨rfl, hb⟩; replace HO812 := Aside0.mk (Kd.V_below (by apply_rules [HO812.out, Kd.V_alloc, Kd.V_drewN, Kd.V_drew]) hb); replace HO815 := Aside0.mk (Kd.R_below (by apply_rules [HO815.out, Kd.R_alloc, Kd.R_drewN, Kd.R_drew]) hb); replace HO818 := Aside0.mk (Kd.R_below (by apply_rules [HO818.out, Kd.R_alloc, Kd.R_drewN, Kd.R_drew]) hb); replace HO821 := Aside0.mk (Kd.R_below (by apply_rules [HO821.out, Kd.R_alloc, Kd.R_drewN, Kd.R_drew]) hb); replace HO832 := Aside0.mk (Kd.V_below (by apply_rules [HO832.out, Kd.V_alloc, Kd.V_drewN, Kd.V_drew]) hb); replace HO836 := Aside0.mk (Kd.V_below (by apply_rules [HO836.out, Kd.V_alloc, Kd.V_drewN, Kd.V_drew]) hb); replace BK806 := Aside0.mk (blk_below (g := gb806) (o := .cells #[.int .u8 a0_0, .int .i8 a0_1, .int .i8 a0_2, .int .i8 a0_3, .int .i8 a0_4] 50 (0, 0)) (by apply_rules [BK806.out, blk_drewN, blk_drew, blk_alloc]) hb); replace BK807 := Aside0.mk (blk_below (g := gb807) (o := .cells #[.int .i8 a1_0, .int .i8 a1_1, .int .i8 a1_2, .int .i8 a1_3] 48 (0, 0)) (by apply_rules [BK807.out, blk_drewN, blk_drew, blk_alloc]) hb); replace BK808 := Aside0.mk (blk_below (g := gb808) (o := .cells #[.int .i8 a2_0, .int .i8 a2_1, .int .i8 a2_2, .int .i8 a2_3] 48 (0, 0)) (by apply_rules [BK808.out, blk_drewN, blk_drew, blk_alloc]) hb); replace HB := Aside0.mk (below_step (by apply_rules [HB.out, below_alloc, pw_below_drewN, below_drew1, below_set, GE806.out, GE807.out, GE808.out]) hb); (try clear hb)) | (go_at_call 51; (with_reducible refine (whole_Compare.calls t843 t844 t845 _ A22.out).mono ?_); rintro e w60 ⟨rfl, hb⟩; replace HO812 := Aside0.mk (Kd.V_below (by apply_rules [HO812.out, Kd.V_alloc, Kd.V_drewN, Kd.V_drew]) hb); replace HO815 := Aside0.mk (Kd.R_below (by apply_rules [HO815.out, Kd.R_alloc, Kd.R_drewN, Kd.R_drew]) hb); replace HO818 := Aside0.mk (Kd.R_below (by apply_rules [HO818.out, Kd.R_alloc, Kd.R_drewN, Kd.R_drew]) hb); replace HO821 := Aside0.mk (Kd.R_below (by apply_rules [HO821.out, Kd.R_alloc, Kd.R_drewN, Kd.R_drew]) hb); replace HO832 := Aside0.mk (Kd.V_below (by apply_rules [HO832.out, Kd.V_alloc, Kd.V_drewN, Kd.V_drew]) hb); replace HO836 := Aside0.mk (Kd.V_below (by apply_rules [HO836.out, Kd.V_alloc, Kd.V_drewN, Kd.V_drew]) hb); replace BK806 := Aside0.mk (blk_below (g := gb806) (o := .cells #[.int .u8 a0_0, .int .i8 a0_1, .int .i8 a0_2, .int .i8 a0_3, .int .i8 a0_4] 50 (0, 0)) (by apply_rules [BK806.out, blk_drewN, blk_drew, blk_alloc]) hb); replace BK807 := Aside0.mk (blk_below (g := gb807) (o := .cells #[.int .i8 a1_0, .int .i8 a1_1, .int .i8 a1_2, .int .i8 a1_3] 48 (0, 0)) (by apply_rules [BK807.out, blk_drewN, blk_drew, blk_alloc]) hb); replace BK808 := Aside0.mk (blk_below (g := gb808) (o := .cells #[.int .i8 a2_0, .int .i8 a2_1, .int .i8 a2_2, .int .i8 a2_3] 48 (0, 0)) (by apply_rules [BK808.out, blk_drewN, blk_drew, blk_alloc]) hb); replace HB := Aside0.mk (below_step (by apply_rules [HB.out, below_alloc, pw_below_drewN, below_drew1, below_set, GE806.out, GE807.out, GE808.out]) hb); (try clear hb)) | (go_at_call 34; (with_reducible refine (schismalaw12_Same.calls k _ _ t813 _ _ t816 t846 _ ?side1 ?side2 ?side3 ?side4 A31.out).mono ?_); (case side1 => apply_rules [(Kd.R_reads' HO815.out).2.2, Kd.C_alloc, Kd.C_drewN, Kd.C_drew]); (case side2 => exact (Kd.R_reads' HO815.out).2.1); (case side3 => apply_rules [(Kd.R_reads' HO818.out).2.2, Kd.C_alloc, Kd.C_drewN, Kd.C_drew]); (case side4 => exact (Kd.R_reads' HO818.out).2.1); rintro e w' ⟨rfl, ⟨nd, rfl⟩⟩))
  go_ret
  exact ⟨by first | rfl | simp [*], by apply_rules [HB.out, below_alloc, pw_below_drewN, below_drew1, below_set, GE806.out, GE807.out, GE808.out]⟩
 ·replace c5 := Bool.eq_false_iff.mpr c5
  subst c5
  have H1 : (some false) = some r := by rw [if_neg (show ¬ (false = true) by decide)] at H; exact H
  clear H
  have H := H1
  clear H1
  exact absurd ((Option.some.inj H).trans hr) Bool.false_ne_true
end Go.Proofs.YtccebdpjdpjgnaaGreatDoor.P
