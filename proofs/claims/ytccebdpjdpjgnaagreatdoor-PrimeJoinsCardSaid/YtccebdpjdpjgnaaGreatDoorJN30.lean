/-
parts of the walks and of the plain laws: PprimeFactor Pprimefits Pprimepower
-/
import Derived.Test.YtccebdpjdpjgnaaGreatDoorJN29
set_option linter.unusedVariables false
set_option linter.unusedSimpArgs false
section
namespace Go.Proofs.YtccebdpjdpjgnaaGreatDoor.P
open Go.RowKit Go.Proofs.YtccebdpjdpjgnaaGreatDoorW.PrintWords Go.Proofs.YtccebdpjdpjgnaaGreatDoorW.PrintLast Go.Proofs.YtccebdpjdpjgnaaGreatDoorW.PrintMore
attribute [local go_sem] max2_int min2_int max_two min_two max_three min_three max_four min_four
def prime_Factor.f (k : Nat) (l0 : List Int) (a1_0 : ByteArray) (a1_1 : ByteArray) : Option (List Int × Int) := (prime_open.f k l0 a1_0 a1_1).bind fun t1051 => (if t1051 = 0 then ((fraction_Sign.f a1_0 a1_1).bind fun t1052 => (if t1052 ≤ 0 then (some (([] : List Int), 3)) else ((prime_factor.f k l0 a1_0 a1_1).bind fun bt1053 => (if bt1053.2 = true then ((prime_far.f bt1053.1).bind fun t1057 => (if t1057 = true then (some (([] : List Int), 4)) else (some (bt1053.1, 0)))) else (some (([] : List Int), 25)))))) else (some (([] : List Int), t1051)))
set_option maxHeartbeats 8000000 in
set_option maxRecDepth 100000 in
theorem prime_Factor.calls (k : Nat) (A0 : Option Addr) (c0 : Nat) (l0 : List Int) (a1_0 : ByteArray) (a1_1 : ByteArray) (r1 : List Int) (r2 : Int) (w : World) (hT : TabW w) (hr0 : Kd.C (Kd.int .i64) w A0 l0.length l0) (hc0 : l0.length ≤ c0) (h : prime_Factor.f k l0 a1_0 a1_1 = some (r1, r2)) :
  Calls Tryz.prog 78 #[.slice A0 l0.length c0, .agg #[.string a1_0, .string a1_1]] w fun e w' => ∃ v0_ : Value, e = .returned (.tuple #[v0_, .int .i64 r2]) ∧ Kd.R (Kd.int .i64) 3 w' w.heap.size (fun _ => True) v0_ r1 ∧ Below w.heap.size w w' := by
 have hu38 := Tryz.underlying38
 have HR0 := Aside0.mk hr0
 have HC0 := Aside0.mk hc0
 clear hr0 hc0
 have HB := Aside0.mk (Below.refl w.heap.size w)
 have H : ((prime_open.f k l0 a1_0 a1_1).bind fun t1051 => (if t1051 = 0 then ((fraction_Sign.f a1_0 a1_1).bind fun t1052 => (if t1052 ≤ 0 then (some (([] : List Int), 3)) else ((prime_factor.f k l0 a1_0 a1_1).bind fun bt1053 => (if bt1053.2 = true then ((prime_far.f bt1053.1).bind fun t1057 => (if t1057 = true then (some (([] : List Int), 4)) else (some (bt1053.1, 0)))) else (some (([] : List Int), 25)))))) else (some (([] : List Int), t1051)))) = some (r1, r2) := h
 clear h
 replace H := Option.bind_eq_some_iff.mp H
 obtain ⟨t1051, A30, H⟩ := H
 try dsimp only at H
 have A3 := Aside0.mk A30
 clear A30
 by_cases c4 : t1051 = 0
 ·rw [if_pos c4] at H
  have c4b0 : (t1051 == 0) = true := beq_iff_eq.mpr c4
  have c4b1 : (t1051 != 0) = false := bne_eq_false_iff_eq.mpr c4
  clear c4
  replace H := Option.bind_eq_some_iff.mp H
  obtain ⟨t1052, A50, H⟩ := H
  try dsimp only at H
  have A5 := Aside0.mk A50
  clear A50
  by_cases c6 : t1052 ≤ 0
  ·rw [if_pos c6] at H
   have c6b0 : decide (t1052 ≤ 0) = true := decide_eq_true c6
   clear c6
   simp only [Option.some.injEq, Prod.mk.injEq] at H
   obtain ⟨rfl, rfl⟩ := H
   go_enter Tryz.func78, Tryz.ntmps78
   go_wp2_with (first | ((with_reducible refine gate_dst (N := 3) rfl ?_); refine box_event ?hg (N := 3) ?hd (cs := #[.string a1_0, .string a1_1]) (t := 38) ?hr ?_; (case hd => rfl); (case hg => rfl); (case hr => go_simp; try rfl); intro gb1050 hg w7 hbox hb; have n0_ := Aside0.mk (below_step (by apply_rules [HB.out, below_alloc, pw_below_drewN, below_drew1]) hb); have n1_ := Aside0.mk (hbox); have n2_ := Aside0.mk ((by rw [hg]; exact (below_size (by apply_rules [HB.out, below_alloc, pw_below_drewN, below_drew1])) : w.heap.size ≤ gb1050)); have n3_ := Aside0.mk ((by rw [hg]; exact (below_size (by apply_rules [HB.out, below_alloc, pw_below_drewN, below_drew1])) : w.heap.size ≤ gb1050)); clear HB; have HB := n0_; have BK1050 := n1_; have GW1050 := n2_; have GE1050 := n3_; clear n0_ n1_ n2_ n3_; clear hb hbox hg; have hcz8_0 : w7.cell? ⟨gb1050, 0, none⟩ = some (.string a1_0) := (blk_cell BK1050.out 0).trans rfl; have hcz8_1 : w7.cell? ⟨gb1050, 1, none⟩ = some (.string a1_1) := (blk_cell BK1050.out 1).trans rfl; have hfz8_0 := blk_frozen BK1050.out 0; have hfz8_1 := blk_frozen BK1050.out 1) | ((with_reducible refine gate_callee (f := 137) rfl ?_); refine goesK (some 11) Tryz.func137 [.slice A0 l0.length c0, .agg #[.string a1_0, .string a1_1]] rfl rfl ?_; (with_reducible refine (prime_open.calls k _ _ l0 a1_0 a1_1 t1051 _ ?side1 ?side2 ?side3 A3.out).mono ?_); (case side1 => refine TabW.below hT ?_; apply_rules [HB.out, below_alloc, pw_below_drewN, below_drew1, below_set, GE1050.out]); (case side2 => apply_rules [(Kd.C_below HR0.out HB.out), Kd.C_alloc, Kd.C_drewN, Kd.C_drew]); (case side3 => exact HC0.out); rintro e w9 ⟨rfl, hb⟩; refine ⟨_, rfl, ?_⟩; replace BK1050 := Aside0.mk (blk_below (g := gb1050) (o := .cells #[.string a1_0, .string a1_1] 38 (0, 0)) (by apply_rules [BK1050.out, blk_drewN, blk_drew, blk_alloc]) hb); replace HB := Aside0.mk (below_step (by apply_rules [HB.out, below_alloc, pw_below_drewN, below_drew1, below_set, GE1050.out]) hb); (try clear hb); have hcz10_0 : w9.cell? ⟨gb1050, 0, none⟩ = some (.string a1_0) := (blk_cell BK1050.out 0).trans rfl; have hcz10_1 : w9.cell? ⟨gb1050, 1, none⟩ = some (.string a1_1) := (blk_cell BK1050.out 1).trans rfl; have hfz10_0 := blk_frozen BK1050.out 0; have hfz10_1 := blk_frozen BK1050.out 1) | ((with_reducible refine gate_callee (f := 99) rfl ?_); refine goesK (some 16) Tryz.func99 [.agg #[.string a1_0, .string a1_1]] rfl rfl ?_; (with_reducible refine (fraction_Sign.calls a1_0 a1_1 t1052 _ A5.out).mono ?_); rintro e w11 ⟨rfl, hb⟩; refine ⟨_, rfl, ?_⟩; replace BK1050 := Aside0.mk (blk_below (g := gb1050) (o := .cells #[.string a1_0, .string a1_1] 38 (0, 0)) (by apply_rules [BK1050.out, blk_drewN, blk_drew, blk_alloc]) hb); replace HB := Aside0.mk (below_step (by apply_rules [HB.out, below_alloc, pw_below_drewN, below_drew1, below_set, GE1050.out]) hb); (try clear hb)))
   go_ret2
   exact ⟨(.slice none 0 0), by first | rfl | simp [*], by first | exact Kd.R_nil _ _ _ _ _ | exact Kd.N_nil _ _ _ _ _ | exact Kd.V_nil _ _ _ _ _ | exact Kd.Q_nil _ _ _ _ _ | exact Kd.S_nil _ _ _ _ _, by apply_rules [HB.out, below_alloc, pw_below_drewN, below_drew1, below_set, GE1050.out]⟩
  ·rw [if_neg c6] at H
   have c6b0 : decide (t1052 ≤ 0) = false := decide_eq_false c6
   clear c6
   replace H := Option.bind_eq_some_iff.mp H
   obtain ⟨⟨t1053, t1056⟩, A120, H⟩ := H
   try dsimp only at H
   have A12 := Aside0.mk A120
   clear A120
   by_cases c13 : t1056 = true
   ·subst c13
    have H1 : ((prime_far.f t1053).bind fun t1057 => (if t1057 = true then (some (([] : List Int), 4)) else (some (t1053, 0)))) = some (r1, r2) := by rw [if_pos rfl] at H; exact H
    clear H
    have H := H1
    clear H1
    replace H := Option.bind_eq_some_iff.mp H
    obtain ⟨t1057, A140, H⟩ := H
    try dsimp only at H
    have A14 := Aside0.mk A140
    clear A140
    by_cases c15 : t1057 = true
    ·subst c15
     have H1 : (some (([] : List Int), 4)) = some (r1, r2) := by rw [if_pos rfl] at H; exact H
     clear H
     have H := H1
     clear H1
     simp only [Option.some.injEq, Prod.mk.injEq] at H
     obtain ⟨rfl, rfl⟩ := H
     go_enter Tryz.func78, Tryz.ntmps78
     go_wp2_with (first | ((with_reducible refine gate_dst (N := 3) rfl ?_); refine box_event ?hg (N := 3) ?hd (cs := #[.string a1_0, .string a1_1]) (t := 38) ?hr ?_; (case hd => rfl); (case hg => rfl); (case hr => go_simp; try rfl); intro gb1050 hg w16 hbox hb; have n0_ := Aside0.mk (below_step (by apply_rules [HB.out, below_alloc, pw_below_drewN, below_drew1]) hb); have n1_ := Aside0.mk (hbox); have n2_ := Aside0.mk ((by rw [hg]; exact (below_size (by apply_rules [HB.out, below_alloc, pw_below_drewN, below_drew1])) : w.heap.size ≤ gb1050)); have n3_ := Aside0.mk ((by rw [hg]; exact (below_size (by apply_rules [HB.out, below_alloc, pw_below_drewN, below_drew1])) : w.heap.size ≤ gb1050)); clear HB; have HB := n0_; have BK1050 := n1_; have GW1050 := n2_; have GE1050 := n3_; clear n0_ n1_ n2_ n3_; clear hb hbox hg; have hcz17_0 : w16.cell? ⟨gb1050, 0, none⟩ = some (.string a1_0) := (blk_cell BK1050.out 0).trans rfl; have hcz17_1 : w16.cell? ⟨gb1050, 1, none⟩ = some (.string a1_1) := (blk_cell BK1050.out 1).trans rfl; have hfz17_0 := blk_frozen BK1050.out 0; have hfz17_1 := blk_frozen BK1050.out 1) | ((with_reducible refine gate_callee (f := 137) rfl ?_); refine goesK (some 11) Tryz.func137 [.slice A0 l0.length c0, .agg #[.string a1_0, .string a1_1]] rfl rfl ?_; (with_reducible refine (prime_open.calls k _ _ l0 a1_0 a1_1 t1051 _ ?side1 ?side2 ?side3 A3.out).mono ?_); (case side1 => refine TabW.below hT ?_; apply_rules [HB.out, below_alloc, pw_below_drewN, below_drew1, below_set, GE1050.out]); (case side2 => apply_rules [(Kd.C_below HR0.out HB.out), Kd.C_alloc, Kd.C_drewN, Kd.C_drew]); (case side3 => exact HC0.out); rintro e w18 ⟨rfl, hb⟩; refine ⟨_, rfl, ?_⟩; replace BK1050 := Aside0.mk (blk_below (g := gb1050) (o := .cells #[.string a1_0, .string a1_1] 38 (0, 0)) (by apply_rules [BK1050.out, blk_drewN, blk_drew, blk_alloc]) hb); replace HB := Aside0.mk (below_step (by apply_rules [HB.out, below_alloc, pw_below_drewN, below_drew1, below_set, GE1050.out]) hb); (try clear hb); have hcz19_0 : w18.cell? ⟨gb1050, 0, none⟩ = some (.string a1_0) := (blk_cell BK1050.out 0).trans rfl; have hcz19_1 : w18.cell? ⟨gb1050, 1, none⟩ = some (.string a1_1) := (blk_cell BK1050.out 1).trans rfl; have hfz19_0 := blk_frozen BK1050.out 0; have hfz19_1 := blk_frozen BK1050.out 1) | ((with_reducible refine gate_callee (f := 99) rfl ?_); refine goesK (some 16) Tryz.func99 [.agg #[.string a1_0, .string a1_1]] rfl rfl ?_; (with_reducible refine (fraction_Sign.calls a1_0 a1_1 t1052 _ A5.out).mono ?_); rintro e w20 ⟨rfl, hb⟩; refine ⟨_, rfl, ?_⟩; replace BK1050 := Aside0.mk (blk_below (g := gb1050) (o := .cells #[.string a1_0, .string a1_1] 38 (0, 0)) (by apply_rules [BK1050.out, blk_drewN, blk_drew, blk_alloc]) hb); replace HB := Aside0.mk (below_step (by apply_rules [HB.out, below_alloc, pw_below_drewN, below_drew1, below_set, GE1050.out]) hb); (try clear hb); have hcz21_0 : w20.cell? ⟨gb1050, 0, none⟩ = some (.string a1_0) := (blk_cell BK1050.out 0).trans rfl; have hcz21_1 : w20.cell? ⟨gb1050, 1, none⟩ = some (.string a1_1) := (blk_cell BK1050.out 1).trans rfl; have hfz21_0 := blk_frozen BK1050.out 0; have hfz21_1 := blk_frozen BK1050.out 1) | ((with_reducible refine gate_callee (f := 138) rfl ?_); refine goesK (some 21) Tryz.func138 [.slice A0 l0.length c0, .agg #[.string a1_0, .string a1_1]] rfl rfl ?_; (with_reducible refine (prime_factor.calls k _ _ l0 a1_0 a1_1 t1053 true _ ?side1 ?side2 ?side3 A12.out).mono ?_); (case side1 => refine TabW.below hT ?_; apply_rules [HB.out, below_alloc, pw_below_drewN, below_drew1, below_set, GE1050.out]); (case side2 => apply_rules [(Kd.C_below HR0.out HB.out), Kd.C_alloc, Kd.C_drewN, Kd.C_drew]); (case side3 => exact HC0.out); rintro e w22 ⟨v1054, rfl, ho0, hb⟩; refine ⟨_, rfl, ?_⟩; have HO1055 := Aside0.mk (Kd.R_lower ho0 (below_size (by apply_rules [HB.out, below_alloc, pw_below_drewN, below_drew1, below_set, GE1050.out]))); replace BK1050 := Aside0.mk (blk_below (g := gb1050) (o := .cells #[.string a1_0, .string a1_1] 38 (0, 0)) (by apply_rules [BK1050.out, blk_drewN, blk_drew, blk_alloc]) hb); replace HB := Aside0.mk (below_step (by apply_rules [HB.out, below_alloc, pw_below_drewN, below_drew1, below_set, GE1050.out]) hb); (try clear hb); (try clear ho0); obtain ⟨Ao23, co23, eo23⟩ := Kd.R_slice HO1055.out; subst eo23) | ((with_reducible refine gate_callee (f := 139) rfl ?_); refine goesK (some 27) Tryz.func139 [.slice Ao23 t1053.length co23] rfl rfl ?_; (with_reducible refine (prime_far.calls _ _ t1053 true _ ?side1 ?side2 A14.out).mono ?_); (case side1 => apply_rules [(Kd.R_reads' HO1055.out).2.2, Kd.C_alloc, Kd.C_drewN, Kd.C_drew]); (case side2 => exact (Kd.R_reads' HO1055.out).2.1); rintro e w24 ⟨rfl, hb⟩; refine ⟨_, rfl, ?_⟩; replace HO1055 := Aside0.mk (Kd.R_below (by apply_rules [HO1055.out, Kd.R_alloc, Kd.R_drewN, Kd.R_drew]) hb); replace BK1050 := Aside0.mk (blk_below (g := gb1050) (o := .cells #[.string a1_0, .string a1_1] 38 (0, 0)) (by apply_rules [BK1050.out, blk_drewN, blk_drew, blk_alloc]) hb); replace HB := Aside0.mk (below_step (by apply_rules [HB.out, below_alloc, pw_below_drewN, below_drew1, below_set, GE1050.out]) hb); (try clear hb)))
     go_ret2
     exact ⟨(.slice none 0 0), by first | rfl | simp [*], by first | exact Kd.R_nil _ _ _ _ _ | exact Kd.N_nil _ _ _ _ _ | exact Kd.V_nil _ _ _ _ _ | exact Kd.Q_nil _ _ _ _ _ | exact Kd.S_nil _ _ _ _ _, by apply_rules [HB.out, below_alloc, pw_below_drewN, below_drew1, below_set, GE1050.out]⟩
    ·replace c15 := Bool.eq_false_iff.mpr c15
     subst c15
     have H1 : (some (t1053, 0)) = some (r1, r2) := by rw [if_neg (show ¬ (false = true) by decide)] at H; exact H
     clear H
     have H := H1
     clear H1
     simp only [Option.some.injEq, Prod.mk.injEq] at H
     obtain ⟨rfl, rfl⟩ := H
     go_enter Tryz.func78, Tryz.ntmps78
     go_wp2_with (first | ((with_reducible refine gate_dst (N := 3) rfl ?_); refine box_event ?hg (N := 3) ?hd (cs := #[.string a1_0, .string a1_1]) (t := 38) ?hr ?_; (case hd => rfl); (case hg => rfl); (case hr => go_simp; try rfl); intro gb1050 hg w25 hbox hb; have n0_ := Aside0.mk (below_step (by apply_rules [HB.out, below_alloc, pw_below_drewN, below_drew1]) hb); have n1_ := Aside0.mk (hbox); have n2_ := Aside0.mk ((by rw [hg]; exact (below_size (by apply_rules [HB.out, below_alloc, pw_below_drewN, below_drew1])) : w.heap.size ≤ gb1050)); have n3_ := Aside0.mk ((by rw [hg]; exact (below_size (by apply_rules [HB.out, below_alloc, pw_below_drewN, below_drew1])) : w.heap.size ≤ gb1050)); clear HB; have HB := n0_; have BK1050 := n1_; have GW1050 := n2_; have GE1050 := n3_; clear n0_ n1_ n2_ n3_; clear hb hbox hg; have hcz26_0 : w25.cell? ⟨gb1050, 0, none⟩ = some (.string a1_0) := (blk_cell BK1050.out 0).trans rfl; have hcz26_1 : w25.cell? ⟨gb1050, 1, none⟩ = some (.string a1_1) := (blk_cell BK1050.out 1).trans rfl; have hfz26_0 := blk_frozen BK1050.out 0; have hfz26_1 := blk_frozen BK1050.out 1) | ((with_reducible refine gate_callee (f := 137) rfl ?_); refine goesK (some 11) Tryz.func137 [.slice A0 l0.length c0, .agg #[.string a1_0, .string a1_1]] rfl rfl ?_; (with_reducible refine (prime_open.calls k _ _ l0 a1_0 a1_1 t1051 _ ?side1 ?side2 ?side3 A3.out).mono ?_); (case side1 => refine TabW.below hT ?_; apply_rules [HB.out, below_alloc, pw_below_drewN, below_drew1, below_set, GE1050.out]); (case side2 => apply_rules [(Kd.C_below HR0.out HB.out), Kd.C_alloc, Kd.C_drewN, Kd.C_drew]); (case side3 => exact HC0.out); rintro e w27 ⟨rfl, hb⟩; refine ⟨_, rfl, ?_⟩; replace BK1050 := Aside0.mk (blk_below (g := gb1050) (o := .cells #[.string a1_0, .string a1_1] 38 (0, 0)) (by apply_rules [BK1050.out, blk_drewN, blk_drew, blk_alloc]) hb); replace HB := Aside0.mk (below_step (by apply_rules [HB.out, below_alloc, pw_below_drewN, below_drew1, below_set, GE1050.out]) hb); (try clear hb); have hcz28_0 : w27.cell? ⟨gb1050, 0, none⟩ = some (.string a1_0) := (blk_cell BK1050.out 0).trans rfl; have hcz28_1 : w27.cell? ⟨gb1050, 1, none⟩ = some (.string a1_1) := (blk_cell BK1050.out 1).trans rfl; have hfz28_0 := blk_frozen BK1050.out 0; have hfz28_1 := blk_frozen BK1050.out 1) | ((with_reducible refine gate_callee (f := 99) rfl ?_); refine goesK (some 16) Tryz.func99 [.agg #[.string a1_0, .string a1_1]] rfl rfl ?_; (with_reducible refine (fraction_Sign.calls a1_0 a1_1 t1052 _ A5.out).mono ?_); rintro e w29 ⟨rfl, hb⟩; refine ⟨_, rfl, ?_⟩; replace BK1050 := Aside0.mk (blk_below (g := gb1050) (o := .cells #[.string a1_0, .string a1_1] 38 (0, 0)) (by apply_rules [BK1050.out, blk_drewN, blk_drew, blk_alloc]) hb); replace HB := Aside0.mk (below_step (by apply_rules [HB.out, below_alloc, pw_below_drewN, below_drew1, below_set, GE1050.out]) hb); (try clear hb); have hcz30_0 : w29.cell? ⟨gb1050, 0, none⟩ = some (.string a1_0) := (blk_cell BK1050.out 0).trans rfl; have hcz30_1 : w29.cell? ⟨gb1050, 1, none⟩ = some (.string a1_1) := (blk_cell BK1050.out 1).trans rfl; have hfz30_0 := blk_frozen BK1050.out 0; have hfz30_1 := blk_frozen BK1050.out 1) | ((with_reducible refine gate_callee (f := 138) rfl ?_); refine goesK (some 21) Tryz.func138 [.slice A0 l0.length c0, .agg #[.string a1_0, .string a1_1]] rfl rfl ?_; (with_reducible refine (prime_factor.calls k _ _ l0 a1_0 a1_1 t1053 true _ ?side1 ?side2 ?side3 A12.out).mono ?_); (case side1 => refine TabW.below hT ?_; apply_rules [HB.out, below_alloc, pw_below_drewN, below_drew1, below_set, GE1050.out]); (case side2 => apply_rules [(Kd.C_below HR0.out HB.out), Kd.C_alloc, Kd.C_drewN, Kd.C_drew]); (case side3 => exact HC0.out); rintro e w31 ⟨v1054, rfl, ho0, hb⟩; refine ⟨_, rfl, ?_⟩; have HO1055 := Aside0.mk (Kd.R_lower ho0 (below_size (by apply_rules [HB.out, below_alloc, pw_below_drewN, below_drew1, below_set, GE1050.out]))); replace BK1050 := Aside0.mk (blk_below (g := gb1050) (o := .cells #[.string a1_0, .string a1_1] 38 (0, 0)) (by apply_rules [BK1050.out, blk_drewN, blk_drew, blk_alloc]) hb); replace HB := Aside0.mk (below_step (by apply_rules [HB.out, below_alloc, pw_below_drewN, below_drew1, below_set, GE1050.out]) hb); (try clear hb); (try clear ho0); obtain ⟨Ao32, co32, eo32⟩ := Kd.R_slice HO1055.out; subst eo32) | ((with_reducible refine gate_callee (f := 139) rfl ?_); refine goesK (some 27) Tryz.func139 [.slice Ao32 t1053.length co32] rfl rfl ?_; (with_reducible refine (prime_far.calls _ _ t1053 false _ ?side1 ?side2 A14.out).mono ?_); (case side1 => apply_rules [(Kd.R_reads' HO1055.out).2.2, Kd.C_alloc, Kd.C_drewN, Kd.C_drew]); (case side2 => exact (Kd.R_reads' HO1055.out).2.1); rintro e w33 ⟨rfl, hb⟩; refine ⟨_, rfl, ?_⟩; replace HO1055 := Aside0.mk (Kd.R_below (by apply_rules [HO1055.out, Kd.R_alloc, Kd.R_drewN, Kd.R_drew]) hb); replace BK1050 := Aside0.mk (blk_below (g := gb1050) (o := .cells #[.string a1_0, .string a1_1] 38 (0, 0)) (by apply_rules [BK1050.out, blk_drewN, blk_drew, blk_alloc]) hb); replace HB := Aside0.mk (below_step (by apply_rules [HB.out, below_alloc, pw_below_drewN, below_drew1, below_set, GE1050.out]) hb); (try clear hb)))
     go_ret2
     exact ⟨_, by first | rfl | simp [*], by (with_reducible repeat (first | apply Kd.R_alloc | apply Kd.R_drewN | apply Kd.R_drew)); exact HO1055.out, by apply_rules [HB.out, below_alloc, pw_below_drewN, below_drew1, below_set, GE1050.out]⟩
   ·replace c13 := Bool.eq_false_iff.mpr c13
    subst c13
    have H1 : (some (([] : List Int), 25)) = some (r1, r2) := by rw [if_neg (show ¬ (false = true) by decide)] at H; exact H
    clear H
    have H := H1
    clear H1
    simp only [Option.some.injEq, Prod.mk.injEq] at H
    obtain ⟨rfl, rfl⟩ := H
    go_enter Tryz.func78, Tryz.ntmps78
    go_wp2_with (first | ((with_reducible refine gate_dst (N := 3) rfl ?_); refine box_event ?hg (N := 3) ?hd (cs := #[.string a1_0, .string a1_1]) (t := 38) ?hr ?_; (case hd => rfl); (case hg => rfl); (case hr => go_simp; try rfl); intro gb1050 hg w34 hbox hb; have n0_ := Aside0.mk (below_step (by apply_rules [HB.out, below_alloc, pw_below_drewN, below_drew1]) hb); have n1_ := Aside0.mk (hbox); have n2_ := Aside0.mk ((by rw [hg]; exact (below_size (by apply_rules [HB.out, below_alloc, pw_below_drewN, below_drew1])) : w.heap.size ≤ gb1050)); have n3_ := Aside0.mk ((by rw [hg]; exact (below_size (by apply_rules [HB.out, below_alloc, pw_below_drewN, below_drew1])) : w.heap.size ≤ gb1050)); clear HB; have HB := n0_; have BK1050 := n1_; have GW1050 := n2_; have GE1050 := n3_; clear n0_ n1_ n2_ n3_; clear hb hbox hg; have hcz35_0 : w34.cell? ⟨gb1050, 0, none⟩ = some (.string a1_0) := (blk_cell BK1050.out 0).trans rfl; have hcz35_1 : w34.cell? ⟨gb1050, 1, none⟩ = some (.string a1_1) := (blk_cell BK1050.out 1).trans rfl; have hfz35_0 := blk_frozen BK1050.out 0; have hfz35_1 := blk_frozen BK1050.out 1) | ((with_reducible refine gate_callee (f := 137) rfl ?_); refine goesK (some 11) Tryz.func137 [.slice A0 l0.length c0, .agg #[.string a1_0, .string a1_1]] rfl rfl ?_; (with_reducible refine (prime_open.calls k _ _ l0 a1_0 a1_1 t1051 _ ?side1 ?side2 ?side3 A3.out).mono ?_); (case side1 => refine TabW.below hT ?_; apply_rules [HB.out, below_alloc, pw_below_drewN, below_drew1, below_set, GE1050.out]); (case side2 => apply_rules [(Kd.C_below HR0.out HB.out), Kd.C_alloc, Kd.C_drewN, Kd.C_drew]); (case side3 => exact HC0.out); rintro e w36 ⟨rfl, hb⟩; refine ⟨_, rfl, ?_⟩; replace BK1050 := Aside0.mk (blk_below (g := gb1050) (o := .cells #[.string a1_0, .string a1_1] 38 (0, 0)) (by apply_rules [BK1050.out, blk_drewN, blk_drew, blk_alloc]) hb); replace HB := Aside0.mk (below_step (by apply_rules [HB.out, below_alloc, pw_below_drewN, below_drew1, below_set, GE1050.out]) hb); (try clear hb); have hcz37_0 : w36.cell? ⟨gb1050, 0, none⟩ = some (.string a1_0) := (blk_cell BK1050.out 0).trans rfl; have hcz37_1 : w36.cell? ⟨gb1050, 1, none⟩ = some (.string a1_1) := (blk_cell BK1050.out 1).trans rfl; have hfz37_0 := blk_frozen BK1050.out 0; have hfz37_1 := blk_frozen BK1050.out 1) | ((with_reducible refine gate_callee (f := 99) rfl ?_); refine goesK (some 16) Tryz.func99 [.agg #[.string a1_0, .string a1_1]] rfl rfl ?_; (with_reducible refine (fraction_Sign.calls a1_0 a1_1 t1052 _ A5.out).mono ?_); rintro e w38 ⟨rfl, hb⟩; refine ⟨_, rfl, ?_⟩; replace BK1050 := Aside0.mk (blk_below (g := gb1050) (o := .cells #[.string a1_0, .string a1_1] 38 (0, 0)) (by apply_rules [BK1050.out, blk_drewN, blk_drew, blk_alloc]) hb); replace HB := Aside0.mk (below_step (by apply_rules [HB.out, below_alloc, pw_below_drewN, below_drew1, below_set, GE1050.out]) hb); (try clear hb); have hcz39_0 : w38.cell? ⟨gb1050, 0, none⟩ = some (.string a1_0) := (blk_cell BK1050.out 0).trans rfl; have hcz39_1 : w38.cell? ⟨gb1050, 1, none⟩ = some (.string a1_1) := (blk_cell BK1050.out 1).trans rfl; have hfz39_0 := blk_frozen BK1050.out 0; have hfz39_1 := blk_frozen BK1050.out 1) | ((with_reducible refine gate_callee (f := 138) rfl ?_); refine goesK (some 21) Tryz.func138 [.slice A0 l0.length c0, .agg #[.string a1_0, .string a1_1]] rfl rfl ?_; (with_reducible refine (prime_factor.calls k _ _ l0 a1_0 a1_1 t1053 false _ ?side1 ?side2 ?side3 A12.out).mono ?_); (case side1 => refine TabW.below hT ?_; apply_rules [HB.out, below_alloc, pw_below_drewN, below_drew1, below_set, GE1050.out]); (case side2 => apply_rules [(Kd.C_below HR0.out HB.out), Kd.C_alloc, Kd.C_drewN, Kd.C_drew]); (case side3 => exact HC0.out); rintro e w40 ⟨v1054, rfl, ho0, hb⟩; refine ⟨_, rfl, ?_⟩; have HO1055 := Aside0.mk (Kd.R_lower ho0 (below_size (by apply_rules [HB.out, below_alloc, pw_below_drewN, below_drew1, below_set, GE1050.out]))); replace BK1050 := Aside0.mk (blk_below (g := gb1050) (o := .cells #[.string a1_0, .string a1_1] 38 (0, 0)) (by apply_rules [BK1050.out, blk_drewN, blk_drew, blk_alloc]) hb); replace HB := Aside0.mk (below_step (by apply_rules [HB.out, below_alloc, pw_below_drewN, below_drew1, below_set, GE1050.out]) hb); (try clear hb); (try clear ho0)))
    go_ret2
    exact ⟨(.slice none 0 0), by first | rfl | simp [*], by first | exact Kd.R_nil _ _ _ _ _ | exact Kd.N_nil _ _ _ _ _ | exact Kd.V_nil _ _ _ _ _ | exact Kd.Q_nil _ _ _ _ _ | exact Kd.S_nil _ _ _ _ _, by apply_rules [HB.out, below_alloc, pw_below_drewN, below_drew1, below_set, GE1050.out]⟩
 ·rw [if_neg c4] at H
  have c4b0 : (t1051 == 0) = false := beq_eq_false_iff_ne.mpr c4
  have c4b1 : (t1051 != 0) = true := bne_iff_ne.mpr c4
  simp only [Option.some.injEq, Prod.mk.injEq] at H
  obtain ⟨rfl, rfl⟩ := H
  go_enter Tryz.func78, Tryz.ntmps78
  go_wp2_with (first | ((with_reducible refine gate_dst (N := 3) rfl ?_); refine box_event ?hg (N := 3) ?hd (cs := #[.string a1_0, .string a1_1]) (t := 38) ?hr ?_; (case hd => rfl); (case hg => rfl); (case hr => go_simp; try rfl); intro gb1050 hg w41 hbox hb; have n0_ := Aside0.mk (below_step (by apply_rules [HB.out, below_alloc, pw_below_drewN, below_drew1]) hb); have n1_ := Aside0.mk (hbox); have n2_ := Aside0.mk ((by rw [hg]; exact (below_size (by apply_rules [HB.out, below_alloc, pw_below_drewN, below_drew1])) : w.heap.size ≤ gb1050)); have n3_ := Aside0.mk ((by rw [hg]; exact (below_size (by apply_rules [HB.out, below_alloc, pw_below_drewN, below_drew1])) : w.heap.size ≤ gb1050)); clear HB; have HB := n0_; have BK1050 := n1_; have GW1050 := n2_; have GE1050 := n3_; clear n0_ n1_ n2_ n3_; clear hb hbox hg; have hcz42_0 : w41.cell? ⟨gb1050, 0, none⟩ = some (.string a1_0) := (blk_cell BK1050.out 0).trans rfl; have hcz42_1 : w41.cell? ⟨gb1050, 1, none⟩ = some (.string a1_1) := (blk_cell BK1050.out 1).trans rfl; have hfz42_0 := blk_frozen BK1050.out 0; have hfz42_1 := blk_frozen BK1050.out 1) | ((with_reducible refine gate_callee (f := 137) rfl ?_); refine goesK (some 11) Tryz.func137 [.slice A0 l0.length c0, .agg #[.string a1_0, .string a1_1]] rfl rfl ?_; (with_reducible refine (prime_open.calls k _ _ l0 a1_0 a1_1 t1051 _ ?side1 ?side2 ?side3 A3.out).mono ?_); (case side1 => refine TabW.below hT ?_; apply_rules [HB.out, below_alloc, pw_below_drewN, below_drew1, below_set, GE1050.out]); (case side2 => apply_rules [(Kd.C_below HR0.out HB.out), Kd.C_alloc, Kd.C_drewN, Kd.C_drew]); (case side3 => exact HC0.out); rintro e w43 ⟨rfl, hb⟩; refine ⟨_, rfl, ?_⟩; replace BK1050 := Aside0.mk (blk_below (g := gb1050) (o := .cells #[.string a1_0, .string a1_1] 38 (0, 0)) (by apply_rules [BK1050.out, blk_drewN, blk_drew, blk_alloc]) hb); replace HB := Aside0.mk (below_step (by apply_rules [HB.out, below_alloc, pw_below_drewN, below_drew1, below_set, GE1050.out]) hb); (try clear hb)))
  go_ret2
  exact ⟨(.slice none 0 0), by first | rfl | simp [*], by first | exact Kd.R_nil _ _ _ _ _ | exact Kd.N_nil _ _ _ _ _ | exact Kd.V_nil _ _ _ _ _ | exact Kd.Q_nil _ _ _ _ _ | exact Kd.S_nil _ _ _ _ _, by apply_rules [HB.out, below_alloc, pw_below_drewN, below_drew1, below_set, GE1050.out]⟩
def prime_fits.f (l0 : List Int) (l1 : List Int) : Option (Int) := if (l1.length : Int) = (l0.length : Int) then ((prime_far.f l1).bind fun t1058 => (if t1058 = true then (some 4) else (some 0))) else (some 5)
set_option maxHeartbeats 8000000 in
set_option maxRecDepth 100000 in
theorem prime_fits.calls (A0 : Option Addr) (c0 : Nat) (l0 : List Int) (A1 : Option Addr) (c1 : Nat) (l1 : List Int) (r : Int) (w : World) (hr0 : Kd.C (Kd.int .i64) w A0 l0.length l0) (hc0 : l0.length ≤ c0) (hr1 : Kd.C (Kd.int .i64) w A1 l1.length l1) (hc1 : l1.length ≤ c1) (h : prime_fits.f l0 l1 = some r) :
  Calls Tryz.prog 128 #[.slice A0 l0.length c0, .slice A1 l1.length c1] w fun e w' => e = .returned (.int .i64 r) ∧ Below w.heap.size w w' := by
 have HR0 := Aside0.mk hr0
 have HC0 := Aside0.mk hc0
 clear hr0 hc0
 have HR1 := Aside0.mk hr1
 have HC1 := Aside0.mk hc1
 clear hr1 hc1
 have HB := Aside0.mk (Below.refl w.heap.size w)
 have H : (if (l1.length : Int) = (l0.length : Int) then ((prime_far.f l1).bind fun t1058 => (if t1058 = true then (some 4) else (some 0))) else (some 5)) = some r := h
 clear h
 by_cases c3 : (l1.length : Int) = (l0.length : Int)
 ·rw [if_pos c3] at H
  have c3b0 : ((l1.length : Int) == (l0.length : Int)) = true := beq_iff_eq.mpr c3
  have c3b1 : ((l1.length : Int) != (l0.length : Int)) = false := bne_eq_false_iff_eq.mpr c3
  have c3b2 : (l1.length == l0.length) = true := by first | simpa using c3 | (simp at c3 ⊢; omega)
  clear c3
  replace H := Option.bind_eq_some_iff.mp H
  obtain ⟨t1058, A40, H⟩ := H
  try dsimp only at H
  have A4 := Aside0.mk A40
  clear A40
  by_cases c5 : t1058 = true
  ·subst c5
   have H1 : (some 4) = some r := by rw [if_pos rfl] at H; exact H
   clear H
   have H := H1
   clear H1
   obtain rfl := Option.some.inj H
   go_enter Tryz.func128, Tryz.ntmps128
   go_wp2_with (first | ((with_reducible refine gate_callee (f := 139) rfl ?_); refine goesK (some 13) Tryz.func139 [.slice A1 l1.length c1] rfl rfl ?_; (with_reducible refine (prime_far.calls _ _ l1 true _ ?side1 ?side2 A4.out).mono ?_); (case side1 => apply_rules [HR1.out, Kd.C_alloc, Kd.C_drewN, Kd.C_drew]); (case side2 => exact HC1.out); rintro e w6 ⟨rfl, hb⟩; refine ⟨_, rfl, ?_⟩; replace HB := Aside0.mk (below_step (by apply_rules [HB.out, below_alloc, pw_below_drewN, below_drew1]) hb); (try clear hb)))
   go_ret
   exact ⟨by first | rfl | simp [*], by apply_rules [HB.out, below_alloc, pw_below_drewN, below_drew1]⟩
  ·replace c5 := Bool.eq_false_iff.mpr c5
   subst c5
   have H1 : (some 0) = some r := by rw [if_neg (show ¬ (false = true) by decide)] at H; exact H
   clear H
   have H := H1
   clear H1
   obtain rfl := Option.some.inj H
   go_enter Tryz.func128, Tryz.ntmps128
   go_wp2_with (first | ((with_reducible refine gate_callee (f := 139) rfl ?_); refine goesK (some 13) Tryz.func139 [.slice A1 l1.length c1] rfl rfl ?_; (with_reducible refine (prime_far.calls _ _ l1 false _ ?side1 ?side2 A4.out).mono ?_); (case side1 => apply_rules [HR1.out, Kd.C_alloc, Kd.C_drewN, Kd.C_drew]); (case side2 => exact HC1.out); rintro e w7 ⟨rfl, hb⟩; refine ⟨_, rfl, ?_⟩; replace HB := Aside0.mk (below_step (by apply_rules [HB.out, below_alloc, pw_below_drewN, below_drew1]) hb); (try clear hb)))
   go_ret
   exact ⟨by first | rfl | simp [*], by apply_rules [HB.out, below_alloc, pw_below_drewN, below_drew1]⟩
 ·rw [if_neg c3] at H
  have c3b0 : ((l1.length : Int) == (l0.length : Int)) = false := beq_eq_false_iff_ne.mpr c3
  have c3b1 : ((l1.length : Int) != (l0.length : Int)) = true := bne_iff_ne.mpr c3
  have c3b2 : (l1.length == l0.length) = false := by first | simpa using c3 | (simp at c3 ⊢; omega)
  obtain rfl := Option.some.inj H
  go_enter Tryz.func128, Tryz.ntmps128
  go_wp2
  go_ret
  exact ⟨by first | rfl | simp [*], by apply_rules [HB.out, below_alloc, pw_below_drewN, below_drew1]⟩
end Go.Proofs.YtccebdpjdpjgnaaGreatDoor.P
end
section
namespace Go.Proofs.YtccebdpjdpjgnaaGreatDoor.P
open Go.RowKit Go.Proofs.YtccebdpjdpjgnaaGreatDoorW.PrintWords Go.Proofs.YtccebdpjdpjgnaaGreatDoorW.PrintLast Go.Proofs.YtccebdpjdpjgnaaGreatDoorW.PrintMore
attribute [local go_sem] max2_int min2_int max_two min_two max_three min_three max_four min_four
mutual
def prime_power.l0 : Nat → List Int → Int → ByteArray → List Int → Int → Int → Option (ByteArray × Bool)
 | 0, _, _, _, _, _, _ => none
 | k + 1, x1, x2, x8, x11, x12, x13 => if x13 < x12 then (if 0 ≤ x13 then (if x13 < (x11.length : Int) then (if x13 < (x1.length : Int) then (prime_power.l1 k x1 x2 x8 (rd x11 x13) x11 x12 x13 (mx (wrap64 (x2 * (rd x1 x13))) 0) 0) else (none)) else (none)) else (none)) else (some (x8, true))
def prime_power.l1 : Nat → List Int → Int → ByteArray → Int → List Int → Int → Int → Int → Int → Option (ByteArray × Bool)
 | 0, _, _, _, _, _, _, _, _, _ => none
 | k + 1, x1, x2, x8, x10, x11, x12, x13, x24, x25 => if x25 < x24 then ((whole_Of.f x10).bind fun t1061 => ((whole_Mul.f k x8 t1061).bind fun t1062 => (if (t1062.size : Int) > 400 then (some ((⟨#[]⟩ : ByteArray), false)) else (prime_power.l1 k x1 x2 t1062 x10 x11 x12 x13 x24 (wrap64 (x25 + 1)))))) else (prime_power.l0 k x1 x2 x8 x11 x12 (wrap64 (x13 + 1)))
end
def prime_power.f (k : Nat) (l0 : List Int) (l1 : List Int) (a2 : Int) : Option (ByteArray × Bool) := prime_power.l0 k l1 a2 (⟨#[49]⟩ : ByteArray) l0 (l0.length : Int) 0
set_option maxHeartbeats 8000000 in
set_option maxRecDepth 100000 in
theorem prime_power.calls (k : Nat) (A0 : Option Addr) (c0 : Nat) (l0 : List Int) (A1 : Option Addr) (c1 : Nat) (l1 : List Int) (a2 : Int) (r1 : ByteArray) (r2 : Bool) (w : World) (hT : TabW w) (hr0 : Kd.C (Kd.int .i64) w A0 l0.length l0) (hc0 : l0.length ≤ c0) (hr1 : Kd.C (Kd.int .i64) w A1 l1.length l1) (hc1 : l1.length ≤ c1) (h : prime_power.f k l0 l1 a2 = some (r1, r2)) :
  Calls Tryz.prog 140 #[.slice A0 l0.length c0, .slice A1 l1.length c1, .int .i64 a2] w fun e w' => e = .returned (.tuple #[.string r1, .bool r2]) ∧ Below w.heap.size w w' := by
 have HR0 := Aside0.mk hr0
 have HC0 := Aside0.mk hc0
 clear hr0 hc0
 have HR1 := Aside0.mk hr1
 have HC1 := Aside0.mk hc1
 clear hr1 hc1
 have HB := Aside0.mk (Below.refl w.heap.size w)
 have H : (prime_power.l0 k l1 a2 (⟨#[49]⟩ : ByteArray) l0 (l0.length : Int) 0) = some (r1, r2) := h
 clear h
 have H' := Aside0.mk H
 clear H
 go_enter Tryz.func140, Tryz.ntmps140
 go_wp2
 go_loopg [8, 13] k (fun kq v8 v13 w' => ∃ (x8_1 : ByteArray) (x13_1 : Int), v8 = .string x8_1 ∧ v13 = .int .i64 x13_1 ∧ Aside0 (prime_power.l0 kq l1 a2 x8_1 l0 (l0.length : Int) x13_1 = some (r1, r2)) ∧ Aside0 (kq ≤ k) ∧ Aside0 (Below w.heap.size w w'))
 case atStart => exact ⟨((⟨#[49]⟩ : ByteArray)), (0), (by first | rfl | (simp; done) | (simp [*]; done)), (by first | rfl | (simp; done) | (simp [*]; done)), H', ⟨Nat.le_refl _⟩, ⟨by apply_rules [HB.out, below_alloc, pw_below_drewN, below_drew1]⟩⟩
 case round =>
  clear H'
  obtain ⟨x8_1, x13_1, rfl, rfl, HA, HK1, HB⟩ := hrel
  cases gk with
  | zero => exact absurd HA.out (by simp [prime_power.l0])
  | succ k1 =>
   have H := HA.out
   clear HA
   simp only [prime_power.l0] at H
   by_cases c4 : x13_1 < (l0.length : Int)
   ·rw [if_pos c4] at H
    have c4b0 : decide (x13_1 < (l0.length : Int)) = true := decide_eq_true c4
    clear c4
    by_cases c5 : 0 ≤ x13_1
    case neg => rw [if_neg c5] at H; exact absurd H (by simp)
    rw [if_pos c5] at H
    have c5b0 : decide (0 ≤ x13_1) = true := decide_eq_true c5
    clear c5
    by_cases c6 : x13_1 < (l0.length : Int)
    case neg => rw [if_neg c6] at H; exact absurd H (by simp)
    rw [if_pos c6] at H
    have c6b0 : decide (x13_1 < (l0.length : Int)) = true := decide_eq_true c6
    clear c6
    by_cases c7 : x13_1 < (l1.length : Int)
    case neg => rw [if_neg c7] at H; exact absurd H (by simp)
    rw [if_pos c7] at H
    have c7b0 : decide (x13_1 < (l1.length : Int)) = true := decide_eq_true c7
    clear c7
    obtain ⟨ji8, hji8⟩ : ∃ j_ : Int, (mx (wrap64 (a2 * (rd l1 x13_1))) 0) = j_ := ⟨_, rfl⟩
    replace H : (prime_power.l1 k1 l1 a2 x8_1 (rd l0 x13_1) l0 (l0.length : Int) x13_1 ji8 0) = some (r1, r2) := by first | (rw [hji8] at H; exact H) | (simp only [hji8] at H ⊢; exact H)
    have hji8_ : (if (wrap64 (a2 * (rd l1 x13_1))) < 0 then 0 else (wrap64 (a2 * (rd l1 x13_1)))) = ji8 := hji8
    have H' := Aside0.mk H
    clear H
    have p1059 : 0 ≤ (x13_1 : Int) := of_decide_eq_true (by assumption)
    have q1059 : x13_1 < (l0.length : Int) := of_decide_eq_true (by assumption)
    obtain ⟨ad1059, e1059, hx1059_0⟩ := Kd.at_int HR0.out x13_1 p1059 q1059
    cases e1059
    replace hx1059_0 := (HB.out.cell (World.block_lt_of_cell? w _ hx1059_0)).trans hx1059_0
    replace p1059 := eq_true p1059
    replace q1059 := eq_true q1059
    have p1060 : 0 ≤ (x13_1 : Int) := of_decide_eq_true (by assumption)
    have q1060 : x13_1 < (l1.length : Int) := of_decide_eq_true (by assumption)
    obtain ⟨ad1060, e1060, hx1060_0⟩ := Kd.at_int HR1.out x13_1 p1060 q1060
    cases e1060
    replace hx1060_0 := (HB.out.cell (World.block_lt_of_cell? w _ hx1060_0)).trans hx1060_0
    replace p1060 := eq_true p1060
    replace q1060 := eq_true q1060
    go_wp2
    go_loopg [8, 25] k1 (fun kq v8 v25 w' => ∃ (x8_2 : ByteArray) (x25_2 : Int), v8 = .string x8_2 ∧ v25 = .int .i64 x25_2 ∧ Aside0 (prime_power.l1 kq l1 a2 x8_2 (rd l0 x13_1) l0 (l0.length : Int) x13_1 ji8 x25_2 = some (r1, r2)) ∧ Aside0 (kq ≤ k1) ∧ Aside0 (Below w.heap.size w w'))
    case atStart => exact ⟨(x8_1), (0), (by first | rfl | (simp; done) | (simp [*]; done)), (by first | rfl | (simp; done) | (simp [*]; done)), H', ⟨Nat.le_refl _⟩, ⟨by apply_rules [HB.out, below_alloc, pw_below_drewN, below_drew1]⟩⟩
    case round =>
     clear H'
     obtain ⟨x8_2, x25_2, rfl, rfl, HA, HK2, HB⟩ := hrel
     cases gk with
     | zero => exact absurd HA.out (by simp [prime_power.l1])
     | succ k2 =>
      have H := HA.out
      clear HA
      simp only [prime_power.l1] at H
      by_cases c9 : x25_2 < ji8
      ·rw [if_pos c9] at H
       have c9b0 : decide (x25_2 < ji8) = true := decide_eq_true c9
       clear c9
       replace H := Option.bind_eq_some_iff.mp H
       obtain ⟨t1061, A100, H⟩ := H
       try dsimp only at H
       have A10 := Aside0.mk A100
       clear A100
       replace H := Option.bind_eq_some_iff.mp H
       obtain ⟨t1062, A110, H⟩ := H
       try dsimp only at H
       have A11 := Aside0.mk A110
       clear A110
       by_cases c12 : (t1062.size : Int) > 400
       ·rw [if_pos c12] at H
        have c12b0 : decide (400 < (t1062.size : Int)) = true := decide_eq_true c12
        have c12b1 : decide (400 < t1062.size) = true := decide_eq_true (by omega)
        clear c12
        simp only [Option.some.injEq, Prod.mk.injEq] at H
        obtain ⟨rfl, rfl⟩ := H
        go_wp2_with (first | ((with_reducible refine gate_callee (f := 104) rfl ?_); refine goesK (some 29) Tryz.func104 [.int .i64 (rd l0 x13_1)] rfl rfl ?_; (with_reducible refine (whole_Of.calls (rd l0 x13_1) t1061 _ ?side1 A10.out).mono ?_); (case side1 => refine TabW.below hT ?_; apply_rules [HB.out, below_alloc, pw_below_drewN, below_drew1]); rintro e w13 ⟨rfl, hb⟩; refine ⟨_, rfl, ?_⟩; replace HB := Aside0.mk (below_step (by apply_rules [HB.out, below_alloc, pw_below_drewN, below_drew1]) hb); (try clear hb)) | ((with_reducible refine gate_callee (f := 52) rfl ?_); refine goesK (some 30) Tryz.func52 [.string x8_2, .string t1061] rfl rfl ?_; (with_reducible refine (whole_Mul.calls k2 x8_2 t1061 t1062 _ ?side1 A11.out).mono ?_); (case side1 => refine TabW.below hT ?_; apply_rules [HB.out, below_alloc, pw_below_drewN, below_drew1]); rintro e w14 ⟨rfl, hb⟩; refine ⟨_, rfl, ?_⟩; replace HB := Aside0.mk (below_step (by apply_rules [HB.out, below_alloc, pw_below_drewN, below_drew1]) hb); (try clear hb)))
        go_ret2
        exact ⟨by first | rfl | (simp [errW_none, errW_some] <;> rfl) | (simp only [← hji8]; first | rfl | (simp [errW_none, errW_some] <;> rfl)) | (simp [*, errW_none, errW_some] <;> rfl), by apply_rules [HB.out, below_alloc, pw_below_drewN, below_drew1]⟩
       ·rw [if_neg c12] at H
        have c12b0 : decide (400 < (t1062.size : Int)) = false := decide_eq_false c12
        have c12b1 : decide (400 < t1062.size) = false := decide_eq_false (by omega)
        clear c12
        have H' := Aside0.mk H
        clear H
        go_wp2_with (first | ((with_reducible refine gate_callee (f := 104) rfl ?_); refine goesK (some 29) Tryz.func104 [.int .i64 (rd l0 x13_1)] rfl rfl ?_; (with_reducible refine (whole_Of.calls (rd l0 x13_1) t1061 _ ?side1 A10.out).mono ?_); (case side1 => refine TabW.below hT ?_; apply_rules [HB.out, below_alloc, pw_below_drewN, below_drew1]); rintro e w15 ⟨rfl, hb⟩; refine ⟨_, rfl, ?_⟩; replace HB := Aside0.mk (below_step (by apply_rules [HB.out, below_alloc, pw_below_drewN, below_drew1]) hb); (try clear hb)) | ((with_reducible refine gate_callee (f := 52) rfl ?_); refine goesK (some 30) Tryz.func52 [.string x8_2, .string t1061] rfl rfl ?_; (with_reducible refine (whole_Mul.calls k2 x8_2 t1061 t1062 _ ?side1 A11.out).mono ?_); (case side1 => refine TabW.below hT ?_; apply_rules [HB.out, below_alloc, pw_below_drewN, below_drew1]); rintro e w16 ⟨rfl, hb⟩; refine ⟨_, rfl, ?_⟩; replace HB := Aside0.mk (below_step (by apply_rules [HB.out, below_alloc, pw_below_drewN, below_drew1]) hb); (try clear hb)))
        go_roundg k2
        case measure => have := HK1.out; have := HK2.out; omega
        case rel => exact ⟨(t1062), (wrap64 (x25_2 + 1)), (by first | rfl | (simp; done) | (simp [*]; done)), (by first | rfl | (simp; done) | (simp [*]; done)), H', ⟨by have := HK1.out; have := HK2.out; omega⟩, ⟨by apply_rules [HB.out, below_alloc, pw_below_drewN, below_drew1]⟩⟩
      ·rw [if_neg c9] at H
       have c9b0 : decide (x25_2 < ji8) = false := decide_eq_false c9
       clear c9
       have H' := Aside0.mk H
       clear H
       go_wp2
       go_roundg k2
       case measure => have := HK1.out; have := HK2.out; omega
       case rel => exact ⟨(x8_2), (wrap64 (x13_1 + 1)), (by first | rfl | (simp; done) | (simp [*]; done)), (by first | rfl | (simp; done) | (simp [*]; done)), H', ⟨by have := HK1.out; have := HK2.out; omega⟩, ⟨by apply_rules [HB.out, below_alloc, pw_below_drewN, below_drew1]⟩⟩
   ·rw [if_neg c4] at H
    have c4b0 : decide (x13_1 < (l0.length : Int)) = false := decide_eq_false c4
    clear c4
    simp only [Option.some.injEq, Prod.mk.injEq] at H
    obtain ⟨rfl, rfl⟩ := H
    go_wp2
    go_ret2
    exact ⟨by first | rfl | simp [*], by apply_rules [HB.out, below_alloc, pw_below_drewN, below_drew1]⟩
end Go.Proofs.YtccebdpjdpjgnaaGreatDoor.P
end
