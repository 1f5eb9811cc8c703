/-
words of the walks
-/
import Derived.Test.YtccebdpjdpjgnaaGreatDoorPV29
set_option linter.unusedVariables false
set_option linter.unusedSimpArgs false
namespace Go.Proofs.YtccebdpjdpjgnaaGreatDoor.P
open Go.RowKit Go.Proofs.YtccebdpjdpjgnaaGreatDoorW.PrintWords Go.Proofs.YtccebdpjdpjgnaaGreatDoorW.PrintLast Go.Proofs.YtccebdpjdpjgnaaGreatDoorW.PrintMore
attribute [local go_sem] max2_int min2_int max_two min_two max_three min_three max_four min_four
set_option linter.unusedVariables false
set_option linter.unusedSimpArgs false
def prime_Smooth.f (k : Nat) (l0 : List Int) (a1_0 : ByteArray) (a1_1 : ByteArray) : Option (Bool × Int) := (prime_open.f k l0 a1_0 a1_1).bind fun t1388 => (if t1388 = 0 then ((prime_factor.f k l0 a1_0 a1_1).bind fun bt1389 => (some (bt1389.2, 0))) else (some (false, t1388)))
set_option maxHeartbeats 8000000 in
set_option maxRecDepth 100000 in
theorem prime_Smooth.calls (k : Nat) (A0 : Option Addr) (c0 : Nat) (l0 : List Int) (a1_0 : ByteArray) (a1_1 : ByteArray) (r1 : Bool) (r2 : Int) (w : World) (hT : TabW w) (hr0 : Kd.C (Kd.int .i64) w A0 l0.length l0) (hc0 : l0.length ≤ c0) (h : prime_Smooth.f k l0 a1_0 a1_1 = some (r1, r2)) :
  Calls Tryz.prog 81 #[.slice A0 l0.length c0, .agg #[.string a1_0, .string a1_1]] w fun e w' => e = .returned (.tuple #[.bool r1, .int .i64 r2]) ∧ Below w.heap.size w w' := by
 have hu38 := Tryz.underlying38
 have HR0 := Aside0.mk hr0
 have HC0 := Aside0.mk hc0
 clear hr0 hc0
 have HB := Aside0.mk (Below.refl w.heap.size w)
 have H : ((prime_open.f k l0 a1_0 a1_1).bind fun t1388 => (if t1388 = 0 then ((prime_factor.f k l0 a1_0 a1_1).bind fun bt1389 => (some (bt1389.2, 0))) else (some (false, t1388)))) = some (r1, r2) := h
 clear h
 replace H := Option.bind_eq_some_iff.mp H
 obtain ⟨t1388, A30, H⟩ := H
 try dsimp only at H
 have A3 := Aside0.mk A30
 clear A30
 by_cases c4 : t1388 = 0
 ·rw [if_pos c4] at H
  have c4b0 : (t1388 == 0) = true := beq_iff_eq.mpr c4
  have c4b1 : (t1388 != 0) = false := bne_eq_false_iff_eq.mpr c4
  clear c4
  replace H := Option.bind_eq_some_iff.mp H
  obtain ⟨⟨t1389, t1392⟩, A50, H⟩ := H
  try dsimp only at H
  have A5 := Aside0.mk A50
  clear A50
  simp only [Option.some.injEq, Prod.mk.injEq] at H
  obtain ⟨rfl, rfl⟩ := H
  go_enter Tryz.func81, Tryz.ntmps81
  go_wp2_with (first | ((with_reducible refine gate_dst (N := 3) rfl ?_); refine box_event ?hg (N := 3) ?hd (cs := #[.string a1_0, .string a1_1]) (t := 38) ?hr ?_; (case hd => rfl); (case hg => rfl); (case hr => go_simp; try rfl); intro gb1387 hg w6 hbox hb; have n0_ := Aside0.mk (below_step (by apply_rules [HB.out, below_alloc, pw_below_drewN, below_drew1]) hb); have n1_ := Aside0.mk (hbox); have n2_ := Aside0.mk ((by rw [hg]; exact (below_size (by apply_rules [HB.out, below_alloc, pw_below_drewN, below_drew1])) : w.heap.size ≤ gb1387)); have n3_ := Aside0.mk ((by rw [hg]; exact (below_size (by apply_rules [HB.out, below_alloc, pw_below_drewN, below_drew1])) : w.heap.size ≤ gb1387)); clear HB; have HB := n0_; have BK1387 := n1_; have GW1387 := n2_; have GE1387 := n3_; clear n0_ n1_ n2_ n3_; clear hb hbox hg; have hcz7_0 : w6.cell? ⟨gb1387, 0, none⟩ = some (.string a1_0) := (blk_cell BK1387.out 0).trans rfl; have hcz7_1 : w6.cell? ⟨gb1387, 1, none⟩ = some (.string a1_1) := (blk_cell BK1387.out 1).trans rfl; have hfz7_0 := blk_frozen BK1387.out 0; have hfz7_1 := blk_frozen BK1387.out 1) | ((with_reducible refine gate_callee (f := 137) rfl ?_); refine goesK (some 11) Tryz.func137 [.slice A0 l0.length c0, .agg #[.string a1_0, .string a1_1]] rfl rfl ?_; (with_reducible refine (prime_open.calls k _ _ l0 a1_0 a1_1 t1388 _ ?side1 ?side2 ?side3 A3.out).mono ?_); (case side1 => refine TabW.below hT ?_; apply_rules [HB.out, below_alloc, pw_below_drewN, below_drew1, below_set, GE1387.out]); (case side2 => apply_rules [(Kd.C_below HR0.out HB.out), Kd.C_alloc, Kd.C_drewN, Kd.C_drew]); (case side3 => exact HC0.out); rintro e w8 ⟨rfl, hb⟩; refine ⟨_, rfl, ?_⟩; replace BK1387 := Aside0.mk (blk_below (g := gb1387) (o := .cells #[.string a1_0, .string a1_1] 38 (0, 0)) (by apply_rules [BK1387.out, blk_drewN, blk_drew, blk_alloc]) hb); replace HB := Aside0.mk (below_step (by apply_rules [HB.out, below_alloc, pw_below_drewN, below_drew1, below_set, GE1387.out]) hb); (try clear hb); have hcz9_0 : w8.cell? ⟨gb1387, 0, none⟩ = some (.string a1_0) := (blk_cell BK1387.out 0).trans rfl; have hcz9_1 : w8.cell? ⟨gb1387, 1, none⟩ = some (.string a1_1) := (blk_cell BK1387.out 1).trans rfl; have hfz9_0 := blk_frozen BK1387.out 0; have hfz9_1 := blk_frozen BK1387.out 1) | ((with_reducible refine gate_callee (f := 138) rfl ?_); refine goesK (some 18) Tryz.func138 [.slice A0 l0.length c0, .agg #[.string a1_0, .string a1_1]] rfl rfl ?_; (with_reducible refine (prime_factor.calls k _ _ l0 a1_0 a1_1 t1389 t1392 _ ?side1 ?side2 ?side3 A5.out).mono ?_); (case side1 => refine TabW.below hT ?_; apply_rules [HB.out, below_alloc, pw_below_drewN, below_drew1, below_set, GE1387.out]); (case side2 => apply_rules [(Kd.C_below HR0.out HB.out), Kd.C_alloc, Kd.C_drewN, Kd.C_drew]); (case side3 => exact HC0.out); rintro e w10 ⟨v1390, rfl, ho0, hb⟩; refine ⟨_, rfl, ?_⟩; have HO1391 := Aside0.mk (Kd.R_lower ho0 (below_size (by apply_rules [HB.out, below_alloc, pw_below_drewN, below_drew1, below_set, GE1387.out]))); replace BK1387 := Aside0.mk (blk_below (g := gb1387) (o := .cells #[.string a1_0, .string a1_1] 38 (0, 0)) (by apply_rules [BK1387.out, blk_drewN, blk_drew, blk_alloc]) hb); replace HB := Aside0.mk (below_step (by apply_rules [HB.out, below_alloc, pw_below_drewN, below_drew1, below_set, GE1387.out]) hb); (try clear hb); (try clear ho0)))
  go_ret2
  exact ⟨by first | rfl | simp [*], by apply_rules [HB.out, below_alloc, pw_below_drewN, below_drew1, below_set, GE1387.out]⟩
 ·rw [if_neg c4] at H
  have c4b0 : (t1388 == 0) = false := beq_eq_false_iff_ne.mpr c4
  have c4b1 : (t1388 != 0) = true := bne_iff_ne.mpr c4
  simp only [Option.some.injEq, Prod.mk.injEq] at H
  obtain ⟨rfl, rfl⟩ := H
  go_enter Tryz.func81, Tryz.ntmps81
  go_wp2_with (first | ((with_reducible refine gate_dst (N := 3) rfl ?_); refine box_event ?hg (N := 3) ?hd (cs := #[.string a1_0, .string a1_1]) (t := 38) ?hr ?_; (case hd => rfl); (case hg => rfl); (case hr => go_simp; try rfl); intro gb1387 hg w11 hbox hb; have n0_ := Aside0.mk (below_step (by apply_rules [HB.out, below_alloc, pw_below_drewN, below_drew1]) hb); have n1_ := Aside0.mk (hbox); have n2_ := Aside0.mk ((by rw [hg]; exact (below_size (by apply_rules [HB.out, below_alloc, pw_below_drewN, below_drew1])) : w.heap.size ≤ gb1387)); have n3_ := Aside0.mk ((by rw [hg]; exact (below_size (by apply_rules [HB.out, below_alloc, pw_below_drewN, below_drew1])) : w.heap.size ≤ gb1387)); clear HB; have HB := n0_; have BK1387 := n1_; have GW1387 := n2_; have GE1387 := n3_; clear n0_ n1_ n2_ n3_; clear hb hbox hg; have hcz12_0 : w11.cell? ⟨gb1387, 0, none⟩ = some (.string a1_0) := (blk_cell BK1387.out 0).trans rfl; have hcz12_1 : w11.cell? ⟨gb1387, 1, none⟩ = some (.string a1_1) := (blk_cell BK1387.out 1).trans rfl; have hfz12_0 := blk_frozen BK1387.out 0; have hfz12_1 := blk_frozen BK1387.out 1) | ((with_reducible refine gate_callee (f := 137) rfl ?_); refine goesK (some 11) Tryz.func137 [.slice A0 l0.length c0, .agg #[.string a1_0, .string a1_1]] rfl rfl ?_; (with_reducible refine (prime_open.calls k _ _ l0 a1_0 a1_1 t1388 _ ?side1 ?side2 ?side3 A3.out).mono ?_); (case side1 => refine TabW.below hT ?_; apply_rules [HB.out, below_alloc, pw_below_drewN, below_drew1, below_set, GE1387.out]); (case side2 => apply_rules [(Kd.C_below HR0.out HB.out), Kd.C_alloc, Kd.C_drewN, Kd.C_drew]); (case side3 => exact HC0.out); rintro e w13 ⟨rfl, hb⟩; refine ⟨_, rfl, ?_⟩; replace BK1387 := Aside0.mk (blk_below (g := gb1387) (o := .cells #[.string a1_0, .string a1_1] 38 (0, 0)) (by apply_rules [BK1387.out, blk_drewN, blk_drew, blk_alloc]) hb); replace HB := Aside0.mk (below_step (by apply_rules [HB.out, below_alloc, pw_below_drewN, below_drew1, below_set, GE1387.out]) hb); (try clear hb)))
  go_ret2
  exact ⟨by first | rfl | simp [*], by apply_rules [HB.out, below_alloc, pw_below_drewN, below_drew1, below_set, GE1387.out]⟩
end Go.Proofs.YtccebdpjdpjgnaaGreatDoor.P
