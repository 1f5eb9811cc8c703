/-
parts of the walks and of the plain laws: PmonzoText Pschismalaw12Value
-/
import Derived.Test.YtccebdpjdpjgnaaGreatDoorER31
import Derived.Test.YtccebdpjdpjgnaaGreatDoorER32
set_option linter.unusedVariables false
set_option linter.unusedSimpArgs false
section
namespace Go.Proofs.YtccebdpjdpjgnaaGreatDoor.P
open Go.RowKit Go.Proofs.YtccebdpjdpjgnaaGreatDoorW.PrintWords Go.Proofs.YtccebdpjdpjgnaaGreatDoorW.PrintLast Go.Proofs.YtccebdpjdpjgnaaGreatDoorW.PrintMore
attribute [local go_sem] max2_int min2_int max_two min_two max_three min_three max_four min_four
def monzo_Text.f (k : Nat) (l0 : List Int) (l1 : List Int) : Option (ByteArray × Int) := (monzo_Fraction.f k l0 l1).bind fun bt412 => (if bt412.2.2 = 0 then ((fraction_Text.f bt412.1 bt412.2.1).bind fun t416 => (some (t416, 0))) else (some ((⟨#[]⟩ : ByteArray), bt412.2.2)))
theorem monzo_Text.mono : ∀ a0 a1 k, LeO (monzo_Text.f k a0 a1) (monzo_Text.f (k + 1) a0 a1) := by
 intro a0 a1 k
 unfold monzo_Text.f
 repeat' first
   | (with_reducible exact monzo_Fraction.mono _ _ _)
   | (with_reducible exact LeO.refl _)
   | (with_reducible exact LeO.none _)
   | (with_reducible refine LeO.ite ?_ ?_)
   | (with_reducible refine LeO.bind ?_ (fun _ => ?_))
set_option maxHeartbeats 8000000 in
set_option maxRecDepth 100000 in
theorem monzo_Text.calls (k : Nat) (A0 : Option Addr) (c0 : Nat) (l0 : List Int) (A1 : Option Addr) (c1 : Nat) (l1 : List Int) (r1 : ByteArray) (r2 : Int) (w : World) (hT : TabW w) (hr0 : Kd.C (Kd.int .i64) w A0 l0.length l0) (hc0 : l0.length ≤ c0) (hr1 : Kd.C (Kd.int .i64) w A1 l1.length l1) (hc1 : l1.length ≤ c1) (h : monzo_Text.f k l0 l1 = some (r1, r2)) :
  Calls Tryz.prog 38 #[.slice A0 l0.length c0, .slice A1 l1.length c1] w fun e w' => e = .returned (.tuple #[.string r1, .int .i64 r2]) ∧ Below w.heap.size w w' := by
 have hu38 := Tryz.underlying38
 have HR0 := Aside0.mk hr0
 have HC0 := Aside0.mk hc0
 clear hr0 hc0
 have HR1 := Aside0.mk hr1
 have HC1 := Aside0.mk hc1
 clear hr1 hc1
 have HB := Aside0.mk (Below.refl w.heap.size w)
 have H : ((monzo_Fraction.f k l0 l1).bind fun bt412 => (if bt412.2.2 = 0 then ((fraction_Text.f bt412.1 bt412.2.1).bind fun t416 => (some (t416, 0))) else (some ((⟨#[]⟩ : ByteArray), bt412.2.2)))) = some (r1, r2) := h
 clear h
 replace H := Option.bind_eq_some_iff.mp H
 obtain ⟨⟨t412, t413, t414⟩, A30, H⟩ := H
 try dsimp only at H
 have A3 := Aside0.mk A30
 clear A30
 by_cases c4 : t414 = 0
 ·rw [if_pos c4] at H
  have c4b0 : (t414 == 0) = true := beq_iff_eq.mpr c4
  have c4b1 : (t414 != 0) = false := bne_eq_false_iff_eq.mpr c4
  clear c4
  replace H := Option.bind_eq_some_iff.mp H
  obtain ⟨t416, A50, H⟩ := H
  try dsimp only at H
  have A5 := Aside0.mk A50
  clear A50
  simp only [Option.some.injEq, Prod.mk.injEq] at H
  obtain ⟨rfl, rfl⟩ := H
  go_enter Tryz.func38, Tryz.ntmps38
  go_wp2_with (first | ((with_reducible refine gate_callee (f := 37) rfl ?_); refine goesK (some 11) Tryz.func37 [.slice A0 l0.length c0, .slice A1 l1.length c1] rfl rfl ?_; (with_reducible refine (monzo_Fraction.calls k _ _ l0 _ _ l1 t412 t413 t414 _ ?side1 ?side2 ?side3 ?side4 ?side5 A3.out).mono ?_); (case side1 => refine TabW.below hT ?_; apply_rules [HB.out, below_alloc, pw_below_drewN, below_drew1]); (case side2 => apply_rules [HR0.out, Kd.C_alloc, Kd.C_drewN, Kd.C_drew]); (case side3 => exact HC0.out); (case side4 => apply_rules [HR1.out, Kd.C_alloc, Kd.C_drewN, Kd.C_drew]); (case side5 => exact HC1.out); rintro e w6 ⟨rfl, hb⟩; refine ⟨_, rfl, ?_⟩; replace HB := Aside0.mk (below_step (by apply_rules [HB.out, below_alloc, pw_below_drewN, below_drew1]) hb); (try clear hb)) | ((with_reducible refine gate_dst (N := 6) rfl ?_); refine box_event ?hg (N := 6) ?hd (cs := #[.string (⟨#[]⟩ : ByteArray), .string (⟨#[]⟩ : ByteArray)]) (t := 38) ?hr ?_; (case hd => rfl); (case hg => rfl); (case hr => go_simp; try rfl); intro gb415 hg w7 hbox hb; have n0_ := Aside0.mk (below_step (by apply_rules [HB.out, below_alloc, pw_below_drewN, below_drew1]) hb); have n1_ := Aside0.mk (hbox); have n2_ := Aside0.mk ((by rw [hg]; exact (below_size (by apply_rules [HB.out, below_alloc, pw_below_drewN, below_drew1])) : w.heap.size ≤ gb415)); have n3_ := Aside0.mk ((by rw [hg]; exact (below_size (by apply_rules [HB.out, below_alloc, pw_below_drewN, below_drew1])) : w.heap.size ≤ gb415)); clear HB; have HB := n0_; have BK415 := n1_; have GW415 := n2_; have GE415 := n3_; clear n0_ n1_ n2_ n3_; clear hb hbox hg; have hcz8_0 : w7.cell? ⟨gb415, 0, none⟩ = some (.string (⟨#[]⟩ : ByteArray)) := (blk_cell BK415.out 0).trans rfl; have hcz8_1 : w7.cell? ⟨gb415, 1, none⟩ = some (.string (⟨#[]⟩ : ByteArray)) := (blk_cell BK415.out 1).trans rfl; have hfz8_0 := blk_frozen BK415.out 0; have hfz8_1 := blk_frozen BK415.out 1) | ((with_reducible refine gate_callee (f := 39) rfl ?_); refine goesK (some 18) Tryz.func39 [.agg #[.string t412, .string t413]] rfl rfl ?_; (with_reducible refine (fraction_Text.calls t412 t413 t416 _ A5.out).mono ?_); rintro e w9 ⟨rfl, hb⟩; refine ⟨_, rfl, ?_⟩; replace BK415 := Aside0.mk (blk_below (g := gb415) (o := .cells #[.string t412, .string t413] 38 (0, 0)) (by (with_reducible repeat (first | refine blk_drewN ?_ _ | refine blk_drew ?_ | refine blk_alloc ?_ _)); refine blk_put (cs := #[.string t412, .string (⟨#[]⟩ : ByteArray)]) ?_ 1 _ rfl; (with_reducible repeat (first | refine blk_drewN ?_ _ | refine blk_drew ?_ | refine blk_alloc ?_ _)); refine blk_put (cs := #[.string (⟨#[]⟩ : ByteArray), .string (⟨#[]⟩ : ByteArray)]) ?_ 0 _ rfl; apply_rules [BK415.out, blk_drewN, blk_drew, blk_alloc]) hb); replace HB := Aside0.mk (below_step (by apply_rules [HB.out, below_alloc, pw_below_drewN, below_drew1, below_set, GE415.out]) hb); (try clear hb)))
  go_ret2
  exact ⟨by first | rfl | simp [*], by apply_rules [HB.out, below_alloc, pw_below_drewN, below_drew1, below_set, GE415.out]⟩
 ·rw [if_neg c4] at H
  have c4b0 : (t414 == 0) = false := beq_eq_false_iff_ne.mpr c4
  have c4b1 : (t414 != 0) = true := bne_iff_ne.mpr c4
  simp only [Option.some.injEq, Prod.mk.injEq] at H
  obtain ⟨rfl, rfl⟩ := H
  go_enter Tryz.func38, Tryz.ntmps38
  go_wp2_with (first | ((with_reducible refine gate_callee (f := 37) rfl ?_); refine goesK (some 11) Tryz.func37 [.slice A0 l0.length c0, .slice A1 l1.length c1] rfl rfl ?_; (with_reducible refine (monzo_Fraction.calls k _ _ l0 _ _ l1 t412 t413 t414 _ ?side1 ?side2 ?side3 ?side4 ?side5 A3.out).mono ?_); (case side1 => refine TabW.below hT ?_; apply_rules [HB.out, below_alloc, pw_below_drewN, below_drew1]); (case side2 => apply_rules [HR0.out, Kd.C_alloc, Kd.C_drewN, Kd.C_drew]); (case side3 => exact HC0.out); (case side4 => apply_rules [HR1.out, Kd.C_alloc, Kd.C_drewN, Kd.C_drew]); (case side5 => exact HC1.out); rintro e w10 ⟨rfl, hb⟩; refine ⟨_, rfl, ?_⟩; replace HB := Aside0.mk (below_step (by apply_rules [HB.out, below_alloc, pw_below_drewN, below_drew1]) hb); (try clear hb)) | ((with_reducible refine gate_dst (N := 6) rfl ?_); refine box_event ?hg (N := 6) ?hd (cs := #[.string (⟨#[]⟩ : ByteArray), .string (⟨#[]⟩ : ByteArray)]) (t := 38) ?hr ?_; (case hd => rfl); (case hg => rfl); (case hr => go_simp; try rfl); intro gb415 hg w11 hbox hb; have n0_ := Aside0.mk (below_step (by apply_rules [HB.out, below_alloc, pw_below_drewN, below_drew1]) hb); have n1_ := Aside0.mk (hbox); have n2_ := Aside0.mk ((by rw [hg]; exact (below_size (by apply_rules [HB.out, below_alloc, pw_below_drewN, below_drew1])) : w.heap.size ≤ gb415)); have n3_ := Aside0.mk ((by rw [hg]; exact (below_size (by apply_rules [HB.out, below_alloc, pw_below_drewN, below_drew1])) : w.heap.size ≤ gb415)); clear HB; have HB := n0_; have BK415 := n1_; have GW415 := n2_; have GE415 := n3_; clear n0_ n1_ n2_ n3_; clear hb hbox hg; have hcz12_0 : w11.cell? ⟨gb415, 0, none⟩ = some (.string (⟨#[]⟩ : ByteArray)) := (blk_cell BK415.out 0).trans rfl; have hcz12_1 : w11.cell? ⟨gb415, 1, none⟩ = some (.string (⟨#[]⟩ : ByteArray)) := (blk_cell BK415.out 1).trans rfl; have hfz12_0 := blk_frozen BK415.out 0; have hfz12_1 := blk_frozen BK415.out 1))
  go_ret2
  exact ⟨by first | rfl | simp [*], by apply_rules [HB.out, below_alloc, pw_below_drewN, below_drew1, below_set, GE415.out]⟩
end Go.Proofs.YtccebdpjdpjgnaaGreatDoor.P
end
section
namespace Go.Proofs.YtccebdpjdpjgnaaGreatDoor.P
open Go.RowKit Go.Proofs.YtccebdpjdpjgnaaGreatDoorW.PrintWords Go.Proofs.YtccebdpjdpjgnaaGreatDoorW.PrintLast Go.Proofs.YtccebdpjdpjgnaaGreatDoorW.PrintMore
attribute [local go_sem] max2_int min2_int max_two min_two max_three min_three max_four min_four
end Go.Proofs.YtccebdpjdpjgnaaGreatDoor.P
end
