/-
words of the walks
-/
import Derived.Test.YtccebdpjdpjgnaaGreatDoorBA39
set_option linter.unusedVariables false
set_option linter.unusedSimpArgs false
namespace Go.Proofs.YtccebdpjdpjgnaaGreatDoor.P
open Go.RowKit Go.Proofs.YtccebdpjdpjgnaaGreatDoorW.PrintWords Go.Proofs.YtccebdpjdpjgnaaGreatDoorW.PrintLast Go.Proofs.YtccebdpjdpjgnaaGreatDoorW.PrintMore
attribute [local go_sem] max2_int min2_int max_two min_two max_three min_three max_four min_four
set_option linter.unusedVariables false
set_option linter.unusedSimpArgs false
mutual
def schismalaw12_MonzoAdds.j0 : Nat → Int → List Int → List Int → List Int → List Int → List Int → List Int → List Int → Int → Bool → Option (Bool)
 | 0, _, _, _, _, _, _, _, _, _, _ => none
 | k + 1, x2, x7, x8, x9, x10, x12, x14, x16, x17, x88 => if x88 = true then (some false) else (schismalaw12_MonzoAdds.l0 k x2 x7 x8 x9 x10 x12 x14 x16 x17 true 0)
def schismalaw12_MonzoAdds.l0 : Nat → Int → List Int → List Int → List Int → List Int → List Int → List Int → List Int → Int → Bool → Int → Option (Bool)
 | 0, _, _, _, _, _, _, _, _, _, _, _ => none
 | k + 1, x2, x7, x8, x9, x10, x12, x14, x16, x17, x18, x19 => if x19 < (x7.length : Int) then (if 0 ≤ x19 then (if x19 < (x10.length : Int) then (if x19 < (x8.length : Int) then (if x19 < (x9.length : Int) then (if (rd x10 x19) = (wrap64 ((rd x8 x19) + (rd x9 x19))) then (if x19 < (x12.length : Int) then (if (rd x12 x19) = (wrap64 ((rd x8 x19) - (rd x9 x19))) then (if x19 < (x14.length : Int) then (schismalaw12_MonzoAdds.j2 k x2 x7 x8 x9 x10 x12 x14 x16 x17 x18 x19 ((rd x14 x19) != (wrap64 (-(rd x8 x19))))) else (none)) else (schismalaw12_MonzoAdds.j2 k x2 x7 x8 x9 x10 x12 x14 x16 x17 x18 x19 true)) else (none)) else (schismalaw12_MonzoAdds.j2 k x2 x7 x8 x9 x10 x12 x14 x16 x17 x18 x19 true)) else (none)) else (none)) else (none)) else (none)) else (if x18 = true then (schismalaw12_MonzoAdds.l1 k x2 x7 x8 x16 x17 0) else (if (x16.length : Int) = 0 then (some (x17 == 4)) else (some false)))
def schismalaw12_MonzoAdds.j2 : Nat → Int → List Int → List Int → List Int → List Int → List Int → List Int → List Int → Int → Bool → Int → Bool → Option (Bool)
 | 0, _, _, _, _, _, _, _, _, _, _, _, _ => none
 | k + 1, x2, x7, x8, x9, x10, x12, x14, x16, x17, x18, x19, x136 => if x136 = true then (some false) else (if x18 = true then (if 0 ≤ x19 then (if x19 < (x8.length : Int) then (if (rd x8 x19) = 0 then (schismalaw12_MonzoAdds.l0 k x2 x7 x8 x9 x10 x12 x14 x16 x17 true (wrap64 (x19 + 1))) else ((schismalaw12_abs.f (rd x8 x19)).bind fun t734 => (if t734 = 0 then (none) else (if x2 ≤ (wrap64 (Int.tdiv (1000 : Int) t734)) then ((schismalaw12_abs.f (rd x8 x19)).bind fun t736 => (if t736 = 0 then (none) else (schismalaw12_MonzoAdds.l0 k x2 x7 x8 x9 x10 x12 x14 x16 x17 (decide (x2 ≥ (wrap64 (-(wrap64 (Int.tdiv (1000 : Int) t736)))))) (wrap64 (x19 + 1))))) else (schismalaw12_MonzoAdds.l0 k x2 x7 x8 x9 x10 x12 x14 x16 x17 false (wrap64 (x19 + 1))))))) else (none)) else (none)) else (schismalaw12_MonzoAdds.l0 k x2 x7 x8 x9 x10 x12 x14 x16 x17 false (wrap64 (x19 + 1))))
def schismalaw12_MonzoAdds.l1 : Nat → Int → List Int → List Int → List Int → Int → Int → Option (Bool)
 | 0, _, _, _, _, _, _ => none
 | k + 1, x2, x7, x8, x16, x17, x20 => if x20 < (x7.length : Int) then (if (x16.length : Int) = (x7.length : Int) then (if 0 ≤ x20 then (if x20 < (x8.length : Int) then (if (rd x8 x20) = 0 then (if x20 < (x16.length : Int) then (if (rd x16 x20) = 0 then (schismalaw12_MonzoAdds.l1 k x2 x7 x8 x16 x17 (wrap64 (x20 + 1))) else (some false)) else (none)) else (if x20 < (x16.length : Int) then (if (rd x16 x20) = (wrap64 (x2 * (rd x8 x20))) then (schismalaw12_MonzoAdds.l1 k x2 x7 x8 x16 x17 (wrap64 (x20 + 1))) else (some false)) else (none))) else (none)) else (none)) else (some false)) else (some (x17 == 0))
end
def schismalaw12_MonzoAdds.f (k : Nat) (a0_0 : Int) (a0_1 : Int) (a0_2 : Int) (a0_3 : Int) (a0_4 : Int) (a1_0 : Int) (a1_1 : Int) (a1_2 : Int) (a1_3 : Int) (a2 : Int) : Option (Bool) := (schismalaw12_known.f k).bind fun t698 => (if t698 = true then ((schismalaw12_Make.f k a0_0 a0_1 a0_2 a0_3 a0_4).bind fun bt699 => ((schismalaw12_Interval.f k bt699.1 a1_0 a1_1 a1_2 a1_3).bind fun t705 => ((monzo_Add.f k bt699.1 bt699.2 t705).bind fun bt708 => ((monzo_Sub.f k bt699.1 bt699.2 t705).bind fun bt712 => ((monzo_Neg.f k bt699.1 bt699.2).bind fun bt716 => ((monzo_Power.f k bt699.1 bt699.2 a2).bind fun bt720 => (if (bt708.1.length : Int) = (bt699.1.length : Int) then (if (bt712.1.length : Int) = (bt699.1.length : Int) then (if (bt716.1.length : Int) = (bt699.1.length : Int) then (if bt708.2 = 0 then (if bt712.2 = 0 then (schismalaw12_MonzoAdds.j0 k a2 bt699.1 bt699.2 t705 bt708.1 bt712.1 bt716.1 bt720.1 bt720.2 (bt716.2 != 0)) else (schismalaw12_MonzoAdds.j0 k a2 bt699.1 bt699.2 t705 bt708.1 bt712.1 bt716.1 bt720.1 bt720.2 true)) else (schismalaw12_MonzoAdds.j0 k a2 bt699.1 bt699.2 t705 bt708.1 bt712.1 bt716.1 bt720.1 bt720.2 true)) else (schismalaw12_MonzoAdds.j0 k a2 bt699.1 bt699.2 t705 bt708.1 bt712.1 bt716.1 bt720.1 bt720.2 true)) else (schismalaw12_MonzoAdds.j0 k a2 bt699.1 bt699.2 t705 bt708.1 bt712.1 bt716.1 bt720.1 bt720.2 true)) else (schismalaw12_MonzoAdds.j0 k a2 bt699.1 bt699.2 t705 bt708.1 bt712.1 bt716.1 bt720.1 bt720.2 true)))))))) else (some false))
theorem schismalaw12_MonzoAdds.j0_no {k : Nat} {x2 x7 x8 x9 x10 x12 x14 x16 x17} {r : Bool} (h : schismalaw12_MonzoAdds.j0 k x2 x7 x8 x9 x10 x12 x14 x16 x17 true = some r) (e : r = true) : False := by
 subst e
 cases k <;> simp [schismalaw12_MonzoAdds.j0] at h
theorem schismalaw12_MonzoAdds.j2_no {k : Nat} {x2 x7 x8 x9 x10 x12 x14 x16 x17 x18 x19} {r : Bool} (h : schismalaw12_MonzoAdds.j2 k x2 x7 x8 x9 x10 x12 x14 x16 x17 x18 x19 true = some r) (e : r = true) : False := by
 subst e
 cases k <;> simp [schismalaw12_MonzoAdds.j2] at h
set_option maxHeartbeats 8000000 in
set_option maxRecDepth 100000 in
theorem schismalaw12_MonzoAdds.calls (k : Nat) (a0_0 : Int) (a0_1 : Int) (a0_2 : Int) (a0_3 : Int) (a0_4 : Int) (a1_0 : Int) (a1_1 : Int) (a1_2 : Int) (a1_3 : Int) (a2 : Int) (r : Bool) (w : World) (hT : TabW w) (h : schismalaw12_MonzoAdds.f k a0_0 a0_1 a0_2 a0_3 a0_4 a1_0 a1_1 a1_2 a1_3 a2 = some r) (hr : r = true) :
  Calls Tryz.prog 7 #[.agg #[.int .u8 a0_0, .int .i8 a0_1, .int .i8 a0_2, .int .i8 a0_3, .int .i8 a0_4], .agg #[.int .i8 a1_0, .int .i8 a1_1, .int .i8 a1_2, .int .i8 a1_3], .int .i64 a2] w fun e w' => e = .returned (.bool r) ∧ Below w.heap.size w w' := by
 have hu50 := Tryz.underlying50
 have hu48 := Tryz.underlying48
 have HB := Aside0.mk (Below.refl w.heap.size w)
 have H : ((schismalaw12_known.f k).bind fun t698 => (if t698 = true then ((schismalaw12_Make.f k a0_0 a0_1 a0_2 a0_3 a0_4).bind fun bt699 => ((schismalaw12_Interval.f k bt699.1 a1_0 a1_1 a1_2 a1_3).bind fun t705 => ((monzo_Add.f k bt699.1 bt699.2 t705).bind fun bt708 => ((monzo_Sub.f k bt699.1 bt699.2 t705).bind fun bt712 => ((monzo_Neg.f k bt699.1 bt699.2).bind fun bt716 => ((monzo_Power.f k bt699.1 bt699.2 a2).bind fun bt720 => (if (bt708.1.length : Int) = (bt699.1.length : Int) then (if (bt712.1.length : Int) = (bt699.1.length : Int) then (if (bt716.1.length : Int) = (bt699.1.length : Int) then (if bt708.2 = 0 then (if bt712.2 = 0 then (schismalaw12_MonzoAdds.j0 k a2 bt699.1 bt699.2 t705 bt708.1 bt712.1 bt716.1 bt720.1 bt720.2 (bt716.2 != 0)) else (schismalaw12_MonzoAdds.j0 k a2 bt699.1 bt699.2 t705 bt708.1 bt712.1 bt716.1 bt720.1 bt720.2 true)) else (schismalaw12_MonzoAdds.j0 k a2 bt699.1 bt699.2 t705 bt708.1 bt712.1 bt716.1 bt720.1 bt720.2 true)) else (schismalaw12_MonzoAdds.j0 k a2 bt699.1 bt699.2 t705 bt708.1 bt712.1 bt716.1 bt720.1 bt720.2 true)) else (schismalaw12_MonzoAdds.j0 k a2 bt699.1 bt699.2 t705 bt708.1 bt712.1 bt716.1 bt720.1 bt720.2 true)) else (schismalaw12_MonzoAdds.j0 k a2 bt699.1 bt699.2 t705 bt708.1 bt712.1 bt716.1 bt720.1 bt720.2 true)))))))) else (some false))) = some r := h
 clear h
 replace H := Option.bind_eq_some_iff.mp H
 obtain ⟨t698, A40, H⟩ := H
 try dsimp only at H
 have A4 := Aside0.mk A40
 clear A40
 by_cases c5 : t698 = true
 ·subst c5
  have H1 : ((schismalaw12_Make.f k a0_0 a0_1 a0_2 a0_3 a0_4).bind fun bt699 => ((schismalaw12_Interval.f k bt699.1 a1_0 a1_1 a1_2 a1_3).bind fun t705 => ((monzo_Add.f k bt699.1 bt699.2 t705).bind fun bt708 => ((monzo_Sub.f k bt699.1 bt699.2 t705).bind fun bt712 => ((monzo_Neg.f k bt699.1 bt699.2).bind fun bt716 => ((monzo_Power.f k bt699.1 bt699.2 a2).bind fun bt720 => (if (bt708.1.length : Int) = (bt699.1.length : Int) then (if (bt712.1.length : Int) = (bt699.1.length : Int) then (if (bt716.1.length : Int) = (bt699.1.length : Int) then (if bt708.2 = 0 then (if bt712.2 = 0 then (schismalaw12_MonzoAdds.j0 k a2 bt699.1 bt699.2 t705 bt708.1 bt712.1 bt716.1 bt720.1 bt720.2 (bt716.2 != 0)) else (schismalaw12_MonzoAdds.j0 k a2 bt699.1 bt699.2 t705 bt708.1 bt712.1 bt716.1 bt720.1 bt720.2 true)) else (schismalaw12_MonzoAdds.j0 k a2 bt699.1 bt699.2 t705 bt708.1 bt712.1 bt716.1 bt720.1 bt720.2 true)) else (schismalaw12_MonzoAdds.j0 k a2 bt699.1 bt699.2 t705 bt708.1 bt712.1 bt716.1 bt720.1 bt720.2 true)) else (schismalaw12_MonzoAdds.j0 k a2 bt699.1 bt699.2 t705 bt708.1 bt712.1 bt716.1 bt720.1 bt720.2 true)) else (schismalaw12_MonzoAdds.j0 k a2 bt699.1 bt699.2 t705 bt708.1 bt712.1 bt716.1 bt720.1 bt720.2 true)))))))) = some r := by rw [if_pos rfl] at H; exact H
  clear H
  have H := H1
  clear H1
  replace H := Option.bind_eq_some_iff.mp H
  obtain ⟨⟨t699, t702⟩, A60, H⟩ := H
  try dsimp only at H
  have A6 := Aside0.mk A60
  clear A60
  replace H := Option.bind_eq_some_iff.mp H
  obtain ⟨t705, A70, H⟩ := H
  try dsimp only at H
  have A7 := Aside0.mk A70
  clear A70
  replace H := Option.bind_eq_some_iff.mp H
  obtain ⟨⟨t708, t711⟩, A80, H⟩ := H
  try dsimp only at H
  have A8 := Aside0.mk A80
  clear A80
  replace H := Option.bind_eq_some_iff.mp H
  obtain ⟨⟨t712, t715⟩, A90, H⟩ := H
  try dsimp only at H
  have A9 := Aside0.mk A90
  clear A90
  replace H := Option.bind_eq_some_iff.mp H
  obtain ⟨⟨t716, t719⟩, A100, H⟩ := H
  try dsimp only at H
  have A10 := Aside0.mk A100
  clear A100
  replace H := Option.bind_eq_some_iff.mp H
  obtain ⟨⟨t720, t723⟩, A110, H⟩ := H
  try dsimp only at H
  have A11 := Aside0.mk A110
  clear A110
  have HC12 := Aside0.mk H
  clear H
  go_enter Tryz.func7, Tryz.ntmps7
  go_upto_region 9 with (first | ((with_reducible refine gate_dst (N := 3) rfl ?_); (try (refine gate_guard (by rfl) ?_; dsimp only)); refine box_event ?hg (N := 3) ?hd (cs := #[.int .u8 a0_0, .int .i8 a0_1, .int .i8 a0_2, .int .i8 a0_3, .int .i8 a0_4]) (t := 50) ?hr ?_; (case hd => rfl); (case hg => rfl); (case hr => go_simp; try rfl); intro gb696 hg w13 hbox hb; have n0_ := Aside0.mk (below_step (by apply_rules [HB.out, below_alloc, pw_below_drewN, below_drew1]) hb); have n1_ := Aside0.mk (hbox); have n2_ := Aside0.mk ((by rw [hg]; exact (below_size (by apply_rules [HB.out, below_alloc, pw_below_drewN, below_drew1])) : w.heap.size ≤ gb696)); have n3_ := Aside0.mk ((by rw [hg]; exact (below_size (by apply_rules [HB.out, below_alloc, pw_below_drewN, below_drew1])) : w.heap.size ≤ gb696)); clear HB; have HB := n0_; have BK696 := n1_; have GW696 := n2_; have GE696 := n3_; clear n0_ n1_ n2_ n3_; clear hb hbox hg) | ((with_reducible refine gate_dst (N := 4) rfl ?_); (try (refine gate_guard (by rfl) ?_; dsimp only)); refine box_event ?hg (N := 4) ?hd (cs := #[.int .i8 a1_0, .int .i8 a1_1, .int .i8 a1_2, .int .i8 a1_3]) (t := 48) ?hr ?_; (case hd => rfl); (case hg => rfl); (case hr => go_simp; try rfl); intro gb697 hg w14 hbox hb; have n0_ := Aside0.mk (blk_below (g := gb696) (o := .cells #[.int .u8 a0_0, .int .i8 a0_1, .int .i8 a0_2, .int .i8 a0_3, .int .i8 a0_4] 50 (0, 0)) (by apply_rules [BK696.out, blk_drewN, blk_drew, blk_alloc]) hb); have n1_ := Aside0.mk (below_step (by apply_rules [HB.out, below_alloc, pw_below_drewN, below_drew1, below_set, GE696.out]) hb); have n2_ := Aside0.mk (hbox); have n3_ := Aside0.mk ((by rw [hg]; exact (below_size (by apply_rules [HB.out, below_alloc, pw_below_drewN, below_drew1, below_set, GE696.out])) : w.heap.size ≤ gb697)); have n4_ := Aside0.mk ((by rw [hg]; exact (below_size (by apply_rules [HB.out, below_alloc, pw_below_drewN, below_drew1, below_set, GE696.out])) : w.heap.size ≤ gb697)); have n5_ := Aside0.mk ((by rw [hg]; exact Nat.ne_of_lt (blk_lt (g := gb696) (o := .cells #[.int .u8 a0_0, .int .i8 a0_1, .int .i8 a0_2, .int .i8 a0_3, .int .i8 a0_4] 50 (0, 0)) (by apply_rules [BK696.out, blk_drewN, blk_drew, blk_alloc])) : gb696 ≠ gb697)); have n6_ := Aside0.mk ((by rw [hg]; exact Nat.ne_of_gt (blk_lt (g := gb696) (o := .cells #[.int .u8 a0_0, .int .i8 a0_1, .int .i8 a0_2, .int .i8 a0_3, .int .i8 a0_4] 50 (0, 0)) (by apply_rules [BK696.out, blk_drewN, blk_drew, blk_alloc])) : gb697 ≠ gb696)); clear BK696; clear HB; have BK696 := n0_; have HB := n1_; have BK697 := n2_; have GW697 := n3_; have GE697 := n4_; have NB696_697 := n5_; have NB697_696 := n6_; clear n0_ n1_ n2_ n3_ n4_ n5_ n6_; clear hb hbox hg) | (go_at_call 22; (with_reducible refine (schismalaw12_known.calls k  true _ ?side1 A4.out (by first | rfl | assumption)).mono ?_); (case side1 => refine TabW.below hT ?_; apply_rules [HB.out, below_alloc, pw_below_drewN, below_drew1, below_set, GE696.out, GE697.out]); rintro e w15 ⟨rfl, hb⟩; replace BK696 := Aside0.mk (blk_below (g := gb696) (o := .cells #[.int .u8 a0_0, .int .i8 a0_1, .int .i8 a0_2, .int .i8 a0_3, .int .i8 a0_4] 50 (0, 0)) (by apply_rules [BK696.out, blk_drewN, blk_drew, blk_alloc]) hb); replace BK697 := Aside0.mk (blk_below (g := gb697) (o := .cells #[.int .i8 a1_0, .int .i8 a1_1, .int .i8 a1_2, .int .i8 a1_3] 48 (0, 0)) (by apply_rules [BK697.out, blk_drewN, blk_drew, blk_alloc]) hb); replace HB := Aside0.mk (below_step (by apply_rules [HB.out, below_alloc, pw_below_drewN, below_drew1, below_set, GE696.out, GE697.out]) hb); (try clear hb); have hnb16 := NB696_697.out; have hnc16 := NB697_696.out; have hcz17_0 : w15.cell? ⟨gb696, 0, none⟩ = some (.int .u8 a0_0) := (blk_cell BK696.out 0).trans rfl; have hcz17_1 : w15.cell? ⟨gb696, 1, none⟩ = some (.int .i8 a0_1) := (blk_cell BK696.out 1).trans rfl; have hcz17_2 : w15.cell? ⟨gb696, 2, none⟩ = some (.int .i8 a0_2) := (blk_cell BK696.out 2).trans rfl; have hcz17_3 : w15.cell? ⟨gb696, 3, none⟩ = some (.int .i8 a0_3) := (blk_cell BK696.out 3).trans rfl; have hcz17_4 : w15.cell? ⟨gb696, 4, none⟩ = some (.int .i8 a0_4) := (blk_cell BK696.out 4).trans rfl; have hfz17_0 := blk_frozen BK696.out 0; have hfz17_1 := blk_frozen BK696.out 1; have hfz17_2 := blk_frozen BK696.out 2; have hfz17_3 := blk_frozen BK696.out 3; have hfz17_4 := blk_frozen BK696.out 4) | (go_at_call 35; (with_reducible refine (schismalaw12_Make.calls k a0_0 a0_1 a0_2 a0_3 a0_4 t699 t702 _ A6.out).mono ?_); rintro e w18 ⟨v700, v703, rfl, ho0, ho1, hb⟩; have HO701 := Aside0.mk (Kd.V_lower (Kd.V_mono (ok' := fun k_ => some k_ ≠ (v703 : Value).ownBlock ∧ k_ ≠ gb696 ∧ k_ ≠ gb697) ho0 (fun k_ hk_ => ⟨hk_.2, (Kd.freshB (g := gb696) (o := .cells #[.int .u8 a0_0, .int .i8 a0_1, .int .i8 a0_2, .int .i8 a0_3, .int .i8 a0_4] 50 (0, 0)) (by apply_rules [BK696.out, blk_drewN, blk_drew, blk_alloc]) k_ hk_.1), (Kd.freshB (g := gb697) (o := .cells #[.int .i8 a1_0, .int .i8 a1_1, .int .i8 a1_2, .int .i8 a1_3] 48 (0, 0)) (by apply_rules [BK697.out, blk_drewN, blk_drew, blk_alloc]) k_ hk_.1)⟩)) (below_size (by apply_rules [HB.out, below_alloc, pw_below_drewN, below_drew1, below_set, GE696.out, GE697.out]))); have HO704 := Aside0.mk (Kd.R_lower (Kd.R_mono (ok' := fun k_ => True) ho1 (fun _ hk_ => trivial)) (below_size (by apply_rules [HB.out, below_alloc, pw_below_drewN, below_drew1, below_set, GE696.out, GE697.out]))); replace BK696 := Aside0.mk (blk_below (g := gb696) (o := .cells #[.int .u8 a0_0, .int .i8 a0_1, .int .i8 a0_2, .int .i8 a0_3, .int .i8 a0_4] 50 (0, 0)) (by apply_rules [BK696.out, blk_drewN, blk_drew, blk_alloc]) hb); replace BK697 := Aside0.mk (blk_below (g := gb697) (o := .cells #[.int .i8 a1_0, .int .i8 a1_1, .int .i8 a1_2, .int .i8 a1_3] 48 (0, 0)) (by apply_rules [BK697.out, blk_drewN, blk_drew, blk_alloc]) hb); replace HB := Aside0.mk (below_step (by apply_rules [HB.out, below_alloc, pw_below_drewN, below_drew1, below_set, GE696.out, GE697.out]) hb); (try clear hb); (try clear ho0); (try clear ho1); have hcz19_0 : w18.cell? ⟨gb697, 0, none⟩ = some (.int .i8 a1_0) := (blk_cell BK697.out 0).trans rfl; have hcz19_1 : w18.cell? ⟨gb697, 1, none⟩ = some (.int .i8 a1_1) := (blk_cell BK697.out 1).trans rfl; have hcz19_2 : w18.cell? ⟨gb697, 2, none⟩ = some (.int .i8 a1_2) := (blk_cell BK697.out 2).trans rfl; have hcz19_3 : w18.cell? ⟨gb697, 3, none⟩ = some (.int .i8 a1_3) := (blk_cell BK697.out 3).trans rfl; have hfz19_0 := blk_frozen BK697.out 0; have hfz19_1 := blk_frozen BK697.out 1; have hfz19_2 := blk_frozen BK697.out 2; have hfz19_3 := blk_frozen BK697.out 3; obtain ⟨Ao20, co20, eo20⟩ := Kd.V_slice HO701.out; subst eo20) | (go_at_call 46; (with_reducible refine (schismalaw12_Interval.calls k _ _ t699 a1_0 a1_1 a1_2 a1_3 t705 _ ?side1 ?side2 A7.out).mono ?_); (case side1 => repeat (first | exact (Kd.V_reads' HO701.out).2.2 | (with_reducible refine Kd.C_alloc ?_ _) | (with_reducible refine Kd.C_drewN ?_ _) | (with_reducible refine Kd.C_drew ?_))); (case side2 => exact (Kd.V_reads' HO701.out).2.1); rintro e w21 ⟨v706, rfl, ho0, hb⟩; have n0_ := Aside0.mk (Kd.V_elder' (by (with_reducible repeat (first | apply Kd.V_alloc | apply Kd.V_drewN | apply Kd.V_drew)); exact HO701.out) (Kd.R_base ho0) hb); have n1_ := Aside0.mk (Kd.R_elder' (by apply_rules [HO704.out, Kd.R_alloc, Kd.R_drewN, Kd.R_drew]) (Kd.R_base ho0) hb); have n2_ := Aside0.mk (Kd.R_lower (Kd.R_new' ho0 (Kd.R_lt (by apply_rules [HO704.out, Kd.R_alloc, Kd.R_drewN, Kd.R_drew]))) (below_size (by apply_rules [HB.out, below_alloc, pw_below_drewN, below_drew1, below_set, GE696.out, GE697.out]))); have n3_ := Aside0.mk (blk_below (g := gb696) (o := .cells #[.int .u8 a0_0, .int .i8 a0_1, .int .i8 a0_2, .int .i8 a0_3, .int .i8 a0_4] 50 (0, 0)) (by apply_rules [BK696.out, blk_drewN, blk_drew, blk_alloc]) hb); have n4_ := Aside0.mk (blk_below (g := gb697) (o := .cells #[.int .i8 a1_0, .int .i8 a1_1, .int .i8 a1_2, .int .i8 a1_3] 48 (0, 0)) (by apply_rules [BK697.out, blk_drewN, blk_drew, blk_alloc]) hb); have n5_ := Aside0.mk (below_step (by apply_rules [HB.out, below_alloc, pw_below_drewN, below_drew1, below_set, GE696.out, GE697.out]) hb); clear HO701; clear HO704; clear BK696; clear BK697; clear HB; have HO701 := n0_; have HO704 := n1_; have HO707 := n2_; have BK696 := n3_; have BK697 := n4_; have HB := n5_; clear n0_ n1_ n2_ n3_ n4_ n5_; (try clear hb); (try clear ho0); obtain ⟨Ao22, co22, eo22⟩ := Kd.R_slice HO704.out; subst eo22; obtain ⟨Ao23, co23, eo23⟩ := Kd.R_slice HO707.out; subst eo23) | (go_at_call 47; (with_reducible refine (monzo_Add.calls k _ _ t699 (fun k_ => some k_ = (.slice Ao22 t702.length co22 : Value).ownBlock) _ _ t702 (fun k_ => some k_ = (.slice Ao23 t705.length co23 : Value).ownBlock) _ _ t705 t708 t711 _ ?side1 ?side2 ?side3 ?side4 A8.out).mono ?_); (case side1 => repeat (first | exact (Kd.V_reads' HO701.out).2.2 | (with_reducible refine Kd.C_alloc ?_ _) | (with_reducible refine Kd.C_drewN ?_ _) | (with_reducible refine Kd.C_drew ?_))); (case side2 => exact (Kd.V_reads' HO701.out).2.1); (case side3 => exact Kd.R_V (Kd.R_tight rfl (Kd.R_types (Kd.R_types (HO704.out) BK696.out (by decide)) BK697.out (by decide)))); (case side4 => exact Kd.R_V (Kd.R_tight rfl (Kd.R_types (Kd.R_types (HO707.out) BK696.out (by decide)) BK697.out (by decide)))); rintro e w24 ⟨v709, rfl, ho0, hb⟩; have n0_ := Aside0.mk (Kd.V_below (by (with_reducible repeat (first | apply Kd.V_alloc | apply Kd.V_drewN | apply Kd.V_drew)); exact HO701.out) hb); have n1_ := Aside0.mk (Kd.R_below (by apply_rules [HO704.out, Kd.R_alloc, Kd.R_drewN, Kd.R_drew]) hb); have n2_ := Aside0.mk (Kd.R_below (by apply_rules [HO707.out, Kd.R_alloc, Kd.R_drewN, Kd.R_drew]) hb); have n3_ := Aside0.mk (Kd.V_lower (Kd.V_mono (ok' := fun k_ => k_ ≠ gb696 ∧ k_ ≠ gb697) ho0 (fun k_ hk_ => ⟨Or.elim hk_ (fun hs_ => Or.elim hs_ (fun hs_ => ((Kd.R_types (Kd.R_types (HO704.out) BK696.out (by decide)) BK697.out (by decide)).1 k_ hs_.symm).1.2) (fun hs_ => ((Kd.R_types (Kd.R_types (HO707.out) BK696.out (by decide)) BK697.out (by decide)).1 k_ hs_.symm).1.2)) (fun hn_ => (Kd.freshB (g := gb696) (o := .cells #[.int .u8 a0_0, .int .i8 a0_1, .int .i8 a0_2, .int .i8 a0_3, .int .i8 a0_4] 50 (0, 0)) (by apply_rules [BK696.out, blk_drewN, blk_drew, blk_alloc]) k_ hn_)), Or.elim hk_ (fun hs_ => Or.elim hs_ (fun hs_ => ((Kd.R_types (Kd.R_types (HO704.out) BK696.out (by decide)) BK697.out (by decide)).1 k_ hs_.symm).2) (fun hs_ => ((Kd.R_types (Kd.R_types (HO707.out) BK696.out (by decide)) BK697.out (by decide)).1 k_ hs_.symm).2)) (fun hn_ => (Kd.freshB (g := gb697) (o := .cells #[.int .i8 a1_0, .int .i8 a1_1, .int .i8 a1_2, .int .i8 a1_3] 48 (0, 0)) (by apply_rules [BK697.out, blk_drewN, blk_drew, blk_alloc]) k_ hn_))⟩)) (below_size (by apply_rules [HB.out, below_alloc, pw_below_drewN, below_drew1, below_set, GE696.out, GE697.out]))); have n4_ := Aside0.mk (blk_below (g := gb696) (o := .cells #[.int .u8 a0_0, .int .i8 a0_1, .int .i8 a0_2, .int .i8 a0_3, .int .i8 a0_4] 50 (0, 0)) (by apply_rules [BK696.out, blk_drewN, blk_drew, blk_alloc]) hb); have n5_ := Aside0.mk (blk_below (g := gb697) (o := .cells #[.int .i8 a1_0, .int .i8 a1_1, .int .i8 a1_2, .int .i8 a1_3] 48 (0, 0)) (by apply_rules [BK697.out, blk_drewN, blk_drew, blk_alloc]) hb); have n6_ := Aside0.mk (below_step (by apply_rules [HB.out, below_alloc, pw_below_drewN, below_drew1, below_set, GE696.out, GE697.out]) hb); clear HO701; clear HO704; clear HO707; clear BK696; clear BK697; clear HB; have HO701 := n0_; have HO704 := n1_; have HO707 := n2_; have HO710 := n3_; have BK696 := n4_; have BK697 := n5_; have HB := n6_; clear n0_ n1_ n2_ n3_ n4_ n5_ n6_; (try clear hb); (try clear ho0)) | (go_at_call 48; (with_reducible refine (monzo_Sub.calls k _ _ t699 (fun k_ => some k_ = (.slice Ao22 t702.length co22 : Value).ownBlock) _ _ t702 (fun k_ => some k_ = (.slice Ao23 t705.length co23 : Value).ownBlock) _ _ t705 t712 t715 _ ?side1 ?side2 ?side3 ?side4 A9.out).mono ?_); (case side1 => repeat (first | exact (Kd.V_reads' HO701.out).2.2 | (with_reducible refine Kd.C_alloc ?_ _) | (with_reducible refine Kd.C_drewN ?_ _) | (with_reducible refine Kd.C_drew ?_))); (case side2 => exact (Kd.V_reads' HO701.out).2.1); (case side3 => exact Kd.R_V (Kd.R_tight rfl (Kd.R_types (Kd.R_types (HO704.out) BK696.out (by decide)) BK697.out (by decide)))); (case side4 => exact Kd.R_V (Kd.R_tight rfl (Kd.R_types (Kd.R_types (HO707.out) BK696.out (by decide)) BK697.out (by decide)))); rintro e w25 ⟨v713, rfl, ho0, hb⟩; have n0_ := Aside0.mk (Kd.V_below (by (with_reducible repeat (first | apply Kd.V_alloc | apply Kd.V_drewN | apply Kd.V_drew)); exact HO701.out) hb); have n1_ := Aside0.mk (Kd.R_below (by apply_rules [HO704.out, Kd.R_alloc, Kd.R_drewN, Kd.R_drew]) hb); have n2_ := Aside0.mk (Kd.R_below (by apply_rules [HO707.out, Kd.R_alloc, Kd.R_drewN, Kd.R_drew]) hb); have n3_ := Aside0.mk (Kd.V_below (by (with_reducible repeat (first | apply Kd.V_alloc | apply Kd.V_drewN | apply Kd.V_drew)); exact HO710.out) hb); have n4_ := Aside0.mk (Kd.V_lower (Kd.V_mono (ok' := fun k_ => k_ ≠ gb696 ∧ k_ ≠ gb697) ho0 (fun k_ hk_ => ⟨Or.elim hk_ (fun hs_ => Or.elim hs_ (fun hs_ => ((Kd.R_types (Kd.R_types (HO704.out) BK696.out (by decide)) BK697.out (by decide)).1 k_ hs_.symm).1.2) (fun hs_ => ((Kd.R_types (Kd.R_types (HO707.out) BK696.out (by decide)) BK697.out (by decide)).1 k_ hs_.symm).1.2)) (fun hn_ => (Kd.freshB (g := gb696) (o := .cells #[.int .u8 a0_0, .int .i8 a0_1, .int .i8 a0_2, .int .i8 a0_3, .int .i8 a0_4] 50 (0, 0)) (by apply_rules [BK696.out, blk_drewN, blk_drew, blk_alloc]) k_ hn_)), Or.elim hk_ (fun hs_ => Or.elim hs_ (fun hs_ => ((Kd.R_types (Kd.R_types (HO704.out) BK696.out (by decide)) BK697.out (by decide)).1 k_ hs_.symm).2) (fun hs_ => ((Kd.R_types (Kd.R_types (HO707.out) BK696.out (by decide)) BK697.out (by decide)).1 k_ hs_.symm).2)) (fun hn_ => (Kd.freshB (g := gb697) (o := .cells #[.int .i8 a1_0, .int .i8 a1_1, .int .i8 a1_2, .int .i8 a1_3] 48 (0, 0)) (by apply_rules [BK697.out, blk_drewN, blk_drew, blk_alloc]) k_ hn_))⟩)) (below_size (by apply_rules [HB.out, below_alloc, pw_below_drewN, below_drew1, below_set, GE696.out, GE697.out]))); have n5_ := Aside0.mk (blk_below (g := gb696) (o := .cells #[.int .u8 a0_0, .int .i8 a0_1, .int .i8 a0_2, .int .i8 a0_3, .int .i8 a0_4] 50 (0, 0)) (by apply_rules [BK696.out, blk_drewN, blk_drew, blk_alloc]) hb); have n6_ := Aside0.mk (blk_below (g := gb697) (o := .cells #[.int .i8 a1_0, .int .i8 a1_1, .int .i8 a1_2, .int .i8 a1_3] 48 (0, 0)) (by apply_rules [BK697.out, blk_drewN, blk_drew, blk_alloc]) hb); have n7_ := Aside0.mk (below_step (by apply_rules [HB.out, below_alloc, pw_below_drewN, below_drew1, below_set, GE696.out, GE697.out]) hb); clear HO701; clear HO704; clear HO707; clear HO710; clear BK696; clear BK697; clear HB; have HO701 := n0_; have HO704 := n1_; have HO707 := n2_; have HO710 := n3_; have HO714 := n4_; have BK696 := n5_; have BK697 := n6_; have HB := n7_; clear n0_ n1_ n2_ n3_ n4_ n5_ n6_ n7_; (try clear hb); (try clear ho0)) | (go_at_call 49; (with_reducible refine (monzo_Neg.calls k _ _ t699 _ _ t702 t716 t719 _ ?side1 ?side2 ?side3 ?side4 A10.out).mono ?_); (case side1 => repeat (first | exact (Kd.V_reads' HO701.out).2.2 | (with_reducible refine Kd.C_alloc ?_ _) | (with_reducible refine Kd.C_drewN ?_ _) | (with_reducible refine Kd.C_drew ?_))); (case side2 => exact (Kd.V_reads' HO701.out).2.1); (case side3 => repeat (first | exact (Kd.R_reads' HO704.out).2.2 | (with_reducible refine Kd.C_alloc ?_ _) | (with_reducible refine Kd.C_drewN ?_ _) | (with_reducible refine Kd.C_drew ?_))); (case side4 => exact (Kd.R_reads' HO704.out).2.1); rintro e w26 ⟨v717, rfl, ho0, hb⟩; have n0_ := Aside0.mk (Kd.V_below (by (with_reducible repeat (first | apply Kd.V_alloc | apply Kd.V_drewN | apply Kd.V_drew)); exact HO701.out) hb); have n1_ := Aside0.mk (Kd.R_below (by apply_rules [HO704.out, Kd.R_alloc, Kd.R_drewN, Kd.R_drew]) hb); have n2_ := Aside0.mk (Kd.R_below (by apply_rules [HO707.out, Kd.R_alloc, Kd.R_drewN, Kd.R_drew]) hb); have n3_ := Aside0.mk (Kd.V_below (by (with_reducible repeat (first | apply Kd.V_alloc | apply Kd.V_drewN | apply Kd.V_drew)); exact HO710.out) hb); have n4_ := Aside0.mk (Kd.V_below (by (with_reducible repeat (first | apply Kd.V_alloc | apply Kd.V_drewN | apply Kd.V_drew)); exact HO714.out) hb); have n5_ := Aside0.mk (Kd.V_lower (Kd.V_mono (ok' := fun k_ => some k_ ≠ (.slice Ao22 t702.length co22 : Value).ownBlock ∧ some k_ ≠ (.slice Ao23 t705.length co23 : Value).ownBlock ∧ k_ ≠ gb696 ∧ k_ ≠ gb697) ho0 (fun k_ hk_ => ⟨(Kd.fresh' (Kd.R_lt (by apply_rules [HO704.out, Kd.R_alloc, Kd.R_drewN, Kd.R_drew])) k_ hk_), (Kd.fresh' (Kd.R_lt (by apply_rules [HO707.out, Kd.R_alloc, Kd.R_drewN, Kd.R_drew])) k_ hk_), (Kd.freshB (g := gb696) (o := .cells #[.int .u8 a0_0, .int .i8 a0_1, .int .i8 a0_2, .int .i8 a0_3, .int .i8 a0_4] 50 (0, 0)) (by apply_rules [BK696.out, blk_drewN, blk_drew, blk_alloc]) k_ hk_), (Kd.freshB (g := gb697) (o := .cells #[.int .i8 a1_0, .int .i8 a1_1, .int .i8 a1_2, .int .i8 a1_3] 48 (0, 0)) (by apply_rules [BK697.out, blk_drewN, blk_drew, blk_alloc]) k_ hk_)⟩)) (below_size (by apply_rules [HB.out, below_alloc, pw_below_drewN, below_drew1, below_set, GE696.out, GE697.out]))); have n6_ := Aside0.mk (blk_below (g := gb696) (o := .cells #[.int .u8 a0_0, .int .i8 a0_1, .int .i8 a0_2, .int .i8 a0_3, .int .i8 a0_4] 50 (0, 0)) (by apply_rules [BK696.out, blk_drewN, blk_drew, blk_alloc]) hb); have n7_ := Aside0.mk (blk_below (g := gb697) (o := .cells #[.int .i8 a1_0, .int .i8 a1_1, .int .i8 a1_2, .int .i8 a1_3] 48 (0, 0)) (by apply_rules [BK697.out, blk_drewN, blk_drew, blk_alloc]) hb); have n8_ := Aside0.mk (below_step (by apply_rules [HB.out, below_alloc, pw_below_drewN, below_drew1, below_set, GE696.out, GE697.out]) hb); clear HO701; clear HO704; clear HO707; clear HO710; clear HO714; clear BK696; clear BK697; clear HB; have HO701 := n0_; have HO704 := n1_; have HO707 := n2_; have HO710 := n3_; have HO714 := n4_; have HO718 := n5_; have BK696 := n6_; have BK697 := n7_; have HB := n8_; clear n0_ n1_ n2_ n3_ n4_ n5_ n6_ n7_ n8_; (try clear hb); (try clear ho0)) | (go_at_call 50; (with_reducible refine (monzo_Power.calls k _ _ t699 _ _ t702 a2 t720 t723 _ ?side1 ?side2 ?side3 ?side4 A11.out).mono ?_); (case side1 => repeat (first | exact (Kd.V_reads' HO701.out).2.2 | (with_reducible refine Kd.C_alloc ?_ _) | (with_reducible refine Kd.C_drewN ?_ _) | (with_reducible refine Kd.C_drew ?_))); (case side2 => exact (Kd.V_reads' HO701.out).2.1); (case side3 => repeat (first | exact (Kd.R_reads' HO704.out).2.2 | (with_reducible refine Kd.C_alloc ?_ _) | (with_reducible refine Kd.C_drewN ?_ _) | (with_reducible refine Kd.C_drew ?_))); (case side4 => exact (Kd.R_reads' HO704.out).2.1); rintro e w27 ⟨v721, rfl, ho0, hb⟩; have n0_ := Aside0.mk (Kd.V_below (by (with_reducible repeat (first | apply Kd.V_alloc | apply Kd.V_drewN | apply Kd.V_drew)); exact HO701.out) hb); have n1_ := Aside0.mk (Kd.R_below (by apply_rules [HO704.out, Kd.R_alloc, Kd.R_drewN, Kd.R_drew]) hb); have n2_ := Aside0.mk (Kd.R_below (by apply_rules [HO707.out, Kd.R_alloc, Kd.R_drewN, Kd.R_drew]) hb); have n3_ := Aside0.mk (Kd.V_below (by (with_reducible repeat (first | apply Kd.V_alloc | apply Kd.V_drewN | apply Kd.V_drew)); exact HO710.out) hb); have n4_ := Aside0.mk (Kd.V_below (by (with_reducible repeat (first | apply Kd.V_alloc | apply Kd.V_drewN | apply Kd.V_drew)); exact HO714.out) hb); have n5_ := Aside0.mk (Kd.V_below (by (with_reducible repeat (first | apply Kd.V_alloc | apply Kd.V_drewN | apply Kd.V_drew)); exact HO718.out) hb); have n6_ := Aside0.mk (Kd.V_lower (Kd.V_mono (ok' := fun k_ => some k_ ≠ (.slice Ao22 t702.length co22 : Value).ownBlock ∧ some k_ ≠ (.slice Ao23 t705.length co23 : Value).ownBlock ∧ k_ ≠ gb696 ∧ k_ ≠ gb697) ho0 (fun k_ hk_ => ⟨(Kd.fresh' (Kd.R_lt (by apply_rules [HO704.out, Kd.R_alloc, Kd.R_drewN, Kd.R_drew])) k_ hk_), (Kd.fresh' (Kd.R_lt (by apply_rules [HO707.out, Kd.R_alloc, Kd.R_drewN, Kd.R_drew])) k_ hk_), (Kd.freshB (g := gb696) (o := .cells #[.int .u8 a0_0, .int .i8 a0_1, .int .i8 a0_2, .int .i8 a0_3, .int .i8 a0_4] 50 (0, 0)) (by apply_rules [BK696.out, blk_drewN, blk_drew, blk_alloc]) k_ hk_), (Kd.freshB (g := gb697) (o := .cells #[.int .i8 a1_0, .int .i8 a1_1, .int .i8 a1_2, .int .i8 a1_3] 48 (0, 0)) (by apply_rules [BK697.out, blk_drewN, blk_drew, blk_alloc]) k_ hk_)⟩)) (below_size (by apply_rules [HB.out, below_alloc, pw_below_drewN, below_drew1, below_set, GE696.out, GE697.out]))); have n7_ := Aside0.mk (blk_below (g := gb696) (o := .cells #[.int .u8 a0_0, .int .i8 a0_1, .int .i8 a0_2, .int .i8 a0_3, .int .i8 a0_4] 50 (0, 0)) (by apply_rules [BK696.out, blk_drewN, blk_drew, blk_alloc]) hb); have n8_ := Aside0.mk (blk_below (g := gb697) (o := .cells #[.int .i8 a1_0, .int .i8 a1_1, .int .i8 a1_2, .int .i8 a1_3] 48 (0, 0)) (by apply_rules [BK697.out, blk_drewN, blk_drew, blk_alloc]) hb); have n9_ := Aside0.mk (below_step (by apply_rules [HB.out, below_alloc, pw_below_drewN, below_drew1, below_set, GE696.out, GE697.out]) hb); clear HO701; clear HO704; clear HO707; clear HO710; clear HO714; clear HO718; clear BK696; clear BK697; clear HB; have HO701 := n0_; have HO704 := n1_; have HO707 := n2_; have HO710 := n3_; have HO714 := n4_; have HO718 := n5_; have HO722 := n6_; have BK696 := n7_; have BK697 := n8_; have HB := n9_; clear n0_ n1_ n2_ n3_ n4_ n5_ n6_ n7_ n8_ n9_; (try clear hb); (try clear ho0)))
  repeat (go_quiet (first | ((with_reducible refine gate_dst (N := 3) rfl ?_); (try (refine gate_guard (by rfl) ?_; dsimp only)); refine box_event ?hg (N := 3) ?hd (cs := #[.int .u8 a0_0, .int .i8 a0_1, .int .i8 a0_2, .int .i8 a0_3, .int .i8 a0_4]) (t := 50) ?hr ?_; (case hd => rfl); (case hg => rfl); (case hr => go_simp; try rfl); intro gb696 hg w13 hbox hb; have n0_ := Aside0.mk (below_step (by apply_rules [HB.out, below_alloc, pw_below_drewN, below_drew1]) hb); have n1_ := Aside0.mk (hbox); have n2_ := Aside0.mk ((by rw [hg]; exact (below_size (by apply_rules [HB.out, below_alloc, pw_below_drewN, below_drew1])) : w.heap.size ≤ gb696)); have n3_ := Aside0.mk ((by rw [hg]; exact (below_size (by apply_rules [HB.out, below_alloc, pw_below_drewN, below_drew1])) : w.heap.size ≤ gb696)); clear HB; have HB := n0_; have BK696 := n1_; have GW696 := n2_; have GE696 := n3_; clear n0_ n1_ n2_ n3_; clear hb hbox hg) | ((with_reducible refine gate_dst (N := 4) rfl ?_); (try (refine gate_guard (by rfl) ?_; dsimp only)); refine box_event ?hg (N := 4) ?hd (cs := #[.int .i8 a1_0, .int .i8 a1_1, .int .i8 a1_2, .int .i8 a1_3]) (t := 48) ?hr ?_; (case hd => rfl); (case hg => rfl); (case hr => go_simp; try rfl); intro gb697 hg w14 hbox hb; have n0_ := Aside0.mk (blk_below (g := gb696) (o := .cells #[.int .u8 a0_0, .int .i8 a0_1, .int .i8 a0_2, .int .i8 a0_3, .int .i8 a0_4] 50 (0, 0)) (by apply_rules [BK696.out, blk_drewN, blk_drew, blk_alloc]) hb); have n1_ := Aside0.mk (below_step (by apply_rules [HB.out, below_alloc, pw_below_drewN, below_drew1, below_set, GE696.out]) hb); have n2_ := Aside0.mk (hbox); have n3_ := Aside0.mk ((by rw [hg]; exact (below_size (by apply_rules [HB.out, below_alloc, pw_below_drewN, below_drew1, below_set, GE696.out])) : w.heap.size ≤ gb697)); have n4_ := Aside0.mk ((by rw [hg]; exact (below_size (by apply_rules [HB.out, below_alloc, pw_below_drewN, below_drew1, below_set, GE696.out])) : w.heap.size ≤ gb697)); have n5_ := Aside0.mk ((by rw [hg]; exact Nat.ne_of_lt (blk_lt (g := gb696) (o := .cells #[.int .u8 a0_0, .int .i8 a0_1, .int .i8 a0_2, .int .i8 a0_3, .int .i8 a0_4] 50 (0, 0)) (by apply_rules [BK696.out, blk_drewN, blk_drew, blk_alloc])) : gb696 ≠ gb697)); have n6_ := Aside0.mk ((by rw [hg]; exact Nat.ne_of_gt (blk_lt (g := gb696) (o := .cells #[.int .u8 a0_0, .int .i8 a0_1, .int .i8 a0_2, .int .i8 a0_3, .int .i8 a0_4] 50 (0, 0)) (by apply_rules [BK696.out, blk_drewN, blk_drew, blk_alloc])) : gb697 ≠ gb696)); clear BK696; clear HB; have BK696 := n0_; have HB := n1_; have BK697 := n2_; have GW697 := n3_; have GE697 := n4_; have NB696_697 := n5_; have NB697_696 := n6_; clear n0_ n1_ n2_ n3_ n4_ n5_ n6_; clear hb hbox hg) | (go_at_call 22; (with_reducible refine (schismalaw12_known.calls k  true _ ?side1 A4.out (by first | rfl | assumption)).mono ?_); (case side1 => refine TabW.below hT ?_; apply_rules [HB.out, below_alloc, pw_below_drewN, below_drew1, below_set, GE696.out, GE697.out]); rintro e w15 ⟨rfl, hb⟩; replace BK696 := Aside0.mk (blk_below (g := gb696) (o := .cells #[.int .u8 a0_0, .int .i8 a0_1, .int .i8 a0_2, .int .i8 a0_3, .int .i8 a0_4] 50 (0, 0)) (by apply_rules [BK696.out, blk_drewN, blk_drew, blk_alloc]) hb); replace BK697 := Aside0.mk (blk_below (g := gb697) (o := .cells #[.int .i8 a1_0, .int .i8 a1_1, .int .i8 a1_2, .int .i8 a1_3] 48 (0, 0)) (by apply_rules [BK697.out, blk_drewN, blk_drew, blk_alloc]) hb); replace HB := Aside0.mk (below_step (by apply_rules [HB.out, below_alloc, pw_below_drewN, below_drew1, below_set, GE696.out, GE697.out]) hb); (try clear hb); have hnb16 := NB696_697.out; have hnc16 := NB697_696.out; have hcz17_0 : w15.cell? ⟨gb696, 0, none⟩ = some (.int .u8 a0_0) := (blk_cell BK696.out 0).trans rfl; have hcz17_1 : w15.cell? ⟨gb696, 1, none⟩ = some (.int .i8 a0_1) := (blk_cell BK696.out 1).trans rfl; have hcz17_2 : w15.cell? ⟨gb696, 2, none⟩ = some (.int .i8 a0_2) := (blk_cell BK696.out 2).trans rfl; have hcz17_3 : w15.cell? ⟨gb696, 3, none⟩ = some (.int .i8 a0_3) := (blk_cell BK696.out 3).trans rfl; have hcz17_4 : w15.cell? ⟨gb696, 4, none⟩ = some (.int .i8 a0_4) := (blk_cell BK696.out 4).trans rfl; have hfz17_0 := blk_frozen BK696.out 0; have hfz17_1 := blk_frozen BK696.out 1; have hfz17_2 := blk_frozen BK696.out 2; have hfz17_3 := blk_frozen BK696.out 3; have hfz17_4 := blk_frozen BK696.out 4) | (go_at_call 35; (with_reducible refine (schismalaw12_Make.calls k a0_0 a0_1 a0_2 a0_3 a0_4 t699 t702 _ A6.out).mono ?_); rintro e w18 ⟨v700, v703, rfl, ho0, ho1, hb⟩; have HO701 := Aside0.mk (Kd.V_lower (Kd.V_mono (ok' := fun k_ => some k_ ≠ (v703 : Value).ownBlock ∧ k_ ≠ gb696 ∧ k_ ≠ gb697) ho0 (fun k_ hk_ => ⟨hk_.2, (Kd.freshB (g := gb696) (o := .cells #[.int .u8 a0_0, .int .i8 a0_1, .int .i8 a0_2, .int .i8 a0_3, .int .i8 a0_4] 50 (0, 0)) (by apply_rules [BK696.out, blk_drewN, blk_drew, blk_alloc]) k_ hk_.1), (Kd.freshB (g := gb697) (o := .cells #[.int .i8 a1_0, .int .i8 a1_1, .int .i8 a1_2, .int .i8 a1_3] 48 (0, 0)) (by apply_rules [BK697.out, blk_drewN, blk_drew, blk_alloc]) k_ hk_.1)⟩)) (below_size (by apply_rules [HB.out, below_alloc, pw_below_drewN, below_drew1, below_set, GE696.out, GE697.out]))); have HO704 := Aside0.mk (Kd.R_lower (Kd.R_mono (ok' := fun k_ => True) ho1 (fun _ hk_ => trivial)) (below_size (by apply_rules [HB.out, below_alloc, pw_below_drewN, below_drew1, below_set, GE696.out, GE697.out]))); replace BK696 := Aside0.mk (blk_below (g := gb696) (o := .cells #[.int .u8 a0_0, .int .i8 a0_1, .int .i8 a0_2, .int .i8 a0_3, .int .i8 a0_4] 50 (0, 0)) (by apply_rules [BK696.out, blk_drewN, blk_drew, blk_alloc]) hb); replace BK697 := Aside0.mk (blk_below (g := gb697) (o := .cells #[.int .i8 a1_0, .int .i8 a1_1, .int .i8 a1_2, .int .i8 a1_3] 48 (0, 0)) (by apply_rules [BK697.out, blk_drewN, blk_drew, blk_alloc]) hb); replace HB := Aside0.mk (below_step (by apply_rules [HB.out, below_alloc, pw_below_drewN, below_drew1, below_set, GE696.out, GE697.out]) hb); (try clear hb); (try clear ho0); (try clear ho1); have hcz19_0 : w18.cell? ⟨gb697, 0, none⟩ = some (.int .i8 a1_0) := (blk_cell BK697.out 0).trans rfl; have hcz19_1 : w18.cell? ⟨gb697, 1, none⟩ = some (.int .i8 a1_1) := (blk_cell BK697.out 1).trans rfl; have hcz19_2 : w18.cell? ⟨gb697, 2, none⟩ = some (.int .i8 a1_2) := (blk_cell BK697.out 2).trans rfl; have hcz19_3 : w18.cell? ⟨gb697, 3, none⟩ = some (.int .i8 a1_3) := (blk_cell BK697.out 3).trans rfl; have hfz19_0 := blk_frozen BK697.out 0; have hfz19_1 := blk_frozen BK697.out 1; have hfz19_2 := blk_frozen BK697.out 2; have hfz19_3 := blk_frozen BK697.out 3; obtain ⟨Ao20, co20, eo20⟩ := Kd.V_slice HO701.out; subst eo20) | (go_at_call 46; (with_reducible refine (schismalaw12_Interval.calls k _ _ t699 a1_0 a1_1 a1_2 a1_3 t705 _ ?side1 ?side2 A7.out).mono ?_); (case side1 => repeat (first | exact (Kd.V_reads' HO701.out).2.2 | (with_reducible refine Kd.C_alloc ?_ _) | (with_reducible refine Kd.C_drewN ?_ _) | (with_reducible refine Kd.C_drew ?_))); (case side2 => exact (Kd.V_reads' HO701.out).2.1); rintro e w21 ⟨v706, rfl, ho0, hb⟩; have n0_ := Aside0.mk (Kd.V_elder' (by (with_reducible repeat (first | apply Kd.V_alloc | apply Kd.V_drewN | apply Kd.V_drew)); exact HO701.out) (Kd.R_base ho0) hb); have n1_ := Aside0.mk (Kd.R_elder' (by apply_rules [HO704.out, Kd.R_alloc, Kd.R_drewN, Kd.R_drew]) (Kd.R_base ho0) hb); have n2_ := Aside0.mk (Kd.R_lower (Kd.R_new' ho0 (Kd.R_lt (by apply_rules [HO704.out, Kd.R_alloc, Kd.R_drewN, Kd.R_drew]))) (below_size (by apply_rules [HB.out, below_alloc, pw_below_drewN, below_drew1, below_set, GE696.out, GE697.out]))); have n3_ := Aside0.mk (blk_below (g := gb696) (o := .cells #[.int .u8 a0_0, .int .i8 a0_1, .int .i8 a0_2, .int .i8 a0_3, .int .i8 a0_4] 50 (0, 0)) (by apply_rules [BK696.out, blk_drewN, blk_drew, blk_alloc]) hb); have n4_ := Aside0.mk (blk_below (g := gb697) (o := .cells #[.int .i8 a1_0, .int .i8 a1_1, .int .i8 a1_2, .int .i8 a1_3] 48 (0, 0)) (by apply_rules [BK697.out, blk_drewN, blk_drew, blk_alloc]) hb); have n5_ := Aside0.mk (below_step (by apply_rules [HB.out, below_alloc, pw_below_drewN, below_drew1, below_set, GE696.out, GE697.out]) hb); clear HO701; clear HO704; clear BK696; clear BK697; clear HB; have HO701 := n0_; have HO704 := n1_; have HO707 := n2_; have BK696 := n3_; have BK697 := n4_; have HB := n5_; clear n0_ n1_ n2_ n3_ n4_ n5_; (try clear hb); (try clear ho0); obtain ⟨Ao22, co22, eo22⟩ := Kd.R_slice HO704.out; subst eo22; obtain ⟨Ao23, co23, eo23⟩ := Kd.R_slice HO707.out; subst eo23) | (go_at_call 47; (with_reducible refine (monzo_Add.calls k _ _ t699 (fun k_ => some k_ = (.slice Ao22 t702.length co22 : Value).ownBlock) _ _ t702 (fun k_ => some k_ = (.slice Ao23 t705.length co23 : Value).ownBlock) _ _ t705 t708 t711 _ ?side1 ?side2 ?side3 ?side4 A8.out).mono ?_); (case side1 => repeat (first | exact (Kd.V_reads' HO701.out).2.2 | (with_reducible refine Kd.C_alloc ?_ _) | (with_reducible refine Kd.C_drewN ?_ _) | (with_reducible refine Kd.C_drew ?_))); (case side2 => exact (Kd.V_reads' HO701.out).2.1); (case side3 => exact Kd.R_V (Kd.R_tight rfl (Kd.R_types (Kd.R_types (HO704.out) BK696.out (by decide)) BK697.out (by decide)))); (case side4 => exact Kd.R_V (Kd.R_tight rfl (Kd.R_types (Kd.R_types (HO707.out) BK696.out (by decide)) BK697.out (by decide)))); rintro e w24 ⟨v709, rfl, ho0, hb⟩; have n0_ := Aside0.mk (Kd.V_below (by (with_reducible repeat (first | apply Kd.V_alloc | apply Kd.V_drewN | apply Kd.V_drew)); exact HO701.out) hb); have n1_ := Aside0.mk (Kd.R_below (by apply_rules [HO704.out, Kd.R_alloc, Kd.R_drewN, Kd.R_drew]) hb); have n2_ := Aside0.mk (Kd.R_below (by apply_rules [HO707.out, Kd.R_alloc, Kd.R_drewN, Kd.R_drew]) hb); have n3_ := Aside0.mk (Kd.V_lower (Kd.V_mono (ok' := fun k_ => k_ ≠ gb696 ∧ k_ ≠ gb697) ho0 (fun k_ hk_ => ⟨Or.elim hk_ (fun hs_ => Or.elim hs_ (fun hs_ => ((Kd.R_types (Kd.R_types (HO704.out) BK696.out (by decide)) BK697.out (by decide)).1 k_ hs_.symm).1.2) (fun hs_ => ((Kd.R_types (Kd.R_types (HO707.out) BK696.out (by decide)) BK697.out (by decide)).1 k_ hs_.symm).1.2)) (fun hn_ => (Kd.freshB (g := gb696) (o := .cells #[.int .u8 a0_0, .int .i8 a0_1, .int .i8 a0_2, .int .i8 a0_3, .int .i8 a0_4] 50 (0, 0)) (by apply_rules [BK696.out, blk_drewN, blk_drew, blk_alloc]) k_ hn_)), Or.elim hk_ (fun hs_ => Or.elim hs_ (fun hs_ => ((Kd.R_types (Kd.R_types (HO704.out) BK696.out (by decide)) BK697.out (by decide)).1 k_ hs_.symm).2) (fun hs_ => ((Kd.R_types (Kd.R_types (HO707.out) BK696.out (by decide)) BK697.out (by decide)).1 k_ hs_.symm).2)) (fun hn_ => (Kd.freshB (g := gb697) (o := .cells #[.int .i8 a1_0, .int .i8 a1_1, .int .i8 a1_2, .int .i8 a1_3] 48 (0, 0)) (by apply_rules [BK697.out, blk_drewN, blk_drew, blk_alloc]) k_ hn_))⟩)) (below_size (by apply_rules [HB.out, below_alloc, pw_below_drewN, below_drew1, below_set, GE696.out, GE697.out]))); have n4_ := Aside0.mk (blk_below (g := gb696) (o := .cells #[.int .u8 a0_0, .int .i8 a0_1, .int .i8 a0_2, .int .i8 a0_3, .int .i8 a0_4] 50 (0, 0)) (by apply_rules [BK696.out, blk_drewN, blk_drew, blk_alloc]) hb); have n5_ := Aside0.mk (blk_below (g := gb697) (o := .cells #[.int .i8 a1_0, .int .i8 a1_1, .int .i8 a1_2, .int .i8 a1_3] 48 (0, 0)) (by apply_rules [BK697.out, blk_drewN, blk_drew, blk_alloc]) hb); have n6_ := Aside0.mk (below_step (by apply_rules [HB.out, below_alloc, pw_below_drewN, below_drew1, below_set, GE696.out, GE697.out]) hb); clear HO701; clear HO704; clear HO707; clear BK696; clear BK697; clear HB; have HO701 := n0_; have HO704 := n1_; have HO707 := n2_; have HO710 := n3_; have BK696 := n4_; have BK697 := n5_; have HB := n6_; clear n0_ n1_ n2_ n3_ n4_ n5_ n6_; (try clear hb); (try clear ho0)) | (go_at_call 48; (with_reducible refine (monzo_Sub.calls k _ _ t699 (fun k_ => some k_ = (.slice Ao22 t702.length co22 : Value).ownBlock) _ _ t702 (fun k_ => some k_ = (.slice Ao23 t705.length co23 : Value).ownBlock) _ _ t705 t712 t715 _ ?side1 ?side2 ?side3 ?side4 A9.out).mono ?_); (case side1 => repeat (first | exact (Kd.V_reads' HO701.out).2.2 | (with_reducible refine Kd.C_alloc ?_ _) | (with_reducible refine Kd.C_drewN ?_ _) | (with_reducible refine Kd.C_drew ?_))); (case side2 => exact (Kd.V_reads' HO701.out).2.1); (case side3 => exact Kd.R_V (Kd.R_tight rfl (Kd.R_types (Kd.R_types (HO704.out) BK696.out (by decide)) BK697.out (by decide)))); (case side4 => exact Kd.R_V (Kd.R_tight rfl (Kd.R_types (Kd.R_types (HO707.out) BK696.out (by decide)) BK697.out (by decide)))); rintro e w25 ⟨v713, rfl, ho0, hb⟩; have n0_ := Aside0.mk (Kd.V_below (by (with_reducible repeat (first | apply Kd.V_alloc | apply Kd.V_drewN | apply Kd.V_drew)); exact HO701.out) hb); have n1_ := Aside0.mk (Kd.R_below (by apply_rules [HO704.out, Kd.R_alloc, Kd.R_drewN, Kd.R_drew]) hb); have n2_ := Aside0.mk (Kd.R_below (by apply_rules [HO707.out, Kd.R_alloc, Kd.R_drewN, Kd.R_drew]) hb); have n3_ := Aside0.mk (Kd.V_below (by (with_reducible repeat (first | apply Kd.V_alloc | apply Kd.V_drewN | apply Kd.V_drew)); exact HO710.out) hb); have n4_ := Aside0.mk (Kd.V_lower (Kd.V_mono (ok' := fun k_ => k_ ≠ gb696 ∧ k_ ≠ gb697) ho0 (fun k_ hk_ => ⟨Or.elim hk_ (fun hs_ => Or.elim hs_ (fun hs_ => ((Kd.R_types (Kd.R_types (HO704.out) BK696.out (by decide)) BK697.out (by decide)).1 k_ hs_.symm).1.2) (fun hs_ => ((Kd.R_types (Kd.R_types (HO707.out) BK696.out (by decide)) BK697.out (by decide)).1 k_ hs_.symm).1.2)) (fun hn_ => (Kd.freshB (g := gb696) (o := .cells #[.int .u8 a0_0, .int .i8 a0_1, .int .i8 a0_2, .int .i8 a0_3, .int .i8 a0_4] 50 (0, 0)) (by apply_rules [BK696.out, blk_drewN, blk_drew, blk_alloc]) k_ hn_)), Or.elim hk_ (fun hs_ => Or.elim hs_ (fun hs_ => ((Kd.R_types (Kd.R_types (HO704.out) BK696.out (by decide)) BK697.out (by decide)).1 k_ hs_.symm).2) (fun hs_ => ((Kd.R_types (Kd.R_types (HO707.out) BK696.out (by decide)) BK697.out (by decide)).1 k_ hs_.symm).2)) (fun hn_ => (Kd.freshB (g := gb697) (o := .cells #[.int .i8 a1_0, .int .i8 a1_1, .int .i8 a1_2, .int .i8 a1_3] 48 (0, 0)) (by apply_rules [BK697.out, blk_drewN, blk_drew, blk_alloc]) k_ hn_))⟩)) (below_size (by apply_rules [HB.out, below_alloc, pw_below_drewN, below_drew1, below_set, GE696.out, GE697.out]))); have n5_ := Aside0.mk (blk_below (g := gb696) (o := .cells #[.int .u8 a0_0, .int .i8 a0_1, .int .i8 a0_2, .int .i8 a0_3, .int .i8 a0_4] 50 (0, 0)) (by apply_rules [BK696.out, blk_drewN, blk_drew, blk_alloc]) hb); have n6_ := Aside0.mk (blk_below (g := gb697) (o := .cells #[.int .i8 a1_0, .int .i8 a1_1, .int .i8 a1_2, .int .i8 a1_3] 48 (0, 0)) (by apply_rules [BK697.out, blk_drewN, blk_drew, blk_alloc]) hb); have n7_ := Aside0.mk (below_step (by apply_rules [HB.out, below_alloc, pw_below_drewN, below_drew1, below_set, GE696.out, GE697.out]) hb); clear HO701; clear HO704; clear HO707; clear HO710; clear BK696; clear BK697; clear HB; have HO701 := n0_; have HO704 := n1_; have HO707 := n2_; have HO710 := n3_; have HO714 := n4_; have BK696 := n5_; have BK697 := n6_; have HB := n7_; clear n0_ n1_ n2_ n3_ n4_ n5_ n6_ n7_; (try clear hb); (try clear ho0)) | (go_at_call 49; (with_reducible refine (monzo_Neg.calls k _ _ t699 _ _ t702 t716 t719 _ ?side1 ?side2 ?side3 ?side4 A10.out).mono ?_); (case side1 => repeat (first | exact (Kd.V_reads' HO701.out).2.2 | (with_reducible refine Kd.C_alloc ?_ _) | (with_reducible refine Kd.C_drewN ?_ _) | (with_reducible refine Kd.C_drew ?_))); (case side2 => exact (Kd.V_reads' HO701.out).2.1); (case side3 => repeat (first | exact (Kd.R_reads' HO704.out).2.2 | (with_reducible refine Kd.C_alloc ?_ _) | (with_reducible refine Kd.C_drewN ?_ _) | (with_reducible refine Kd.C_drew ?_))); (case side4 => exact (Kd.R_reads' HO704.out).2.1); rintro e w26 ⟨v717, rfl, ho0, hb⟩; have n0_ := Aside0.mk (Kd.V_below (by (with_reducible repeat (first | apply Kd.V_alloc | apply Kd.V_drewN | apply Kd.V_drew)); exact HO701.out) hb); have n1_ := Aside0.mk (Kd.R_below (by apply_rules [HO704.out, Kd.R_alloc, Kd.R_drewN, Kd.R_drew]) hb); have n2_ := Aside0.mk (Kd.R_below (by apply_rules [HO707.out, Kd.R_alloc, Kd.R_drewN, Kd.R_drew]) hb); have n3_ := Aside0.mk (Kd.V_below (by (with_reducible repeat (first | apply Kd.V_alloc | apply Kd.V_drewN | apply Kd.V_drew)); exact HO710.out) hb); have n4_ := Aside0.mk (Kd.V_below (by (with_reducible repeat (first | apply Kd.V_alloc | apply Kd.V_drewN | apply Kd.V_drew)); exact HO714.out) hb); have n5_ := Aside0.mk (Kd.V_lower (Kd.V_mono (ok' := fun k_ => some k_ ≠ (.slice Ao22 t702.length co22 : Value).ownBlock ∧ some k_ ≠ (.slice Ao23 t705.length co23 : Value).ownBlock ∧ k_ ≠ gb696 ∧ k_ ≠ gb697) ho0 (fun k_ hk_ => ⟨(Kd.fresh' (Kd.R_lt (by apply_rules [HO704.out, Kd.R_alloc, Kd.R_drewN, Kd.R_drew])) k_ hk_), (Kd.fresh' (Kd.R_lt (by apply_rules [HO707.out, Kd.R_alloc, Kd.R_drewN, Kd.R_drew])) k_ hk_), (Kd.freshB (g := gb696) (o := .cells #[.int .u8 a0_0, .int .i8 a0_1, .int .i8 a0_2, .int .i8 a0_3, .int .i8 a0_4] 50 (0, 0)) (by apply_rules [BK696.out, blk_drewN, blk_drew, blk_alloc]) k_ hk_), (Kd.freshB (g := gb697) (o := .cells #[.int .i8 a1_0, .int .i8 a1_1, .int .i8 a1_2, .int .i8 a1_3] 48 (0, 0)) (by apply_rules [BK697.out, blk_drewN, blk_drew, blk_alloc]) k_ hk_)⟩)) (below_size (by apply_rules [HB.out, below_alloc, pw_below_drewN, below_drew1, below_set, GE696.out, GE697.out]))); have n6_ := Aside0.mk (blk_below (g := gb696) (o := .cells #[.int .u8 a0_0, .int .i8 a0_1, .int .i8 a0_2, .int .i8 a0_3, .int .i8 a0_4] 50 (0, 0)) (by apply_rules [BK696.out, blk_drewN, blk_drew, blk_alloc]) hb); have n7_ := Aside0.mk (blk_below (g := gb697) (o := .cells #[.int .i8 a1_0, .int .i8 a1_1, .int .i8 a1_2, .int .i8 a1_3] 48 (0, 0)) (by apply_rules [BK697.out, blk_drewN, blk_drew, blk_alloc]) hb); have n8_ := Aside0.mk (below_step (by apply_rules [HB.out, below_alloc, pw_below_drewN, below_drew1, below_set, GE696.out, GE697.out]) hb); clear HO701; clear HO704; clear HO707; clear HO710; clear HO714; clear BK696; clear BK697; clear HB; have HO701 := n0_; have HO704 := n1_; have HO707 := n2_; have HO710 := n3_; have HO714 := n4_; have HO718 := n5_; have BK696 := n6_; have BK697 := n7_; have HB := n8_; clear n0_ n1_ n2_ n3_ n4_ n5_ n6_ n7_ n8_; (try clear hb); (try clear ho0)) | (go_at_call 50; (with_reducible refine (monzo_Power.calls k _ _ t699 _ _ t702 a2 t720 t723 _ ?side1 ?side2 ?side3 ?side4 A11.out).mono ?_); (case side1 => repeat (first | exact (Kd.V_reads' HO701.out).2.2 | (with_reducible refine Kd.C_alloc ?_ _) | (with_reducible refine Kd.C_drewN ?_ _) | (with_reducible refine Kd.C_drew ?_))); (case side2 => exact (Kd.V_reads' HO701.out).2.1); (case side3 => repeat (first | exact (Kd.R_reads' HO704.out).2.2 | (with_reducible refine Kd.C_alloc ?_ _) | (with_reducible refine Kd.C_drewN ?_ _) | (with_reducible refine Kd.C_drew ?_))); (case side4 => exact (Kd.R_reads' HO704.out).2.1); rintro e w27 ⟨v721, rfl, ho0, hb⟩; have n0_ := Aside0.mk (Kd.V_below (by (with_reducible repeat (first | apply Kd.V_alloc | apply Kd.V_drewN | apply Kd.V_drew)); exact HO701.out) hb); have n1_ := Aside0.mk (Kd.R_below (by apply_rules [HO704.out, Kd.R_alloc, Kd.R_drewN, Kd.R_drew]) hb); have n2_ := Aside0.mk (Kd.R_below (by apply_rules [HO707.out, Kd.R_alloc, Kd.R_drewN, Kd.R_drew]) hb); have n3_ := Aside0.mk (Kd.V_below (by (with_reducible repeat (first | apply Kd.V_alloc | apply Kd.V_drewN | apply Kd.V_drew)); exact HO710.out) hb); have n4_ := Aside0.mk (Kd.V_below (by (with_reducible repeat (first | apply Kd.V_alloc | apply Kd.V_drewN | apply Kd.V_drew)); exact HO714.out) hb); have n5_ := Aside0.mk (Kd.V_below (by (with_reducible repeat (first | apply Kd.V_alloc | apply Kd.V_drewN | apply Kd.V_drew)); exact HO718.out) hb); have n6_ := Aside0.mk (Kd.V_lower (Kd.V_mono (ok' := fun k_ => some k_ ≠ (.slice Ao22 t702.length co22 : Value).ownBlock ∧ some k_ ≠ (.slice Ao23 t705.length co23 : Value).ownBlock ∧ k_ ≠ gb696 ∧ k_ ≠ gb697) ho0 (fun k_ hk_ => ⟨(Kd.fresh' (Kd.R_lt (by apply_rules [HO704.out, Kd.R_alloc, Kd.R_drewN, Kd.R_drew])) k_ hk_), (Kd.fresh' (Kd.R_lt (by apply_rules [HO707.out, Kd.R_alloc, Kd.R_drewN, Kd.R_drew])) k_ hk_), (Kd.freshB (g := gb696) (o := .cells #[.int .u8 a0_0, .int .i8 a0_1, .int .i8 a0_2, .int .i8 a0_3, .int .i8 a0_4] 50 (0, 0)) (by apply_rules [BK696.out, blk_drewN, blk_drew, blk_alloc]) k_ hk_), (Kd.freshB (g := gb697) (o := .cells #[.int .i8 a1_0, .int .i8 a1_1, .int .i8 a1_2, .int .i8 a1_3] 48 (0, 0)) (by apply_rules [BK697.out, blk_drewN, blk_drew, blk_alloc]) k_ hk_)⟩)) (below_size (by apply_rules [HB.out, below_alloc, pw_below_drewN, below_drew1, below_set, GE696.out, GE697.out]))); have n7_ := Aside0.mk (blk_below (g := gb696) (o := .cells #[.int .u8 a0_0, .int .i8 a0_1, .int .i8 a0_2, .int .i8 a0_3, .int .i8 a0_4] 50 (0, 0)) (by apply_rules [BK696.out, blk_drewN, blk_drew, blk_alloc]) hb); have n8_ := Aside0.mk (blk_below (g := gb697) (o := .cells #[.int .i8 a1_0, .int .i8 a1_1, .int .i8 a1_2, .int .i8 a1_3] 48 (0, 0)) (by apply_rules [BK697.out, blk_drewN, blk_drew, blk_alloc]) hb); have n9_ := Aside0.mk (below_step (by apply_rules [HB.out, below_alloc, pw_below_drewN, below_drew1, below_set, GE696.out, GE697.out]) hb); clear HO701; clear HO704; clear HO707; clear HO710; clear HO714; clear HO718; clear BK696; clear BK697; clear HB; have HO701 := n0_; have HO704 := n1_; have HO707 := n2_; have HO710 := n3_; have HO714 := n4_; have HO718 := n5_; have HO722 := n6_; have BK696 := n7_; have BK697 := n8_; have HB := n9_; clear n0_ n1_ n2_ n3_ n4_ n5_ n6_ n7_ n8_ n9_; (try clear hb); (try clear ho0))); go_upto_region 9 with (first | ((with_reducible refine gate_dst (N := 3) rfl ?_); (try (refine gate_guard (by rfl) ?_; dsimp only)); refine box_event ?hg (N := 3) ?hd (cs := #[.int .u8 a0_0, .int .i8 a0_1, .int .i8 a0_2, .int .i8 a0_3, .int .i8 a0_4]) (t := 50) ?hr ?_; (case hd => rfl); (case hg => rfl); (case hr => go_simp; try rfl); intro gb696 hg w13 hbox hb; have n0_ := Aside0.mk (below_step (by apply_rules [HB.out, below_alloc, pw_below_drewN, below_drew1]) hb); have n1_ := Aside0.mk (hbox); have n2_ := Aside0.mk ((by rw [hg]; exact (below_size (by apply_rules [HB.out, below_alloc, pw_below_drewN, below_drew1])) : w.heap.size ≤ gb696)); have n3_ := Aside0.mk ((by rw [hg]; exact (below_size (by apply_rules [HB.out, below_alloc, pw_below_drewN, below_drew1])) : w.heap.size ≤ gb696)); clear HB; have HB := n0_; have BK696 := n1_; have GW696 := n2_; have GE696 := n3_; clear n0_ n1_ n2_ n3_; clear hb hbox hg) | ((with_reducible refine gate_dst (N := 4) rfl ?_); (try (refine gate_guard (by rfl) ?_; dsimp only)); refine box_event ?hg (N := 4) ?hd (cs := #[.int .i8 a1_0, .int .i8 a1_1, .int .i8 a1_2, .int .i8 a1_3]) (t := 48) ?hr ?_; (case hd => rfl); (case hg => rfl); (case hr => go_simp; try rfl); intro gb697 hg w14 hbox hb; have n0_ := Aside0.mk (blk_below (g := gb696) (o := .cells #[.int .u8 a0_0, .int .i8 a0_1, .int .i8 a0_2, .int .i8 a0_3, .int .i8 a0_4] 50 (0, 0)) (by apply_rules [BK696.out, blk_drewN, blk_drew, blk_alloc]) hb); have n1_ := Aside0.mk (below_step (by apply_rules [HB.out, below_alloc, pw_below_drewN, below_drew1, below_set, GE696.out]) hb); have n2_ := Aside0.mk (hbox); have n3_ := Aside0.mk ((by rw [hg]; exact (below_size (by apply_rules [HB.out, below_alloc, pw_below_drewN, below_drew1, below_set, GE696.out])) : w.heap.size ≤ gb697)); have n4_ := Aside0.mk ((by rw [hg]; exact (below_size (by apply_rules [HB.out, below_alloc, pw_below_drewN, below_drew1, below_set, GE696.out])) : w.heap.size ≤ gb697)); have n5_ := Aside0.mk ((by rw [hg]; exact Nat.ne_of_lt (blk_lt (g := gb696) (o := .cells #[.int .u8 a0_0, .int .i8 a0_1, .int .i8 a0_2, .int .i8 a0_3, .int .i8 a0_4] 50 (0, 0)) (by apply_rules [BK696.out, blk_drewN, blk_drew, blk_alloc])) : gb696 ≠ gb697)); have n6_ := Aside0.mk ((by rw [hg]; exact Nat.ne_of_gt (blk_lt (g := gb696) (o := .cells #[.int .u8 a0_0, .int .i8 a0_1, .int .i8 a0_2, .int .i8 a0_3, .int .i8 a0_4] 50 (0, 0)) (by apply_rules [BK696.out, blk_drewN, blk_drew, blk_alloc])) : gb697 ≠ gb696)); clear BK696; clear HB; have BK696 := n0_; have HB := n1_; have BK697 := n2_; have GW697 := n3_; have GE697 := n4_; have NB696_697 := n5_; have NB697_696 := n6_; clear n0_ n1_ n2_ n3_ n4_ n5_ n6_; clear hb hbox hg) | (go_at_call 22; (with_reducible refine (schismalaw12_known.calls k  true _ ?side1 A4.out (by first | rfl | assumption)).mono ?_); (case side1 => refine TabW.below hT ?_; apply_rules [HB.out, below_alloc, pw_below_drewN, below_drew1, below_set, GE696.out, GE697.out]); rintro e w15 ⟨rfl, hb⟩; replace BK696 := Aside0.mk (blk_below (g := gb696) (o := .cells #[.int .u8 a0_0, .int .i8 a0_1, .int .i8 a0_2, .int .i8 a0_3, .int .i8 a0_4] 50 (0, 0)) (by apply_rules [BK696.out, blk_drewN, blk_drew, blk_alloc]) hb); replace BK697 := Aside0.mk (blk_below (g := gb697) (o := .cells #[.int .i8 a1_0, .int .i8 a1_1, .int .i8 a1_2, .int .i8 a1_3] 48 (0, 0)) (by apply_rules [BK697.out, blk_drewN, blk_drew, blk_alloc]) hb); replace HB := Aside0.mk (below_step (by apply_rules [HB.out, below_alloc, pw_below_drewN, below_drew1, below_set, GE696.out, GE697.out]) hb); (try clear hb); have hnb16 := NB696_697.out; have hnc16 := NB697_696.out; have hcz17_0 : w15.cell? ⟨gb696, 0, none⟩ = some (.int .u8 a0_0) := (blk_cell BK696.out 0).trans rfl; have hcz17_1 : w15.cell? ⟨gb696, 1, none⟩ = some (.int .i8 a0_1) := (blk_cell BK696.out 1).trans rfl; have hcz17_2 : w15.cell? ⟨gb696, 2, none⟩ = some (.int .i8 a0_2) := (blk_cell BK696.out 2).trans rfl; have hcz17_3 : w15.cell? ⟨gb696, 3, none⟩ = some (.int .i8 a0_3) := (blk_cell BK696.out 3).trans rfl; have hcz17_4 : w15.cell? ⟨gb696, 4, none⟩ = some (.int .i8 a0_4) := (blk_cell BK696.out 4).trans rfl; have hfz17_0 := blk_frozen BK696.out 0; have hfz17_1 := blk_frozen BK696.out 1; have hfz17_2 := blk_frozen BK696.out 2; have hfz17_3 := blk_frozen BK696.out 3; have hfz17_4 := blk_frozen BK696.out 4) | (go_at_call 35; (with_reducible refine (schismalaw12_Make.calls k a0_0 a0_1 a0_2 a0_3 a0_4 t699 t702 _ A6.out).mono ?_); rintro e w18 ⟨v700, v703, rfl, ho0, ho1, hb⟩; have HO701 := Aside0.mk (Kd.V_lower (Kd.V_mono (ok' := fun k_ => some k_ ≠ (v703 : Value).ownBlock ∧ k_ ≠ gb696 ∧ k_ ≠ gb697) ho0 (fun k_ hk_ => ⟨hk_.2, (Kd.freshB (g := gb696) (o := .cells #[.int .u8 a0_0, .int .i8 a0_1, .int .i8 a0_2, .int .i8 a0_3, .int .i8 a0_4] 50 (0, 0)) (by apply_rules [BK696.out, blk_drewN, blk_drew, blk_alloc]) k_ hk_.1), (Kd.freshB (g := gb697) (o := .cells #[.int .i8 a1_0, .int .i8 a1_1, .int .i8 a1_2, .int .i8 a1_3] 48 (0, 0)) (by apply_rules [BK697.out, blk_drewN, blk_drew, blk_alloc]) k_ hk_.1)⟩)) (below_size (by apply_rules [HB.out, below_alloc, pw_below_drewN, below_drew1, below_set, GE696.out, GE697.out]))); have HO704 := Aside0.mk (Kd.R_lower (Kd.R_mono (ok' := fun k_ => True) ho1 (fun _ hk_ => trivial)) (below_size (by apply_rules [HB.out, below_alloc, pw_below_drewN, below_drew1, below_set, GE696.out, GE697.out]))); replace BK696 := Aside0.mk (blk_below (g := gb696) (o := .cells #[.int .u8 a0_0, .int .i8 a0_1, .int .i8 a0_2, .int .i8 a0_3, .int .i8 a0_4] 50 (0, 0)) (by apply_rules [BK696.out, blk_drewN, blk_drew, blk_alloc]) hb); replace BK697 := Aside0.mk (blk_below (g := gb697) (o := .cells #[.int .i8 a1_0, .int .i8 a1_1, .int .i8 a1_2, .int .i8 a1_3] 48 (0, 0)) (by apply_rules [BK697.out, blk_drewN, blk_drew, blk_alloc]) hb); replace HB := Aside0.mk (below_step (by apply_rules [HB.out, below_alloc, pw_below_drewN, below_drew1, below_set, GE696.out, GE697.out]) hb); (try clear hb); (try clear ho0); (try clear ho1); have hcz19_0 : w18.cell? ⟨gb697, 0, none⟩ = some (.int .i8 a1_0) := (blk_cell BK697.out 0).trans rfl; have hcz19_1 : w18.cell? ⟨gb697, 1, none⟩ = some (.int .i8 a1_1) := (blk_cell BK697.out 1).trans rfl; have hcz19_2 : w18.cell? ⟨gb697, 2, none⟩ = some (.int .i8 a1_2) := (blk_cell BK697.out 2).trans rfl; have hcz19_3 : w18.cell? ⟨gb697, 3, none⟩ = some (.int .i8 a1_3) := (blk_cell BK697.out 3).trans rfl; have hfz19_0 := blk_frozen BK697.out 0; have hfz19_1 := blk_frozen BK697.out 1; have hfz19_2 := blk_frozen BK697.out 2; have hfz19_3 := blk_frozen BK697.out 3; obtain ⟨Ao20, co20, eo20⟩ := Kd.V_slice HO701.out; subst eo20) | (go_at_call 46; (with_reducible refine (schismalaw12_Interval.calls k _ _ t699 a1_0 a1_1 a1_2 a1_3 t705 _ ?side1 ?side2 A7.out).mono ?_); (case side1 => repeat (first | exact (Kd.V_reads' HO701.out).2.2 | (with_reducible refine Kd.C_alloc ?_ _) | (with_reducible refine Kd.C_drewN ?_ _) | (with_reducible refine Kd.C_drew ?_))); (case side2 => exact (Kd.V_reads' HO701.out).2.1); rintro e w21 ⟨v706, rfl, ho0, hb⟩; have n0_ := Aside0.mk (Kd.V_elder' (by (with_reducible repeat (first | apply Kd.V_alloc | apply Kd.V_drewN | apply Kd.V_drew)); exact HO701.out) (Kd.R_base ho0) hb); have n1_ := Aside0.mk (Kd.R_elder' (by apply_rules [HO704.out, Kd.R_alloc, Kd.R_drewN, Kd.R_drew]) (Kd.R_base ho0) hb); have n2_ := Aside0.mk (Kd.R_lower (Kd.R_new' ho0 (Kd.R_lt (by apply_rules [HO704.out, Kd.R_alloc, Kd.R_drewN, Kd.R_drew]))) (below_size (by apply_rules [HB.out, below_alloc, pw_below_drewN, below_drew1, below_set, GE696.out, GE697.out]))); have n3_ := Aside0.mk (blk_below (g := gb696) (o := .cells #[.int .u8 a0_0, .int .i8 a0_1, .int .i8 a0_2, .int .i8 a0_3, .int .i8 a0_4] 50 (0, 0)) (by apply_rules [BK696.out, blk_drewN, blk_drew, blk_alloc]) hb); have n4_ := Aside0.mk (blk_below (g := gb697) (o := .cells #[.int .i8 a1_0, .int .i8 a1_1, .int .i8 a1_2, .int .i8 a1_3] 48 (0, 0)) (by apply_rules [BK697.out, blk_drewN, blk_drew, blk_alloc]) hb); have n5_ := Aside0.mk (below_step (by apply_rules [HB.out, below_alloc, pw_below_drewN, below_drew1, below_set, GE696.out, GE697.out]) hb); clear HO701; clear HO704; clear BK696; clear BK697; clear HB; have HO701 := n0_; have HO704 := n1_; have HO707 := n2_; have BK696 := n3_; have BK697 := n4_; have HB := n5_; clear n0_ n1_ n2_ n3_ n4_ n5_; (try clear hb); (try clear ho0); obtain ⟨Ao22, co22, eo22⟩ := Kd.R_slice HO704.out; subst eo22; obtain ⟨Ao23, co23, eo23⟩ := Kd.R_slice HO707.out; subst eo23) | (go_at_call 47; (with_reducible refine (monzo_Add.calls k _ _ t699 (fun k_ => some k_ = (.slice Ao22 t702.length co22 : Value).ownBlock) _ _ t702 (fun k_ => some k_ = (.slice Ao23 t705.length co23 : Value).ownBlock) _ _ t705 t708 t711 _ ?side1 ?side2 ?side3 ?side4 A8.out).mono ?_); (case side1 => repeat (first | exact (Kd.V_reads' HO701.out).2.2 | (with_reducible refine Kd.C_alloc ?_ _) | (with_reducible refine Kd.C_drewN ?_ _) | (with_reducible refine Kd.C_drew ?_))); (case side2 => exact (Kd.V_reads' HO701.out).2.1); (case side3 => exact Kd.R_V (Kd.R_tight rfl (Kd.R_types (Kd.R_types (HO704.out) BK696.out (by decide)) BK697.out (by decide)))); (case side4 => exact Kd.R_V (Kd.R_tight rfl (Kd.R_types (Kd.R_types (HO707.out) BK696.out (by decide)) BK697.out (by decide)))); rintro e w24 ⟨v709, rfl, ho0, hb⟩; have n0_ := Aside0.mk (Kd.V_below (by (with_reducible repeat (first | apply Kd.V_alloc | apply Kd.V_drewN | apply Kd.V_drew)); exact HO701.out) hb); have n1_ := Aside0.mk (Kd.R_below (by apply_rules [HO704.out, Kd.R_alloc, Kd.R_drewN, Kd.R_drew]) hb); have n2_ := Aside0.mk (Kd.R_below (by apply_rules [HO707.out, Kd.R_alloc, Kd.R_drewN, Kd.R_drew]) hb); have n3_ := Aside0.mk (Kd.V_lower (Kd.V_mono (ok' := fun k_ => k_ ≠ gb696 ∧ k_ ≠ gb697) ho0 (fun k_ hk_ => ⟨Or.elim hk_ (fun hs_ => Or.elim hs_ (fun hs_ => ((Kd.R_types (Kd.R_types (HO704.out) BK696.out (by decide)) BK697.out (by decide)).1 k_ hs_.symm).1.2) (fun hs_ => ((Kd.R_types (Kd.R_types (HO707.out) BK696.out (by decide)) BK697.out (by decide)).1 k_ hs_.symm).1.2)) (fun hn_ => (Kd.freshB (g := gb696) (o := .cells #[.int .u8 a0_0, .int .i8 a0_1, .int .i8 a0_2, .int .i8 a0_3, .int .i8 a0_4] 50 (0, 0)) (by apply_rules [BK696.out, blk_drewN, blk_drew, blk_alloc]) k_ hn_)), Or.elim hk_ (fun hs_ => Or.elim hs_ (fun hs_ => ((Kd.R_types (Kd.R_types (HO704.out) BK696.out (by decide)) BK697.out (by decide)).1 k_ hs_.symm).2) (fun hs_ => ((Kd.R_types (Kd.R_types (HO707.out) BK696.out (by decide)) BK697.out (by decide)).1 k_ hs_.symm).2)) (fun hn_ => (Kd.freshB (g := gb697) (o := .cells #[.int .i8 a1_0, .int .i8 a1_1, .int .i8 a1_2, .int .i8 a1_3] 48 (0, 0)) (by apply_rules [BK697.out, blk_drewN, blk_drew, blk_alloc]) k_ hn_))⟩)) (below_size (by apply_rules [HB.out, below_alloc, pw_below_drewN, below_drew1, below_set, GE696.out, GE697.out]))); have n4_ := Aside0.mk (blk_below (g := gb696) (o := .cells #[.int .u8 a0_0, .int .i8 a0_1, .int .i8 a0_2, .int .i8 a0_3, .int .i8 a0_4] 50 (0, 0)) (by apply_rules [BK696.out, blk_drewN, blk_drew, blk_alloc]) hb); have n5_ := Aside0.mk (blk_below (g := gb697) (o := .cells #[.int .i8 a1_0, .int .i8 a1_1, .int .i8 a1_2, .int .i8 a1_3] 48 (0, 0)) (by apply_rules [BK697.out, blk_drewN, blk_drew, blk_alloc]) hb); have n6_ := Aside0.mk (below_step (by apply_rules [HB.out, below_alloc, pw_below_drewN, below_drew1, below_set, GE696.out, GE697.out]) hb); clear HO701; clear HO704; clear HO707; clear BK696; clear BK697; clear HB; have HO701 := n0_; have HO704 := n1_; have HO707 := n2_; have HO710 := n3_; have BK696 := n4_; have BK697 := n5_; have HB := n6_; clear n0_ n1_ n2_ n3_ n4_ n5_ n6_; (try clear hb); (try clear ho0)) | (go_at_call 48; (with_reducible refine (monzo_Sub.calls k _ _ t699 (fun k_ => some k_ = (.slice Ao22 t702.length co22 : Value).ownBlock) _ _ t702 (fun k_ => some k_ = (.slice Ao23 t705.length co23 : Value).ownBlock) _ _ t705 t712 t715 _ ?side1 ?side2 ?side3 ?side4 A9.out).mono ?_); (case side1 => repeat (first | exact (Kd.V_reads' HO701.out).2.2 | (with_reducible refine Kd.C_alloc ?_ _) | (with_reducible refine Kd.C_drewN ?_ _) | (with_reducible refine Kd.C_drew ?_))); (case side2 => exact (Kd.V_reads' HO701.out).2.1); (case side3 => exact Kd.R_V (Kd.R_tight rfl (Kd.R_types (Kd.R_types (HO704.out) BK696.out (by decide)) BK697.out (by decide)))); (case side4 => exact Kd.R_V (Kd.R_tight rfl (Kd.R_types (Kd.R_types (HO707.out) BK696.out (by decide)) BK697.out (by decide)))); rintro e w25 ⟨v713, rfl, ho0, hb⟩; have n0_ := Aside0.mk (Kd.V_below (by (with_reducible repeat (first | apply Kd.V_alloc | apply Kd.V_drewN | apply Kd.V_drew)); exact HO701.out) hb); have n1_ := Aside0.mk (Kd.R_below (by apply_rules [HO704.out, Kd.R_alloc, Kd.R_drewN, Kd.R_drew]) hb); have n2_ := Aside0.mk (Kd.R_below (by apply_rules [HO707.out, Kd.R_alloc, Kd.R_drewN, Kd.R_drew]) hb); have n3_ := Aside0.mk (Kd.V_below (by (with_reducible repeat (first | apply Kd.V_alloc | apply Kd.V_drewN | apply Kd.V_drew)); exact HO710.out) hb); have n4_ := Aside0.mk (Kd.V_lower (Kd.V_mono (ok' := fun k_ => k_ ≠ gb696 ∧ k_ ≠ gb697) ho0 (fun k_ hk_ => ⟨Or.elim hk_ (fun hs_ => Or.elim hs_ (fun hs_ => ((Kd.R_types (Kd.R_types (HO704.out) BK696.out (by decide)) BK697.out (by decide)).1 k_ hs_.symm).1.2) (fun hs_ => ((Kd.R_types (Kd.R_types (HO707.out) BK696.out (by decide)) BK697.out (by decide)).1 k_ hs_.symm).1.2)) (fun hn_ => (Kd.freshB (g := gb696) (o := .cells #[.int .u8 a0_0, .int .i8 a0_1, .int .i8 a0_2, .int .i8 a0_3, .int .i8 a0_4] 50 (0, 0)) (by apply_rules [BK696.out, blk_drewN, blk_drew, blk_alloc]) k_ hn_)), Or.elim hk_ (fun hs_ => Or.elim hs_ (fun hs_ => ((Kd.R_types (Kd.R_types (HO704.out) BK696.out (by decide)) BK697.out (by decide)).1 k_ hs_.symm).2) (fun hs_ => ((Kd.R_types (Kd.R_types (HO707.out) BK696.out (by decide)) BK697.out (by decide)).1 k_ hs_.symm).2)) (fun hn_ => (Kd.freshB (g := gb697) (o := .cells #[.int .i8 a1_0, .int .i8 a1_1, .int .i8 a1_2, .int .i8 a1_3] 48 (0, 0)) (by apply_rules [BK697.out, blk_drewN, blk_drew, blk_alloc]) k_ hn_))⟩)) (below_size (by apply_rules [HB.out, below_alloc, pw_below_drewN, below_drew1, below_set, GE696.out, GE697.out]))); have n5_ := Aside0.mk (blk_below (g := gb696) (o := .cells #[.int .u8 a0_0, .int .i8 a0_1, .int .i8 a0_2, .int .i8 a0_3, .int .i8 a0_4] 50 (0, 0)) (by apply_rules [BK696.out, blk_drewN, blk_drew, blk_alloc]) hb); have n6_ := Aside0.mk (blk_below (g := gb697) (o := .cells #[.int .i8 a1_0, .int .i8 a1_1, .int .i8 a1_2, .int .i8 a1_3] 48 (0, 0)) (by apply_rules [BK697.out, blk_drewN, blk_drew, blk_alloc]) hb); have n7_ := Aside0.mk (below_step (by apply_rules [HB.out, below_alloc, pw_below_drewN, below_drew1, below_set, GE696.out, GE697.out]) hb); clear HO701; clear HO704; clear HO707; clear HO710; clear BK696; clear BK697; clear HB; have HO701 := n0_; have HO704 := n1_; have HO707 := n2_; have HO710 := n3_; have HO714 := n4_; have BK696 := n5_; have BK697 := n6_; have HB := n7_; clear n0_ n1_ n2_ n3_ n4_ n5_ n6_ n7_; (try clear hb); (try clear ho0)) | (go_at_call 49; (with_reducible refine (monzo_Neg.calls k _ _ t699 _ _ t702 t716 t719 _ ?side1 ?side2 ?side3 ?side4 A10.out).mono ?_); (case side1 => repeat (first | exact (Kd.V_reads' HO701.out).2.2 | (with_reducible refine Kd.C_alloc ?_ _) | (with_reducible refine Kd.C_drewN ?_ _) | (with_reducible refine Kd.C_drew ?_))); (case side2 => exact (Kd.V_reads' HO701.out).2.1); (case side3 => repeat (first | exact (Kd.R_reads' HO704.out).2.2 | (with_reducible refine Kd.C_alloc ?_ _) | (with_reducible refine Kd.C_drewN ?_ _) | (with_reducible refine Kd.C_drew ?_))); (case side4 => exact (Kd.R_reads' HO704.out).2.1); rintro e w26 ⟨v717, rfl, ho0, hb⟩; have n0_ := Aside0.mk (Kd.V_below (by (with_reducible repeat (first | apply Kd.V_alloc | apply Kd.V_drewN | apply Kd.V_drew)); exact HO701.out) hb); have n1_ := Aside0.mk (Kd.R_below (by apply_rules [HO704.out, Kd.R_alloc, Kd.R_drewN, Kd.R_drew]) hb); have n2_ := Aside0.mk (Kd.R_below (by apply_rules [HO707.out, Kd.R_alloc, Kd.R_drewN, Kd.R_drew]) hb); have n3_ := Aside0.mk (Kd.V_below (by (with_reducible repeat (first | apply Kd.V_alloc | apply Kd.V_drewN | apply Kd.V_drew)); exact HO710.out) hb); have n4_ := Aside0.mk (Kd.V_below (by (with_reducible repeat (first | apply Kd.V_alloc | apply Kd.V_drewN | apply Kd.V_drew)); exact HO714.out) hb); have n5_ := Aside0.mk (Kd.V_lower (Kd.V_mono (ok' := fun k_ => some k_ ≠ (.slice Ao22 t702.length co22 : Value).ownBlock ∧ some k_ ≠ (.slice Ao23 t705.length co23 : Value).ownBlock ∧ k_ ≠ gb696 ∧ k_ ≠ gb697) ho0 (fun k_ hk_ => ⟨(Kd.fresh' (Kd.R_lt (by apply_rules [HO704.out, Kd.R_alloc, Kd.R_drewN, Kd.R_drew])) k_ hk_), (Kd.fresh' (Kd.R_lt (by apply_rules [HO707.out, Kd.R_alloc, Kd.R_drewN, Kd.R_drew])) k_ hk_), (Kd.freshB (g := gb696) (o := .cells #[.int .u8 a0_0, .int .i8 a0_1, .int .i8 a0_2, .int .i8 a0_3, .int .i8 a0_4] 50 (0, 0)) (by apply_rules [BK696.out, blk_drewN, blk_drew, blk_alloc]) k_ hk_), (Kd.freshB (g := gb697) (o := .cells #[.int .i8 a1_0, .int .i8 a1_1, .int .i8 a1_2, .int .i8 a1_3] 48 (0, 0)) (by apply_rules [BK697.out, blk_drewN, blk_drew, blk_alloc]) k_ hk_)⟩)) (below_size (by apply_rules [HB.out, below_alloc, pw_below_drewN, below_drew1, below_set, GE696.out, GE697.out]))); have n6_ := Aside0.mk (blk_below (g := gb696) (o := .cells #[.int .u8 a0_0, .int .i8 a0_1, .int .i8 a0_2, .int .i8 a0_3, .int .i8 a0_4] 50 (0, 0)) (by apply_rules [BK696.out, blk_drewN, blk_drew, blk_alloc]) hb); have n7_ := Aside0.mk (blk_below (g := gb697) (o := .cells #[.int .i8 a1_0, .int .i8 a1_1, .int .i8 a1_2, .int .i8 a1_3] 48 (0, 0)) (by apply_rules [BK697.out, blk_drewN, blk_drew, blk_alloc]) hb); have n8_ := Aside0.mk (below_step (by apply_rules [HB.out, below_alloc, pw_below_drewN, below_drew1, below_set, GE696.out, GE697.out]) hb); clear HO701; clear HO704; clear HO707; clear HO710; clear HO714; clear BK696; clear BK697; clear HB; have HO701 := n0_; have HO704 := n1_; have HO707 := n2_; have HO710 := n3_; have HO714 := n4_; have HO718 := n5_; have BK696 := n6_; have BK697 := n7_; have HB := n8_; clear n0_ n1_ n2_ n3_ n4_ n5_ n6_ n7_ n8_; (try clear hb); (try clear ho0)) | (go_at_call 50; (with_reducible refine (monzo_Power.calls k _ _ t699 _ _ t702 a2 t720 t723 _ ?side1 ?side2 ?side3 ?side4 A11.out).mono ?_); (case side1 => repeat (first | exact (Kd.V_reads' HO701.out).2.2 | (with_reducible refine Kd.C_alloc ?_ _) | (with_reducible refine Kd.C_drewN ?_ _) | (with_reducible refine Kd.C_drew ?_))); (case side2 => exact (Kd.V_reads' HO701.out).2.1); (case side3 => repeat (first | exact (Kd.R_reads' HO704.out).2.2 | (with_reducible refine Kd.C_alloc ?_ _) | (with_reducible refine Kd.C_drewN ?_ _) | (with_reducible refine Kd.C_drew ?_))); (case side4 => exact (Kd.R_reads' HO704.out).2.1); rintro e w27 ⟨v721, rfl, ho0, hb⟩; have n0_ := Aside0.mk (Kd.V_below (by (with_reducible repeat (first | apply Kd.V_alloc | apply Kd.V_drewN | apply Kd.V_drew)); exact HO701.out) hb); have n1_ := Aside0.mk (Kd.R_below (by apply_rules [HO704.out, Kd.R_alloc, Kd.R_drewN, Kd.R_drew]) hb); have n2_ := Aside0.mk (Kd.R_below (by apply_rules [HO707.out, Kd.R_alloc, Kd.R_drewN, Kd.R_drew]) hb); have n3_ := Aside0.mk (Kd.V_below (by (with_reducible repeat (first | apply Kd.V_alloc | apply Kd.V_drewN | apply Kd.V_drew)); exact HO710.out) hb); have n4_ := Aside0.mk (Kd.V_below (by (with_reducible repeat (first | apply Kd.V_alloc | apply Kd.V_drewN | apply Kd.V_drew)); exact HO714.out) hb); have n5_ := Aside0.mk (Kd.V_below (by (with_reducible repeat (first | apply Kd.V_alloc | apply Kd.V_drewN | apply Kd.V_drew)); exact HO718.out) hb); have n6_ := Aside0.mk (Kd.V_lower (Kd.V_mono (ok' := fun k_ => some k_ ≠ (.slice Ao22 t702.length co22 : Value).ownBlock ∧ some k_ ≠ (.slice Ao23 t705.length co23 : Value).ownBlock ∧ k_ ≠ gb696 ∧ k_ ≠ gb697) ho0 (fun k_ hk_ => ⟨(Kd.fresh' (Kd.R_lt (by apply_rules [HO704.out, Kd.R_alloc, Kd.R_drewN, Kd.R_drew])) k_ hk_), (Kd.fresh' (Kd.R_lt (by apply_rules [HO707.out, Kd.R_alloc, Kd.R_drewN, Kd.R_drew])) k_ hk_), (Kd.freshB (g := gb696) (o := .cells #[.int .u8 a0_0, .int .i8 a0_1, .int .i8 a0_2, .int .i8 a0_3, .int .i8 a0_4] 50 (0, 0)) (by apply_rules [BK696.out, blk_drewN, blk_drew, blk_alloc]) k_ hk_), (Kd.freshB (g := gb697) (o := .cells #[.int .i8 a1_0, .int .i8 a1_1, .int .i8 a1_2, .int .i8 a1_3] 48 (0, 0)) (by apply_rules [BK697.out, blk_drewN, blk_drew, blk_alloc]) k_ hk_)⟩)) (below_size (by apply_rules [HB.out, below_alloc, pw_below_drewN, below_drew1, below_set, GE696.out, GE697.out]))); have n7_ := Aside0.mk (blk_below (g := gb696) (o := .cells #[.int .u8 a0_0, .int .i8 a0_1, .int .i8 a0_2, .int .i8 a0_3, .int .i8 a0_4] 50 (0, 0)) (by apply_rules [BK696.out, blk_drewN, blk_drew, blk_alloc]) hb); have n8_ := Aside0.mk (blk_below (g := gb697) (o := .cells #[.int .i8 a1_0, .int .i8 a1_1, .int .i8 a1_2, .int .i8 a1_3] 48 (0, 0)) (by apply_rules [BK697.out, blk_drewN, blk_drew, blk_alloc]) hb); have n9_ := Aside0.mk (below_step (by apply_rules [HB.out, below_alloc, pw_below_drewN, below_drew1, below_set, GE696.out, GE697.out]) hb); clear HO701; clear HO704; clear HO707; clear HO710; clear HO714; clear HO718; clear BK696; clear BK697; clear HB; have HO701 := n0_; have HO704 := n1_; have HO707 := n2_; have HO710 := n3_; have HO714 := n4_; have HO718 := n5_; have HO722 := n6_; have BK696 := n7_; have BK697 := n8_; have HB := n9_; clear n0_ n1_ n2_ n3_ n4_ n5_ n6_ n7_ n8_ n9_; (try clear hb); (try clear ho0))))
  (try simp only [Act.put, List.setIfInBounds_toArray, List.set_cons_zero, List.set_cons_succ])
  go_cut [88] (fun v88 wc => ∃ (kq : Nat) (x88_11 : Bool), v88 = .bool x88_11 ∧ Aside0 (schismalaw12_MonzoAdds.j0 kq a2 t699 t702 t705 t708 t712 t716 t720 t723 x88_11 = some r) ∧ Aside0 (kq ≤ k) ∧ Aside0 (Kd.V (Kd.int .i64) 3 wc w.heap.size (fun k_ => some k_ ≠ ((.slice Ao22 t702.length co22) : Value).ownBlock ∧ some k_ ≠ ((.slice Ao23 t705.length co23) : Value).ownBlock ∧ k_ ≠ gb696 ∧ k_ ≠ gb697) (.slice Ao20 t699.length co20) t699) ∧ Aside0 (Kd.R (Kd.int .i64) 3 wc w.heap.size (fun k_ => some k_ ≠ ((.slice Ao23 t705.length co23) : Value).ownBlock) (.slice Ao22 t702.length co22) t702) ∧ Aside0 (Kd.R (Kd.int .i64) 3 wc w.heap.size (fun k_ => some k_ ≠ ((.slice Ao22 t702.length co22) : Value).ownBlock) (.slice Ao23 t705.length co23) t705) ∧ Aside0 (Kd.V (Kd.int .i64) 3 wc w.heap.size (fun k_ => k_ ≠ gb696 ∧ k_ ≠ gb697) v709 t708) ∧ Aside0 (Kd.V (Kd.int .i64) 3 wc w.heap.size (fun k_ => k_ ≠ gb696 ∧ k_ ≠ gb697) v713 t712) ∧ Aside0 (Kd.V (Kd.int .i64) 3 wc w.heap.size (fun k_ => some k_ ≠ ((.slice Ao22 t702.length co22) : Value).ownBlock ∧ some k_ ≠ ((.slice Ao23 t705.length co23) : Value).ownBlock ∧ k_ ≠ gb696 ∧ k_ ≠ gb697) v717 t716) ∧ Aside0 (Kd.V (Kd.int .i64) 3 wc w.heap.size (fun k_ => some k_ ≠ ((.slice Ao22 t702.length co22) : Value).ownBlock ∧ some k_ ≠ ((.slice Ao23 t705.length co23) : Value).ownBlock ∧ k_ ≠ gb696 ∧ k_ ≠ gb697) v721 t720) ∧ Aside0 (wc.heap[gb696]? = some (.cells #[.int .u8 a0_0, .int .i8 a0_1, .int .i8 a0_2, .int .i8 a0_3, .int .i8 a0_4] 50 (0, 0))) ∧ Aside0 (wc.heap[gb697]? = some (.cells #[.int .i8 a1_0, .int .i8 a1_1, .int .i8 a1_2, .int .i8 a1_3] 48 (0, 0))) ∧ Aside0 (Below w.heap.size w wc))
  case first =>
   have H := HC12.out
   clear HC12
   by_cases c28 : (t708.length : Int) = (t699.length : Int)
   ·rw [if_pos c28] at H
    have c28b0 : ((t708.length : Int) == (t699.length : Int)) = true := beq_iff_eq.mpr c28
    have c28b1 : ((t708.length : Int) != (t699.length : Int)) = false := bne_eq_false_iff_eq.mpr c28
    have c28b2 : (t708.length == t699.length) = true := by first | simpa using c28 | (simp at c28 ⊢; omega)
    clear c28
    (first | rw [c28b0] | (simp only [i64_w, i32_w]; rw [c28b0]) | skip)
    by_cases c29 : (t712.length : Int) = (t699.length : Int)
    ·rw [if_pos c29] at H
     have c29b0 : ((t712.length : Int) == (t699.length : Int)) = true := beq_iff_eq.mpr c29
     have c29b1 : ((t712.length : Int) != (t699.length : Int)) = false := bne_eq_false_iff_eq.mpr c29
     have c29b2 : (t712.length == t699.length) = true := by first | simpa using c29 | (simp at c29 ⊢; omega)
     clear c29
     by_cases c30 : (t716.length : Int) = (t699.length : Int)
     ·rw [if_pos c30] at H
      have c30b0 : ((t716.length : Int) == (t699.length : Int)) = true := beq_iff_eq.mpr c30
      have c30b1 : ((t716.length : Int) != (t699.length : Int)) = false := bne_eq_false_iff_eq.mpr c30
      have c30b2 : (t716.length == t699.length) = true := by first | simpa using c30 | (simp at c30 ⊢; omega)
      clear c30
      by_cases c31 : t711 = 0
      case neg => rw [if_neg c31] at H; have c31b0 : (t711 == 0) = false := beq_eq_false_iff_ne.mpr c31; have c31b1 : (t711 != 0) = true := bne_iff_ne.mpr c31; exact (schismalaw12_MonzoAdds.j0_no H hr).elim
      rw [if_pos c31] at H
      have c31b0 : (t711 == 0) = true := beq_iff_eq.mpr c31
      have c31b1 : (t711 != 0) = false := bne_eq_false_iff_eq.mpr c31
      clear c31
      by_cases c32 : t715 = 0
      case neg => rw [if_neg c32] at H; have c32b0 : (t715 == 0) = false := beq_eq_false_iff_ne.mpr c32; have c32b1 : (t715 != 0) = true := bne_iff_ne.mpr c32; exact (schismalaw12_MonzoAdds.j0_no H hr).elim
      rw [if_pos c32] at H
      have c32b0 : (t715 == 0) = true := beq_iff_eq.mpr c32
      have c32b1 : (t715 != 0) = false := bne_eq_false_iff_eq.mpr c32
      clear c32
      have H' := Aside0.mk H
      clear H
      obtain ⟨Ao33, co33, eo33⟩ := Kd.V_slice HO710.out
      subst eo33
      obtain ⟨Ao34, co34, eo34⟩ := Kd.V_slice HO714.out
      subst eo34
      obtain ⟨Ao35, co35, eo35⟩ := Kd.V_slice HO718.out
      subst eo35
      go_wp2
      repeat (go_quiet (fail); try go_wp2)
      go_meet
      case rel => exact ⟨_, ((t719 != 0)), (by first | rfl | (simp; done) | (simp [*]; done)), H', ⟨by first | omega | exact Nat.le_refl _⟩, ⟨by (with_reducible repeat (first | apply Kd.V_alloc | apply Kd.V_drewN | apply Kd.V_drew)); exact Kd.V_mono HO701.out (fun _ hk => ⟨hk.1.1, ⟨hk.2, ⟨hk.1.2.1, hk.1.2.2⟩⟩⟩)⟩, ⟨by (with_reducible repeat (first | apply Kd.R_alloc | apply Kd.R_drewN | apply Kd.R_drew)); exact Kd.R_mono HO704.out (fun _ hk => hk.2)⟩, ⟨by (with_reducible repeat (first | apply Kd.R_alloc | apply Kd.R_drewN | apply Kd.R_drew)); exact Kd.R_mono HO707.out (fun _ hk => hk.2)⟩, ⟨by (with_reducible repeat (first | apply Kd.V_alloc | apply Kd.V_drewN | apply Kd.V_drew)); exact HO710.out⟩, ⟨by (with_reducible repeat (first | apply Kd.V_alloc | apply Kd.V_drewN | apply Kd.V_drew)); exact HO714.out⟩, ⟨by (with_reducible repeat (first | apply Kd.V_alloc | apply Kd.V_drewN | apply Kd.V_drew)); exact HO718.out⟩, ⟨by (with_reducible repeat (first | apply Kd.V_alloc | apply Kd.V_drewN | apply Kd.V_drew)); exact HO722.out⟩, ⟨by apply_rules [BK696.out, blk_drewN, blk_drew, blk_alloc]⟩, ⟨by apply_rules [BK697.out, blk_drewN, blk_drew, blk_alloc]⟩, ⟨by apply_rules [HB.out, below_alloc, pw_below_drewN, below_drew1, below_set, GE696.out, GE697.out]⟩⟩
     ·rw [if_neg c30] at H
      have c30b0 : ((t716.length : Int) == (t699.length : Int)) = false := beq_eq_false_iff_ne.mpr c30
      have c30b1 : ((t716.length : Int) != (t699.length : Int)) = true := bne_iff_ne.mpr c30
      have c30b2 : (t716.length == t699.length) = false := by first | simpa using c30 | (simp at c30 ⊢; omega)
      exact (schismalaw12_MonzoAdds.j0_no H hr).elim
    ·rw [if_neg c29] at H
     have c29b0 : ((t712.length : Int) == (t699.length : Int)) = false := beq_eq_false_iff_ne.mpr c29
     have c29b1 : ((t712.length : Int) != (t699.length : Int)) = true := bne_iff_ne.mpr c29
     have c29b2 : (t712.length == t699.length) = false := by first | simpa using c29 | (simp at c29 ⊢; omega)
     exact (schismalaw12_MonzoAdds.j0_no H hr).elim
   ·rw [if_neg c28] at H
    have c28b0 : ((t708.length : Int) == (t699.length : Int)) = false := beq_eq_false_iff_ne.mpr c28
    have c28b1 : ((t708.length : Int) != (t699.length : Int)) = true := bne_iff_ne.mpr c28
    have c28b2 : (t708.length == t699.length) = false := by first | simpa using c28 | (simp at c28 ⊢; omega)
    (first | rw [c28b0] | (simp only [i64_w, i32_w]; rw [c28b0]) | skip)
    exact (schismalaw12_MonzoAdds.j0_no H hr).elim
  case rest =>
   clear HC12
   obtain ⟨kq, x88_11, rfl, HA, HJ11, HO_7, HO_8, HO_9, HO_10, HO_12, HO_14, HO_16, BK696, BK697, HB⟩ := hcut
   cases kq with
   | zero => exact absurd HA.out (by simp [schismalaw12_MonzoAdds.j0])
   | succ kj11 =>
    have H := HA.out
    clear HA
    simp only [schismalaw12_MonzoAdds.j0] at H
    by_cases c48 : x88_11 = true
    ·subst c48
     have H1 : (some false) = some r := by rw [if_pos rfl] at H; exact H
     clear H
     have H := H1
     clear H1
     exact absurd ((Option.some.inj H).trans hr) Bool.false_ne_true
    ·replace c48 := Bool.eq_false_iff.mpr c48
     subst c48
     have H1 : (schismalaw12_MonzoAdds.l0 kj11 a2 t699 t702 t705 t708 t712 t716 t720 t723 true 0) = some r := by rw [if_neg (show ¬ (false = true) by decide)] at H; exact H
     clear H
     have H := H1
     clear H1
     have H' := Aside0.mk H
     clear H
     go_wp2
     repeat (go_quiet (fail); try go_wp2)
     go_loopg [18, 19] kj11 (fun kq v18 v19 w' => ∃ (x18_2 : Bool) (x19_2 : Int), v18 = .bool x18_2 ∧ v19 = .int .i64 x19_2 ∧ Aside0 (schismalaw12_MonzoAdds.l0 kq a2 t699 t702 t705 t708 t712 t716 t720 t723 x18_2 x19_2 = some r) ∧ Aside0 (kq ≤ kj11) ∧ Aside0 (Kd.V (Kd.int .i64) 3 w' w.heap.size (fun k_ => some k_ ≠ ((.slice Ao22 t702.length co22) : Value).ownBlock ∧ some k_ ≠ ((.slice Ao23 t705.length co23) : Value).ownBlock ∧ k_ ≠ gb696 ∧ k_ ≠ gb697) (.slice Ao20 t699.length co20) t699) ∧ Aside0 (Kd.R (Kd.int .i64) 3 w' w.heap.size (fun k_ => some k_ ≠ ((.slice Ao23 t705.length co23) : Value).ownBlock) (.slice Ao22 t702.length co22) t702) ∧ Aside0 (Kd.R (Kd.int .i64) 3 w' w.heap.size (fun k_ => some k_ ≠ ((.slice Ao22 t702.length co22) : Value).ownBlock) (.slice Ao23 t705.length co23) t705) ∧ Aside0 (Kd.V (Kd.int .i64) 3 w' w.heap.size (fun k_ => k_ ≠ gb696 ∧ k_ ≠ gb697) v709 t708) ∧ Aside0 (Kd.V (Kd.int .i64) 3 w' w.heap.size (fun k_ => k_ ≠ gb696 ∧ k_ ≠ gb697) v713 t712) ∧ Aside0 (Kd.V (Kd.int .i64) 3 w' w.heap.size (fun k_ => some k_ ≠ ((.slice Ao22 t702.length co22) : Value).ownBlock ∧ some k_ ≠ ((.slice Ao23 t705.length co23) : Value).ownBlock ∧ k_ ≠ gb696 ∧ k_ ≠ gb697) v717 t716) ∧ Aside0 (Kd.V (Kd.int .i64) 3 w' w.heap.size (fun k_ => some k_ ≠ ((.slice Ao22 t702.length co22) : Value).ownBlock ∧ some k_ ≠ ((.slice Ao23 t705.length co23) : Value).ownBlock ∧ k_ ≠ gb696 ∧ k_ ≠ gb697) v721 t720) ∧ Aside0 (w'.heap[gb696]? = some (.cells #[.int .u8 a0_0, .int .i8 a0_1, .int .i8 a0_2, .int .i8 a0_3, .int .i8 a0_4] 50 (0, 0))) ∧ Aside0 (w'.heap[gb697]? = some (.cells #[.int .i8 a1_0, .int .i8 a1_1, .int .i8 a1_2, .int .i8 a1_3] 48 (0, 0))) ∧ Aside0 (Below w.heap.size w w'))
     case atStart => exact ⟨(true), (0), (by first | rfl | (simp; done) | (simp [*]; done)), (by first | rfl | (simp; done) | (simp [*]; done)), H', ⟨Nat.le_refl _⟩, ⟨by (with_reducible repeat (first | apply Kd.V_alloc | apply Kd.V_drewN | apply Kd.V_drew)); exact HO_7.out⟩, ⟨by apply_rules [HO_8.out, Kd.R_alloc, Kd.R_drewN, Kd.R_drew]⟩, ⟨by apply_rules [HO_9.out, Kd.R_alloc, Kd.R_drewN, Kd.R_drew]⟩, ⟨by (with_reducible repeat (first | apply Kd.V_alloc | apply Kd.V_drewN | apply Kd.V_drew)); exact HO_10.out⟩, ⟨by (with_reducible repeat (first | apply Kd.V_alloc | apply Kd.V_drewN | apply Kd.V_drew)); exact HO_12.out⟩, ⟨by (with_reducible repeat (first | apply Kd.V_alloc | apply Kd.V_drewN | apply Kd.V_drew)); exact HO_14.out⟩, ⟨by (with_reducible repeat (first | apply Kd.V_alloc | apply Kd.V_drewN | apply Kd.V_drew)); exact HO_16.out⟩, ⟨by apply_rules [BK696.out, blk_drewN, blk_drew, blk_alloc]⟩, ⟨by apply_rules [BK697.out, blk_drewN, blk_drew, blk_alloc]⟩, ⟨by apply_rules [HB.out, below_alloc, pw_below_drewN, below_drew1, below_set, GE696.out, GE697.out]⟩⟩
     case round =>
      clear H'
      obtain ⟨x18_2, x19_2, rfl, rfl, HA, HK2, HO_7, HO_8, HO_9, HO_10, HO_12, HO_14, HO_16, BK696, BK697, HB⟩ := hrel
      cases gk with
      | zero => exact absurd HA.out (by simp [schismalaw12_MonzoAdds.l0])
      | succ k2 =>
       have H := HA.out
       clear HA
       simp only [schismalaw12_MonzoAdds.l0] at H
       by_cases c49 : x19_2 < (t699.length : Int)
       ·rw [if_pos c49] at H
        have c49b0 : decide (x19_2 < (t699.length : Int)) = true := decide_eq_true c49
        clear c49
        have HC50 := Aside0.mk H
        clear H
        go_upto_region 15 with (fail)
        repeat (go_quiet (fail); go_upto_region 15 with (fail))
        go_cut [136] (fun v136 wc => ∃ (kq : Nat) (x136_49 : Bool), v136 = .bool x136_49 ∧ Aside0 (schismalaw12_MonzoAdds.j2 kq a2 t699 t702 t705 t708 t712 t716 t720 t723 x18_2 x19_2 x136_49 = some r) ∧ Aside0 (kq ≤ k2) ∧ Aside0 (Kd.V (Kd.int .i64) 3 wc w.heap.size (fun k_ => some k_ ≠ ((.slice Ao22 t702.length co22) : Value).ownBlock ∧ some k_ ≠ ((.slice Ao23 t705.length co23) : Value).ownBlock ∧ k_ ≠ gb696 ∧ k_ ≠ gb697) (.slice Ao20 t699.length co20) t699) ∧ Aside0 (Kd.R (Kd.int .i64) 3 wc w.heap.size (fun k_ => some k_ ≠ ((.slice Ao23 t705.length co23) : Value).ownBlock) (.slice Ao22 t702.length co22) t702) ∧ Aside0 (Kd.R (Kd.int .i64) 3 wc w.heap.size (fun k_ => some k_ ≠ ((.slice Ao22 t702.length co22) : Value).ownBlock) (.slice Ao23 t705.length co23) t705) ∧ Aside0 (Kd.V (Kd.int .i64) 3 wc w.heap.size (fun k_ => k_ ≠ gb696 ∧ k_ ≠ gb697) v709 t708) ∧ Aside0 (Kd.V (Kd.int .i64) 3 wc w.heap.size (fun k_ => k_ ≠ gb696 ∧ k_ ≠ gb697) v713 t712) ∧ Aside0 (Kd.V (Kd.int .i64) 3 wc w.heap.size (fun k_ => some k_ ≠ ((.slice Ao22 t702.length co22) : Value).ownBlock ∧ some k_ ≠ ((.slice Ao23 t705.length co23) : Value).ownBlock ∧ k_ ≠ gb696 ∧ k_ ≠ gb697) v717 t716) ∧ Aside0 (Kd.V (Kd.int .i64) 3 wc w.heap.size (fun k_ => some k_ ≠ ((.slice Ao22 t702.length co22) : Value).ownBlock ∧ some k_ ≠ ((.slice Ao23 t705.length co23) : Value).ownBlock ∧ k_ ≠ gb696 ∧ k_ ≠ gb697) v721 t720) ∧ Aside0 (wc.heap[gb696]? = some (.cells #[.int .u8 a0_0, .int .i8 a0_1, .int .i8 a0_2, .int .i8 a0_3, .int .i8 a0_4] 50 (0, 0))) ∧ Aside0 (wc.heap[gb697]? = some (.cells #[.int .i8 a1_0, .int .i8 a1_1, .int .i8 a1_2, .int .i8 a1_3] 48 (0, 0))) ∧ Aside0 (Below w.heap.size w wc))
        case first =>
         have H := HC50.out
         clear HC50
         by_cases c51 : 0 ≤ x19_2
         case neg => rw [if_neg c51] at H; exact absurd H (by simp)
         rw [if_pos c51] at H
         have c51b0 : decide (0 ≤ x19_2) = true := decide_eq_true c51
         clear c51
         (first | rw [c51b0] | (simp only [i64_w, i32_w]; rw [c51b0]) | skip)
         by_cases c52 : x19_2 < (t708.length : Int)
         case neg => rw [if_neg c52] at H; exact absurd H (by simp)
         rw [if_pos c52] at H
         have c52b0 : decide (x19_2 < (t708.length : Int)) = true := decide_eq_true c52
         clear c52
         by_cases c53 : x19_2 < (t702.length : Int)
         case neg => rw [if_neg c53] at H; exact absurd H (by simp)
         rw [if_pos c53] at H
         have c53b0 : decide (x19_2 < (t702.length : Int)) = true := decide_eq_true c53
         clear c53
         by_cases c54 : x19_2 < (t705.length : Int)
         case neg => rw [if_neg c54] at H; exact absurd H (by simp)
         rw [if_pos c54] at H
         have c54b0 : decide (x19_2 < (t705.length : Int)) = true := decide_eq_true c54
         clear c54
         by_cases c55 : (rd t708 x19_2) = (wrap64 ((rd t702 x19_2) + (rd t705 x19_2)))
         case neg => rw [if_neg c55] at H; have c55b0 : ((rd t708 x19_2) == (wrap64 ((rd t702 x19_2) + (rd t705 x19_2)))) = false := beq_eq_false_iff_ne.mpr c55; have c55b1 : ((rd t708 x19_2) != (wrap64 ((rd t702 x19_2) + (rd t705 x19_2)))) = true := bne_iff_ne.mpr c55; exact (schismalaw12_MonzoAdds.j2_no H hr).elim
         rw [if_pos c55] at H
         have c55b0 : ((rd t708 x19_2) == (wrap64 ((rd t702 x19_2) + (rd t705 x19_2)))) = true := beq_iff_eq.mpr c55
         have c55b1 : ((rd t708 x19_2) != (wrap64 ((rd t702 x19_2) + (rd t705 x19_2)))) = false := bne_eq_false_iff_eq.mpr c55
         clear c55
         by_cases c56 : x19_2 < (t712.length : Int)
         case neg => rw [if_neg c56] at H; exact absurd H (by simp)
         rw [if_pos c56] at H
         have c56b0 : decide (x19_2 < (t712.length : Int)) = true := decide_eq_true c56
         clear c56
         by_cases c57 : (rd t712 x19_2) = (wrap64 ((rd t702 x19_2) - (rd t705 x19_2)))
         case neg => rw [if_neg c57] at H; have c57b0 : ((rd t712 x19_2) == (wrap64 ((rd t702 x19_2) - (rd t705 x19_2)))) = false := beq_eq_false_iff_ne.mpr c57; have c57b1 : ((rd t712 x19_2) != (wrap64 ((rd t702 x19_2) - (rd t705 x19_2)))) = true := bne_iff_ne.mpr c57; exact (schismalaw12_MonzoAdds.j2_no H hr).elim
         rw [if_pos c57] at H
         have c57b0 : ((rd t712 x19_2) == (wrap64 ((rd t702 x19_2) - (rd t705 x19_2)))) = true := beq_iff_eq.mpr c57
         have c57b1 : ((rd t712 x19_2) != (wrap64 ((rd t702 x19_2) - (rd t705 x19_2)))) = false := bne_eq_false_iff_eq.mpr c57
         clear c57
         by_cases c58 : x19_2 < (t716.length : Int)
         case neg => rw [if_neg c58] at H; exact absurd H (by simp)
         rw [if_pos c58] at H
         have c58b0 : decide (x19_2 < (t716.length : Int)) = true := decide_eq_true c58
         clear c58
         have H' := Aside0.mk H
         clear H
         obtain ⟨Ao59, co59, eo59⟩ := Kd.V_slice HO_10.out
         subst eo59
         have p724 : 0 ≤ (x19_2 : Int) := of_decide_eq_true (by assumption)
         have q724 : x19_2 < (t708.length : Int) := of_decide_eq_true (by assumption)
         obtain ⟨ad724, e724, hx724_0⟩ := Kd.at_int (Kd.V_reads' HO_10.out).2.2 x19_2 p724 q724
         cases e724
         replace p724 := eq_true p724
         replace q724 := eq_true q724
         have p725 : 0 ≤ (x19_2 : Int) := of_decide_eq_true (by assumption)
         have q725 : x19_2 < (t702.length : Int) := of_decide_eq_true (by assumption)
         obtain ⟨ad725, e725, hx725_0⟩ := Kd.at_int (Kd.R_reads' HO_8.out).2.2 x19_2 p725 q725
         cases e725
         replace p725 := eq_true p725
         replace q725 := eq_true q725
         have p726 : 0 ≤ (x19_2 : Int) := of_decide_eq_true (by assumption)
         have q726 : x19_2 < (t705.length : Int) := of_decide_eq_true (by assumption)
         obtain ⟨ad726, e726, hx726_0⟩ := Kd.at_int (Kd.R_reads' HO_9.out).2.2 x19_2 p726 q726
         cases e726
         replace p726 := eq_true p726
         replace q726 := eq_true q726
         obtain ⟨Ao60, co60, eo60⟩ := Kd.V_slice HO_12.out
         subst eo60
         have p727 : 0 ≤ (x19_2 : Int) := of_decide_eq_true (by assumption)
         have q727 : x19_2 < (t712.length : Int) := of_decide_eq_true (by assumption)
         obtain ⟨ad727, e727, hx727_0⟩ := Kd.at_int (Kd.V_reads' HO_12.out).2.2 x19_2 p727 q727
         cases e727
         replace p727 := eq_true p727
         replace q727 := eq_true q727
         have p728 : 0 ≤ (x19_2 : Int) := of_decide_eq_true (by assumption)
         have q728 : x19_2 < (t702.length : Int) := of_decide_eq_true (by assumption)
         obtain ⟨ad728, e728, hx728_0⟩ := Kd.at_int (Kd.R_reads' HO_8.out).2.2 x19_2 p728 q728
         obtain rfl : ad725 = ad728 := (by injection e728)
         replace p728 := eq_true p728
         replace q728 := eq_true q728
         have p729 : 0 ≤ (x19_2 : Int) := of_decide_eq_true (by assumption)
         have q729 : x19_2 < (t705.length : Int) := of_decide_eq_true (by assumption)
         obtain ⟨ad729, e729, hx729_0⟩ := Kd.at_int (Kd.R_reads' HO_9.out).2.2 x19_2 p729 q729
         obtain rfl : ad726 = ad729 := (by injection e729)
         replace p729 := eq_true p729
         replace q729 := eq_true q729
         obtain ⟨Ao61, co61, eo61⟩ := Kd.V_slice HO_14.out
         subst eo61
         have p730 : 0 ≤ (x19_2 : Int) := of_decide_eq_true (by assumption)
         have q730 : x19_2 < (t716.length : Int) := of_decide_eq_true (by assumption)
         obtain ⟨ad730, e730, hx730_0⟩ := Kd.at_int (Kd.V_reads' HO_14.out).2.2 x19_2 p730 q730
         cases e730
         replace p730 := eq_true p730
         replace q730 := eq_true q730
         have p731 : 0 ≤ (x19_2 : Int) := of_decide_eq_true (by assumption)
         have q731 : x19_2 < (t702.length : Int) := of_decide_eq_true (by assumption)
         obtain ⟨ad731, e731, hx731_0⟩ := Kd.at_int (Kd.R_reads' HO_8.out).2.2 x19_2 p731 q731
         obtain rfl : ad725 = ad731 := (by injection e731)
         replace p731 := eq_true p731
         replace q731 := eq_true q731
         go_wp2
         repeat (go_quiet (fail); try go_wp2)
         go_meet
         case rel => exact ⟨_, (((rd t716 x19_2) != (wrap64 (-(rd t702 x19_2))))), (by first | rfl | (simp; done) | (simp [*]; done)), H', ⟨by have := HJ11.out; have := HK2.out; first | omega | exact Nat.le_refl _⟩, ⟨by (with_reducible repeat (first | apply Kd.V_alloc | apply Kd.V_drewN | apply Kd.V_drew)); exact HO_7.out⟩, ⟨by apply_rules [HO_8.out, Kd.R_alloc, Kd.R_drewN, Kd.R_drew]⟩, ⟨by apply_rules [HO_9.out, Kd.R_alloc, Kd.R_drewN, Kd.R_drew]⟩, ⟨by (with_reducible repeat (first | apply Kd.V_alloc | apply Kd.V_drewN | apply Kd.V_drew)); exact HO_10.out⟩, ⟨by (with_reducible repeat (first | apply Kd.V_alloc | apply Kd.V_drewN | apply Kd.V_drew)); exact HO_12.out⟩, ⟨by (with_reducible repeat (first | apply Kd.V_alloc | apply Kd.V_drewN | apply Kd.V_drew)); exact HO_14.out⟩, ⟨by (with_reducible repeat (first | apply Kd.V_alloc | apply Kd.V_drewN | apply Kd.V_drew)); exact HO_16.out⟩, ⟨by apply_rules [BK696.out, blk_drewN, blk_drew, blk_alloc]⟩, ⟨by apply_rules [BK697.out, blk_drewN, blk_drew, blk_alloc]⟩, ⟨by apply_rules [HB.out, below_alloc, pw_below_drewN, below_drew1, below_set, GE696.out, GE697.out]⟩⟩
        case rest =>
         clear HC50
         obtain ⟨kq, x136_49, rfl, HA, HJ49, HO_7, HO_8, HO_9, HO_10, HO_12, HO_14, HO_16, BK696, BK697, HB⟩ := hcut
         cases kq with
         | zero => exact absurd HA.out (by simp [schismalaw12_MonzoAdds.j2])
         | succ kj49 =>
          have H := HA.out
          clear HA
          simp only [schismalaw12_MonzoAdds.j2] at H
          by_cases c65 : x136_49 = true
          ·subst c65
           have H1 : (some false) = some r := by rw [if_pos rfl] at H; exact H
           clear H
           have H := H1
           clear H1
           exact absurd ((Option.some.inj H).trans hr) Bool.false_ne_true
          ·replace c65 := Bool.eq_false_iff.mpr c65
           subst c65
           have H1 : (if x18_2 = true then (if 0 ≤ x19_2 then (if x19_2 < (t702.length : Int) then (if (rd t702 x19_2) = 0 then (schismalaw12_MonzoAdds.l0 kj49 a2 t699 t702 t705 t708 t712 t716 t720 t723 true (wrap64 (x19_2 + 1))) else ((schismalaw12_abs.f (rd t702 x19_2)).bind fun t734 => (if t734 = 0 then (none) else (if a2 ≤ (wrap64 (Int.tdiv (1000 : Int) t734)) then ((schismalaw12_abs.f (rd t702 x19_2)).bind fun t736 => (if t736 = 0 then (none) else (schismalaw12_MonzoAdds.l0 kj49 a2 t699 t702 t705 t708 t712 t716 t720 t723 (decide (a2 ≥ (wrap64 (-(wrap64 (Int.tdiv (1000 : Int) t736)))))) (wrap64 (x19_2 + 1))))) else (schismalaw12_MonzoAdds.l0 kj49 a2 t699 t702 t705 t708 t712 t716 t720 t723 false (wrap64 (x19_2 + 1))))))) else (none)) else (none)) else (schismalaw12_MonzoAdds.l0 kj49 a2 t699 t702 t705 t708 t712 t716 t720 t723 false (wrap64 (x19_2 + 1)))) = some r := by rw [if_neg (show ¬ (false = true) by decide)] at H; exact H
           clear H
           have H := H1
           clear H1
           by_cases c66 : x18_2 = true
           ·subst c66
            have H1 : (if 0 ≤ x19_2 then (if x19_2 < (t702.length : Int) then (if (rd t702 x19_2) = 0 then (schismalaw12_MonzoAdds.l0 kj49 a2 t699 t702 t705 t708 t712 t716 t720 t723 true (wrap64 (x19_2 + 1))) else ((schismalaw12_abs.f (rd t702 x19_2)).bind fun t734 => (if t734 = 0 then (none) else (if a2 ≤ (wrap64 (Int.tdiv (1000 : Int) t734)) then ((schismalaw12_abs.f (rd t702 x19_2)).bind fun t736 => (if t736 = 0 then (none) else (schismalaw12_MonzoAdds.l0 kj49 a2 t699 t702 t705 t708 t712 t716 t720 t723 (decide (a2 ≥ (wrap64 (-(wrap64 (Int.tdiv (1000 : Int) t736)))))) (wrap64 (x19_2 + 1))))) else (schismalaw12_MonzoAdds.l0 kj49 a2 t699 t702 t705 t708 t712 t716 t720 t723 false (wrap64 (x19_2 + 1))))))) else (none)) else (none)) = some r := by rw [if_pos rfl] at H; exact H
            clear H
            have H := H1
            clear H1
            by_cases c67 : 0 ≤ x19_2
            case neg => rw [if_neg c67] at H; exact absurd H (by simp)
            rw [if_pos c67] at H
            have c67b0 : decide (0 ≤ x19_2) = true := decide_eq_true c67
            clear c67
            by_cases c68 : x19_2 < (t702.length : Int)
            case neg => rw [if_neg c68] at H; exact absurd H (by simp)
            rw [if_pos c68] at H
            have c68b0 : decide (x19_2 < (t702.length : Int)) = true := decide_eq_true c68
            clear c68
            by_cases c69 : (rd t702 x19_2) = 0
            ·rw [if_pos c69] at H
             have c69b0 : ((rd t702 x19_2) == 0) = true := beq_iff_eq.mpr c69
             have c69b1 : ((rd t702 x19_2) != 0) = false := bne_eq_false_iff_eq.mpr c69
             clear c69
             have H' := Aside0.mk H
             clear H
             have p732 : 0 ≤ (x19_2 : Int) := of_decide_eq_true (by assumption)
             have q732 : x19_2 < (t702.length : Int) := of_decide_eq_true (by assumption)
             obtain ⟨ad732, e732, hx732_0⟩ := Kd.at_int (Kd.R_reads' HO_8.out).2.2 x19_2 p732 q732
             cases e732
             replace p732 := eq_true p732
             replace q732 := eq_true q732
             go_wp2
             repeat (go_quiet (fail); try go_wp2)
             go_roundg kj49
             case measure => have := HJ11.out; have := HK2.out; have := HJ49.out; omega
             case rel => exact ⟨(true), (wrap64 (x19_2 + 1)), (by first | rfl | (simp; done) | (simp [*]; done)), (by first | rfl | (simp; done) | (simp [*]; done)), H', ⟨by have := HJ11.out; have := HK2.out; have := HJ49.out; omega⟩, ⟨by (with_reducible repeat (first | apply Kd.V_alloc | apply Kd.V_drewN | apply Kd.V_drew)); exact HO_7.out⟩, ⟨by apply_rules [HO_8.out, Kd.R_alloc, Kd.R_drewN, Kd.R_drew]⟩, ⟨by apply_rules [HO_9.out, Kd.R_alloc, Kd.R_drewN, Kd.R_drew]⟩, ⟨by (with_reducible repeat (first | apply Kd.V_alloc | apply Kd.V_drewN | apply Kd.V_drew)); exact HO_10.out⟩, ⟨by (with_reducible repeat (first | apply Kd.V_alloc | apply Kd.V_drewN | apply Kd.V_drew)); exact HO_12.out⟩, ⟨by (with_reducible repeat (first | apply Kd.V_alloc | apply Kd.V_drewN | apply Kd.V_drew)); exact HO_14.out⟩, ⟨by (with_reducible repeat (first | apply Kd.V_alloc | apply Kd.V_drewN | apply Kd.V_drew)); exact HO_16.out⟩, ⟨by apply_rules [BK696.out, blk_drewN, blk_drew, blk_alloc]⟩, ⟨by apply_rules [BK697.out, blk_drewN, blk_drew, blk_alloc]⟩, ⟨by apply_rules [HB.out, below_alloc, pw_below_drewN, below_drew1, below_set, GE696.out, GE697.out]⟩⟩
            ·rw [if_neg c69] at H
             have c69b0 : ((rd t702 x19_2) == 0) = false := beq_eq_false_iff_ne.mpr c69
             have c69b1 : ((rd t702 x19_2) != 0) = true := bne_iff_ne.mpr c69
             replace H := Option.bind_eq_some_iff.mp H
             obtain ⟨t734, A700, H⟩ := H
             try dsimp only at H
             have A70 := Aside0.mk A700
             clear A700
             by_cases c71 : t734 = 0
             case pos => rw [if_pos c71] at H; exact absurd H (by simp)
             rw [if_neg c71] at H
             have c71b0 : (t734 == 0) = false := beq_eq_false_iff_ne.mpr c71
             have c71b1 : (t734 != 0) = true := bne_iff_ne.mpr c71
             by_cases c72 : a2 ≤ (wrap64 (Int.tdiv (1000 : Int) t734))
             ·rw [if_pos c72] at H
              have c72b0 : decide (a2 ≤ (wrap64 (Int.tdiv (1000 : Int) t734))) = true := decide_eq_true c72
              clear c72
              replace H := Option.bind_eq_some_iff.mp H
              obtain ⟨t736, A730, H⟩ := H
              try dsimp only at H
              have A73 := Aside0.mk A730
              clear A730
              by_cases c74 : t736 = 0
              case pos => rw [if_pos c74] at H; exact absurd H (by simp)
              rw [if_neg c74] at H
              have c74b0 : (t736 == 0) = false := beq_eq_false_iff_ne.mpr c74
              have c74b1 : (t736 != 0) = true := bne_iff_ne.mpr c74
              have H' := Aside0.mk H
              clear H
              have p732 : 0 ≤ (x19_2 : Int) := of_decide_eq_true (by assumption)
              have q732 : x19_2 < (t702.length : Int) := of_decide_eq_true (by assumption)
              obtain ⟨ad732, e732, hx732_0⟩ := Kd.at_int (Kd.R_reads' HO_8.out).2.2 x19_2 p732 q732
              cases e732
              replace p732 := eq_true p732
              replace q732 := eq_true q732
              have p733 : 0 ≤ (x19_2 : Int) := of_decide_eq_true (by assumption)
              have q733 : x19_2 < (t702.length : Int) := of_decide_eq_true (by assumption)
              obtain ⟨ad733, e733, hx733_0⟩ := Kd.at_int (Kd.R_reads' HO_8.out).2.2 x19_2 p733 q733
              obtain rfl : ad732 = ad733 := (by injection e733)
              replace p733 := eq_true p733
              replace q733 := eq_true q733
              go_wp2_with (first | (go_at_call 40; (with_reducible refine (schismalaw12_abs.calls (rd t702 x19_2) t734 _ A70.out).mono ?_); rintro e w' ⟨rfl, ⟨nd, rfl⟩⟩; (try first | exact ⟨rfl, _, World.drewN_drewN _ _ _⟩ | exact ⟨rfl, _, Eq.trans (World.drewN_drewN _ _ _) (congrArg (World.drewN _) (Nat.add_assoc _ _ _))⟩); have p735 : 0 ≤ (x19_2 : Int) := of_decide_eq_true (by assumption); have q735 : x19_2 < (t702.length : Int) := of_decide_eq_true (by assumption); obtain ⟨ad735, e735, hx735_0⟩ := Kd.at_int (Kd.R_reads' HO_8.out).2.2 x19_2 p735 q735; obtain rfl : ad732 = ad735 := (by injection e735); replace p735 := eq_true p735; replace q735 := eq_true q735) | (go_at_call 40; (with_reducible refine (schismalaw12_abs.calls (rd t702 x19_2) t736 _ A73.out).mono ?_); rintro e w' ⟨rfl, ⟨nd, rfl⟩⟩; (try first | exact ⟨rfl, _, World.drewN_drewN _ _ _⟩ | exact ⟨rfl, _, Eq.trans (World.drewN_drewN _ _ _) (congrArg (World.drewN _) (Nat.add_assoc _ _ _))⟩)))
              repeat (go_quiet (first | (go_at_call 40; (with_reducible refine (schismalaw12_abs.calls (rd t702 x19_2) t734 _ A70.out).mono ?_); rintro e w' ⟨rfl, ⟨nd, rfl⟩⟩; (try first | exact ⟨rfl, _, World.drewN_drewN _ _ _⟩ | exact ⟨rfl, _, Eq.trans (World.drewN_drewN _ _ _) (congrArg (World.drewN _) (Nat.add_assoc _ _ _))⟩); have p735 : 0 ≤ (x19_2 : Int) := of_decide_eq_true (by assumption); have q735 : x19_2 < (t702.length : Int) := of_decide_eq_true (by assumption); obtain ⟨ad735, e735, hx735_0⟩ := Kd.at_int (Kd.R_reads' HO_8.out).2.2 x19_2 p735 q735; obtain rfl : ad732 = ad735 := (by injection e735); replace p735 := eq_true p735; replace q735 := eq_true q735) | (go_at_call 40; (with_reducible refine (schismalaw12_abs.calls (rd t702 x19_2) t736 _ A73.out).mono ?_); rintro e w' ⟨rfl, ⟨nd, rfl⟩⟩; (try first | exact ⟨rfl, _, World.drewN_drewN _ _ _⟩ | exact ⟨rfl, _, Eq.trans (World.drewN_drewN _ _ _) (congrArg (World.drewN _) (Nat.add_assoc _ _ _))⟩))); try go_wp2)
              go_roundg kj49
              case measure => have := HJ11.out; have := HK2.out; have := HJ49.out; omega
              case rel => exact ⟨(decide (a2 ≥ (wrap64 (-(wrap64 (Int.tdiv (1000 : Int) t736)))))), (wrap64 (x19_2 + 1)), (by have q_ : t736 = t734 := Option.some.inj (A73.out.symm.trans A70.out); subst q_; first | rfl | (simp; done) | (simp [*]; done)), (by first | rfl | (simp; done) | (simp [*]; done)), H', ⟨by have := HJ11.out; have := HK2.out; have := HJ49.out; omega⟩, ⟨by (with_reducible repeat (first | apply Kd.V_alloc | apply Kd.V_drewN | apply Kd.V_drew)); exact HO_7.out⟩, ⟨by apply_rules [HO_8.out, Kd.R_alloc, Kd.R_drewN, Kd.R_drew]⟩, ⟨by apply_rules [HO_9.out, Kd.R_alloc, Kd.R_drewN, Kd.R_drew]⟩, ⟨by (with_reducible repeat (first | apply Kd.V_alloc | apply Kd.V_drewN | apply Kd.V_drew)); exact HO_10.out⟩, ⟨by (with_reducible repeat (first | apply Kd.V_alloc | apply Kd.V_drewN | apply Kd.V_drew)); exact HO_12.out⟩, ⟨by (with_reducible repeat (first | apply Kd.V_alloc | apply Kd.V_drewN | apply Kd.V_drew)); exact HO_14.out⟩, ⟨by (with_reducible repeat (first | apply Kd.V_alloc | apply Kd.V_drewN | apply Kd.V_drew)); exact HO_16.out⟩, ⟨by apply_rules [BK696.out, blk_drewN, blk_drew, blk_alloc]⟩, ⟨by apply_rules [BK697.out, blk_drewN, blk_drew, blk_alloc]⟩, ⟨by apply_rules [HB.out, below_alloc, pw_below_drewN, below_drew1, below_set, GE696.out, GE697.out]⟩⟩
             ·rw [if_neg c72] at H
              have c72b0 : decide (a2 ≤ (wrap64 (Int.tdiv (1000 : Int) t734))) = false := decide_eq_false c72
              clear c72
              have H' := Aside0.mk H
              clear H
              have p732 : 0 ≤ (x19_2 : Int) := of_decide_eq_true (by assumption)
              have q732 : x19_2 < (t702.length : Int) := of_decide_eq_true (by assumption)
              obtain ⟨ad732, e732, hx732_0⟩ := Kd.at_int (Kd.R_reads' HO_8.out).2.2 x19_2 p732 q732
              cases e732
              replace p732 := eq_true p732
              replace q732 := eq_true q732
              have p733 : 0 ≤ (x19_2 : Int) := of_decide_eq_true (by assumption)
              have q733 : x19_2 < (t702.length : Int) := of_decide_eq_true (by assumption)
              obtain ⟨ad733, e733, hx733_0⟩ := Kd.at_int (Kd.R_reads' HO_8.out).2.2 x19_2 p733 q733
              obtain rfl : ad732 = ad733 := (by injection e733)
              replace p733 := eq_true p733
              replace q733 := eq_true q733
              go_wp2_with (first | (go_at_call 40; (with_reducible refine (schismalaw12_abs.calls (rd t702 x19_2) t734 _ A70.out).mono ?_); rintro e w' ⟨rfl, ⟨nd, rfl⟩⟩; (try first | exact ⟨rfl, _, World.drewN_drewN _ _ _⟩ | exact ⟨rfl, _, Eq.trans (World.drewN_drewN _ _ _) (congrArg (World.drewN _) (Nat.add_assoc _ _ _))⟩)))
              repeat (go_quiet (first | (go_at_call 40; (with_reducible refine (schismalaw12_abs.calls (rd t702 x19_2) t734 _ A70.out).mono ?_); rintro e w' ⟨rfl, ⟨nd, rfl⟩⟩; (try first | exact ⟨rfl, _, World.drewN_drewN _ _ _⟩ | exact ⟨rfl, _, Eq.trans (World.drewN_drewN _ _ _) (congrArg (World.drewN _) (Nat.add_assoc _ _ _))⟩))); try go_wp2)
              go_roundg kj49
              case measure => have := HJ11.out; have := HK2.out; have := HJ49.out; omega
              case rel => exact ⟨(false), (wrap64 (x19_2 + 1)), (by first | rfl | (simp; done) | (simp [*]; done)), (by first | rfl | (simp; done) | (simp [*]; done)), H', ⟨by have := HJ11.out; have := HK2.out; have := HJ49.out; omega⟩, ⟨by (with_reducible repeat (first | apply Kd.V_alloc | apply Kd.V_drewN | apply Kd.V_drew)); exact HO_7.out⟩, ⟨by apply_rules [HO_8.out, Kd.R_alloc, Kd.R_drewN, Kd.R_drew]⟩, ⟨by apply_rules [HO_9.out, Kd.R_alloc, Kd.R_drewN, Kd.R_drew]⟩, ⟨by (with_reducible repeat (first | apply Kd.V_alloc | apply Kd.V_drewN | apply Kd.V_drew)); exact HO_10.out⟩, ⟨by (with_reducible repeat (first | apply Kd.V_alloc | apply Kd.V_drewN | apply Kd.V_drew)); exact HO_12.out⟩, ⟨by (with_reducible repeat (first | apply Kd.V_alloc | apply Kd.V_drewN | apply Kd.V_drew)); exact HO_14.out⟩, ⟨by (with_reducible repeat (first | apply Kd.V_alloc | apply Kd.V_drewN | apply Kd.V_drew)); exact HO_16.out⟩, ⟨by apply_rules [BK696.out, blk_drewN, blk_drew, blk_alloc]⟩, ⟨by apply_rules [BK697.out, blk_drewN, blk_drew, blk_alloc]⟩, ⟨by apply_rules [HB.out, below_alloc, pw_below_drewN, below_drew1, below_set, GE696.out, GE697.out]⟩⟩
           ·replace c66 := Bool.eq_false_iff.mpr c66
            subst c66
            have H1 : (schismalaw12_MonzoAdds.l0 kj49 a2 t699 t702 t705 t708 t712 t716 t720 t723 false (wrap64 (x19_2 + 1))) = some r := by rw [if_neg (show ¬ (false = true) by decide)] at H; exact H
            clear H
            have H := H1
            clear H1
            have H' := Aside0.mk H
            clear H
            go_wp2
            repeat (go_quiet (fail); try go_wp2)
            go_roundg kj49
            case measure => have := HJ11.out; have := HK2.out; have := HJ49.out; omega
            case rel => exact ⟨(false), (wrap64 (x19_2 + 1)), (by first | rfl | (simp; done) | (simp [*]; done)), (by first | rfl | (simp; done) | (simp [*]; done)), H', ⟨by have := HJ11.out; have := HK2.out; have := HJ49.out; omega⟩, ⟨by (with_reducible repeat (first | apply Kd.V_alloc | apply Kd.V_drewN | apply Kd.V_drew)); exact HO_7.out⟩, ⟨by apply_rules [HO_8.out, Kd.R_alloc, Kd.R_drewN, Kd.R_drew]⟩, ⟨by apply_rules [HO_9.out, Kd.R_alloc, Kd.R_drewN, Kd.R_drew]⟩, ⟨by (with_reducible repeat (first | apply Kd.V_alloc | apply Kd.V_drewN | apply Kd.V_drew)); exact HO_10.out⟩, ⟨by (with_reducible repeat (first | apply Kd.V_alloc | apply Kd.V_drewN | apply Kd.V_drew)); exact HO_12.out⟩, ⟨by (with_reducible repeat (first | apply Kd.V_alloc | apply Kd.V_drewN | apply Kd.V_drew)); exact HO_14.out⟩, ⟨by (with_reducible repeat (first | apply Kd.V_alloc | apply Kd.V_drewN | apply Kd.V_drew)); exact HO_16.out⟩, ⟨by apply_rules [BK696.out, blk_drewN, blk_drew, blk_alloc]⟩, ⟨by apply_rules [BK697.out, blk_drewN, blk_drew, blk_alloc]⟩, ⟨by apply_rules [HB.out, below_alloc, pw_below_drewN, below_drew1, below_set, GE696.out, GE697.out]⟩⟩
       ·rw [if_neg c49] at H
        have c49b0 : decide (x19_2 < (t699.length : Int)) = false := decide_eq_false c49
        clear c49
        by_cases c75 : x18_2 = true
        ·subst c75
         have H1 : (schismalaw12_MonzoAdds.l1 k2 a2 t699 t702 t720 t723 0) = some r := by rw [if_pos rfl] at H; exact H
         clear H
         have H := H1
         clear H1
         have H' := Aside0.mk H
         clear H
         go_wp2
         repeat (go_quiet (fail); try go_wp2)
         go_loopg [20] k2 (fun kq v20 w' => ∃ (x20_3 : Int), v20 = .int .i64 x20_3 ∧ Aside0 (schismalaw12_MonzoAdds.l1 kq a2 t699 t702 t720 t723 x20_3 = some r) ∧ Aside0 (kq ≤ k2) ∧ Aside0 (Kd.V (Kd.int .i64) 3 w' w.heap.size (fun k_ => some k_ ≠ ((.slice Ao22 t702.length co22) : Value).ownBlock ∧ k_ ≠ gb696 ∧ k_ ≠ gb697) (.slice Ao20 t699.length co20) t699) ∧ Aside0 (Kd.R (Kd.int .i64) 3 w' w.heap.size (fun _ => True) (.slice Ao22 t702.length co22) t702) ∧ Aside0 (Kd.V (Kd.int .i64) 3 w' w.heap.size (fun k_ => some k_ ≠ ((.slice Ao22 t702.length co22) : Value).ownBlock ∧ k_ ≠ gb696 ∧ k_ ≠ gb697) v721 t720) ∧ Aside0 (w'.heap[gb696]? = some (.cells #[.int .u8 a0_0, .int .i8 a0_1, .int .i8 a0_2, .int .i8 a0_3, .int .i8 a0_4] 50 (0, 0))) ∧ Aside0 (w'.heap[gb697]? = some (.cells #[.int .i8 a1_0, .int .i8 a1_1, .int .i8 a1_2, .int .i8 a1_3] 48 (0, 0))) ∧ Aside0 (Below w.heap.size w w'))
         case atStart => exact ⟨(0), (by first | rfl | (simp; done) | (simp [*]; done)), H', ⟨Nat.le_refl _⟩, ⟨by (with_reducible repeat (first | apply Kd.V_alloc | apply Kd.V_drewN | apply Kd.V_drew)); exact Kd.V_mono HO_7.out (fun _ hk => ⟨hk.1, ⟨hk.2.2.1, hk.2.2.2⟩⟩)⟩, ⟨by (with_reducible repeat (first | apply Kd.R_alloc | apply Kd.R_drewN | apply Kd.R_drew)); exact Kd.R_mono HO_8.out (fun _ hk => trivial)⟩, ⟨by (with_reducible repeat (first | apply Kd.V_alloc | apply Kd.V_drewN | apply Kd.V_drew)); exact Kd.V_mono HO_16.out (fun _ hk => ⟨hk.1, ⟨hk.2.2.1, hk.2.2.2⟩⟩)⟩, ⟨by apply_rules [BK696.out, blk_drewN, blk_drew, blk_alloc]⟩, ⟨by apply_rules [BK697.out, blk_drewN, blk_drew, blk_alloc]⟩, ⟨by apply_rules [HB.out, below_alloc, pw_below_drewN, below_drew1, below_set, GE696.out, GE697.out]⟩⟩
         case round =>
          clear H'
          obtain ⟨x20_3, rfl, HA, HK3, HO_7, HO_8, HO_16, BK696, BK697, HB⟩ := hrel
          cases gk with
          | zero => exact absurd HA.out (by simp [schismalaw12_MonzoAdds.l1])
          | succ k3 =>
           have H := HA.out
           clear HA
           simp only [schismalaw12_MonzoAdds.l1] at H
           by_cases c76 : x20_3 < (t699.length : Int)
           ·rw [if_pos c76] at H
            have c76b0 : decide (x20_3 < (t699.length : Int)) = true := decide_eq_true c76
            clear c76
            by_cases c77 : (t720.length : Int) = (t699.length : Int)
            ·rw [if_pos c77] at H
             have c77b0 : ((t720.length : Int) == (t699.length : Int)) = true := beq_iff_eq.mpr c77
             have c77b1 : ((t720.length : Int) != (t699.length : Int)) = false := bne_eq_false_iff_eq.mpr c77
             have c77b2 : (t720.length == t699.length) = true := by first | simpa using c77 | (simp at c77 ⊢; omega)
             clear c77
             by_cases c78 : 0 ≤ x20_3
             case neg => rw [if_neg c78] at H; exact absurd H (by simp)
             rw [if_pos c78] at H
             have c78b0 : decide (0 ≤ x20_3) = true := decide_eq_true c78
             clear c78
             by_cases c79 : x20_3 < (t702.length : Int)
             case neg => rw [if_neg c79] at H; exact absurd H (by simp)
             rw [if_pos c79] at H
             have c79b0 : decide (x20_3 < (t702.length : Int)) = true := decide_eq_true c79
             clear c79
             by_cases c80 : (rd t702 x20_3) = 0
             ·rw [if_pos c80] at H
              have c80b0 : ((rd t702 x20_3) == 0) = true := beq_iff_eq.mpr c80
              have c80b1 : ((rd t702 x20_3) != 0) = false := bne_eq_false_iff_eq.mpr c80
              clear c80
              by_cases c81 : x20_3 < (t720.length : Int)
              case neg => rw [if_neg c81] at H; exact absurd H (by simp)
              rw [if_pos c81] at H
              have c81b0 : decide (x20_3 < (t720.length : Int)) = true := decide_eq_true c81
              clear c81
              by_cases c82 : (rd t720 x20_3) = 0
              case neg => rw [if_neg c82] at H; have c82b0 : ((rd t720 x20_3) == 0) = false := beq_eq_false_iff_ne.mpr c82; have c82b1 : ((rd t720 x20_3) != 0) = true := bne_iff_ne.mpr c82; exact absurd ((Option.some.inj H).trans hr) Bool.false_ne_true
              rw [if_pos c82] at H
              have c82b0 : ((rd t720 x20_3) == 0) = true := beq_iff_eq.mpr c82
              have c82b1 : ((rd t720 x20_3) != 0) = false := bne_eq_false_iff_eq.mpr c82
              clear c82
              have H' := Aside0.mk H
              clear H
              obtain ⟨Ao83, co83, eo83⟩ := Kd.V_slice HO_16.out
              subst eo83
              have p737 : 0 ≤ (x20_3 : Int) := of_decide_eq_true (by assumption)
              have q737 : x20_3 < (t702.length : Int) := of_decide_eq_true (by assumption)
              obtain ⟨ad737, e737, hx737_0⟩ := Kd.at_int (Kd.R_reads' HO_8.out).2.2 x20_3 p737 q737
              cases e737
              replace p737 := eq_true p737
              replace q737 := eq_true q737
              have p738 : 0 ≤ (x20_3 : Int) := of_decide_eq_true (by assumption)
              have q738 : x20_3 < (t702.length : Int) := of_decide_eq_true (by assumption)
              obtain ⟨ad738, e738, hx738_0⟩ := Kd.at_int (Kd.R_reads' HO_8.out).2.2 x20_3 p738 q738
              obtain rfl : ad737 = ad738 := (by injection e738)
              replace p738 := eq_true p738
              replace q738 := eq_true q738
              have p739 : 0 ≤ (x20_3 : Int) := of_decide_eq_true (by assumption)
              have q739 : x20_3 < (t720.length : Int) := of_decide_eq_true (by assumption)
              obtain ⟨ad739, e739, hx739_0⟩ := Kd.at_int (Kd.V_reads' HO_16.out).2.2 x20_3 p739 q739
              cases e739
              replace p739 := eq_true p739
              replace q739 := eq_true q739
              go_wp2
              repeat (go_quiet (fail); try go_wp2)
              go_roundg k3
              case measure => have := HJ11.out; have := HK2.out; have := HK3.out; omega
              case rel => exact ⟨(wrap64 (x20_3 + 1)), (by first | rfl | (simp; done) | (simp [*]; done)), H', ⟨by have := HJ11.out; have := HK2.out; have := HK3.out; omega⟩, ⟨by (with_reducible repeat (first | apply Kd.V_alloc | apply Kd.V_drewN | apply Kd.V_drew)); exact HO_7.out⟩, ⟨by apply_rules [HO_8.out, Kd.R_alloc, Kd.R_drewN, Kd.R_drew]⟩, ⟨by (with_reducible repeat (first | apply Kd.V_alloc | apply Kd.V_drewN | apply Kd.V_drew)); exact HO_16.out⟩, ⟨by apply_rules [BK696.out, blk_drewN, blk_drew, blk_alloc]⟩, ⟨by apply_rules [BK697.out, blk_drewN, blk_drew, blk_alloc]⟩, ⟨by apply_rules [HB.out, below_alloc, pw_below_drewN, below_drew1, below_set, GE696.out, GE697.out]⟩⟩
             ·rw [if_neg c80] at H
              have c80b0 : ((rd t702 x20_3) == 0) = false := beq_eq_false_iff_ne.mpr c80
              have c80b1 : ((rd t702 x20_3) != 0) = true := bne_iff_ne.mpr c80
              by_cases c85 : x20_3 < (t720.length : Int)
              case neg => rw [if_neg c85] at H; exact absurd H (by simp)
              rw [if_pos c85] at H
              have c85b0 : decide (x20_3 < (t720.length : Int)) = true := decide_eq_true c85
              clear c85
              by_cases c86 : (rd t720 x20_3) = (wrap64 (a2 * (rd t702 x20_3)))
              case neg => rw [if_neg c86] at H; have c86b0 : ((rd t720 x20_3) == (wrap64 (a2 * (rd t702 x20_3)))) = false := beq_eq_false_iff_ne.mpr c86; have c86b1 : ((rd t720 x20_3) != (wrap64 (a2 * (rd t702 x20_3)))) = true := bne_iff_ne.mpr c86; exact absurd ((Option.some.inj H).trans hr) Bool.false_ne_true
              rw [if_pos c86] at H
              have c86b0 : ((rd t720 x20_3) == (wrap64 (a2 * (rd t702 x20_3)))) = true := beq_iff_eq.mpr c86
              have c86b1 : ((rd t720 x20_3) != (wrap64 (a2 * (rd t702 x20_3)))) = false := bne_eq_false_iff_eq.mpr c86
              clear c86
              have H' := Aside0.mk H
              clear H
              obtain ⟨Ao87, co87, eo87⟩ := Kd.V_slice HO_16.out
              subst eo87
              have p737 : 0 ≤ (x20_3 : Int) := of_decide_eq_true (by assumption)
              have q737 : x20_3 < (t702.length : Int) := of_decide_eq_true (by assumption)
              obtain ⟨ad737, e737, hx737_0⟩ := Kd.at_int (Kd.R_reads' HO_8.out).2.2 x20_3 p737 q737
              cases e737
              replace p737 := eq_true p737
              replace q737 := eq_true q737
              have p740 : 0 ≤ (x20_3 : Int) := of_decide_eq_true (by assumption)
              have q740 : x20_3 < (t720.length : Int) := of_decide_eq_true (by assumption)
              obtain ⟨ad740, e740, hx740_0⟩ := Kd.at_int (Kd.V_reads' HO_16.out).2.2 x20_3 p740 q740
              cases e740
              replace p740 := eq_true p740
              replace q740 := eq_true q740
              have p741 : 0 ≤ (x20_3 : Int) := of_decide_eq_true (by assumption)
              have q741 : x20_3 < (t702.length : Int) := of_decide_eq_true (by assumption)
              obtain ⟨ad741, e741, hx741_0⟩ := Kd.at_int (Kd.R_reads' HO_8.out).2.2 x20_3 p741 q741
              obtain rfl : ad737 = ad741 := (by injection e741)
              replace p741 := eq_true p741
              replace q741 := eq_true q741
              have p742 : 0 ≤ (x20_3 : Int) := of_decide_eq_true (by assumption)
              have q742 : x20_3 < (t702.length : Int) := of_decide_eq_true (by assumption)
              obtain ⟨ad742, e742, hx742_0⟩ := Kd.at_int (Kd.R_reads' HO_8.out).2.2 x20_3 p742 q742
              obtain rfl : ad737 = ad742 := (by injection e742)
              replace p742 := eq_true p742
              replace q742 := eq_true q742
              go_wp2
              repeat (go_quiet (fail); try go_wp2)
              go_roundg k3
              case measure => have := HJ11.out; have := HK2.out; have := HK3.out; omega
              case rel => exact ⟨(wrap64 (x20_3 + 1)), (by first | rfl | (simp; done) | (simp [*]; done)), H', ⟨by have := HJ11.out; have := HK2.out; have := HK3.out; omega⟩, ⟨by (with_reducible repeat (first | apply Kd.V_alloc | apply Kd.V_drewN | apply Kd.V_drew)); exact HO_7.out⟩, ⟨by apply_rules [HO_8.out, Kd.R_alloc, Kd.R_drewN, Kd.R_drew]⟩, ⟨by (with_reducible repeat (first | apply Kd.V_alloc | apply Kd.V_drewN | apply Kd.V_drew)); exact HO_16.out⟩, ⟨by apply_rules [BK696.out, blk_drewN, blk_drew, blk_alloc]⟩, ⟨by apply_rules [BK697.out, blk_drewN, blk_drew, blk_alloc]⟩, ⟨by apply_rules [HB.out, below_alloc, pw_below_drewN, below_drew1, below_set, GE696.out, GE697.out]⟩⟩
            ·rw [if_neg c77] at H
             have c77b0 : ((t720.length : Int) == (t699.length : Int)) = false := beq_eq_false_iff_ne.mpr c77
             have c77b1 : ((t720.length : Int) != (t699.length : Int)) = true := bne_iff_ne.mpr c77
             have c77b2 : (t720.length == t699.length) = false := by first | simpa using c77 | (simp at c77 ⊢; omega)
             exact absurd ((Option.some.inj H).trans hr) Bool.false_ne_true
           ·rw [if_neg c76] at H
            have c76b0 : decide (x20_3 < (t699.length : Int)) = false := decide_eq_false c76
            clear c76
            obtain rfl := Option.some.inj H
            go_wp2
            repeat (go_quiet (fail); try go_wp2)
            go_ret
            exact ⟨by first | rfl | simp [*], by apply_rules [HB.out, below_alloc, pw_below_drewN, below_drew1, below_set, GE696.out, GE697.out]⟩
        ·replace c75 := Bool.eq_false_iff.mpr c75
         subst c75
         have H1 : (if (t720.length : Int) = 0 then (some (t723 == 4)) else (some false)) = some r := by rw [if_neg (show ¬ (false = true) by decide)] at H; exact H
         clear H
         have H := H1
         clear H1
         by_cases c90 : (t720.length : Int) = 0
         ·rw [if_pos c90] at H
          have c90b0 : ((t720.length : Int) == 0) = true := beq_iff_eq.mpr c90
          have c90b1 : ((t720.length : Int) != 0) = false := bne_eq_false_iff_eq.mpr c90
          clear c90
          obtain rfl := Option.some.inj H
          obtain ⟨Ao91, co91, eo91⟩ := Kd.V_slice HO_16.out
          subst eo91
          go_wp2
          repeat (go_quiet (fail); try go_wp2)
          go_ret
          exact ⟨by first | rfl | simp [*], by apply_rules [HB.out, below_alloc, pw_below_drewN, below_drew1, below_set, GE696.out, GE697.out]⟩
         ·rw [if_neg c90] at H
          have c90b0 : ((t720.length : Int) == 0) = false := beq_eq_false_iff_ne.mpr c90
          have c90b1 : ((t720.length : Int) != 0) = true := bne_iff_ne.mpr c90
          have c90b2 : ¬ (t720 = []) := fun h_ => c90 (by rw [h_]; rfl)
          exact absurd ((Option.some.inj H).trans hr) Bool.false_ne_true
 ·replace c5 := Bool.eq_false_iff.mpr c5
  subst c5
  have H1 : (some false) = some r := by rw [if_neg (show ¬ (false = true) by decide)] at H; exact H
  clear H
  have H := H1
  clear H1
  exact absurd ((Option.some.inj H).trans hr) Bool.false_ne_true
end Go.Proofs.YtccebdpjdpjgnaaGreatDoor.P
