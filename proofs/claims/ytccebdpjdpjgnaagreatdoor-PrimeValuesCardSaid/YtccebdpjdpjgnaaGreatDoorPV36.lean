/-
words of the walks
-/
import Derived.Test.YtccebdpjdpjgnaaGreatDoorPV34
set_option linter.unusedVariables false
set_option linter.unusedSimpArgs false
namespace Go.Proofs.YtccebdpjdpjgnaaGreatDoor.P
open Go.RowKit Go.Proofs.YtccebdpjdpjgnaaGreatDoorW.PrintWords Go.Proofs.YtccebdpjdpjgnaaGreatDoorW.PrintLast Go.Proofs.YtccebdpjdpjgnaaGreatDoorW.PrintMore
attribute [local go_sem] max2_int min2_int max_two min_two max_three min_three max_four min_four
set_option linter.unusedVariables false
set_option linter.unusedSimpArgs false
mutual
def schismaref03_MulW.l0 : Nat → List Int → Int → Bool → List Int → Bool → List Int → Option (Bool × List Int)
 | 0, _, _, _, _, _, _ => none
 | k + 1, x5, x6, x1293000, x1293001, x1294000, x1294001 => if x6 < (x1293001.length : Int) then (schismaref03_MulW.l1 k x5 x6 0 0 x1293000 x1293001 x1294000 x1294001) else ((schismaref03_trim.f k (x1293000 != x1294000) x5).bind fun bt1298 => (some (bt1298.1, bt1298.2)))
def schismaref03_MulW.l1 : Nat → List Int → Int → Int → Int → Bool → List Int → Bool → List Int → Option (Bool × List Int)
 | 0, _, _, _, _, _, _, _, _ => none
 | k + 1, x5, x6, x7, x8, x1293000, x1293001, x1294000, x1294001 => if x8 < (x1294001.length : Int) then (schismaref03_MulW.j2 k x5 x6 x7 x8 true x1293000 x1293001 x1294000 x1294001) else (schismaref03_MulW.j2 k x5 x6 x7 x8 (decide (x7 > 0)) x1293000 x1293001 x1294000 x1294001)
def schismaref03_MulW.j2 : Nat → List Int → Int → Int → Int → Bool → Bool → List Int → Bool → List Int → Option (Bool × List Int)
 | 0, _, _, _, _, _, _, _, _, _ => none
 | k + 1, x5, x6, x7, x8, x33, x1293000, x1293001, x1294000, x1294001 => if x33 = true then (if 0 ≤ (wrap64 (x6 + x8)) then (if (wrap64 (x6 + x8)) < (x5.length : Int) then (if x8 < (x1294001.length : Int) then (if 0 ≤ x6 then (if x6 < (x1293001.length : Int) then (if 0 ≤ x8 then (schismaref03_MulW.l1 k (x5.set ((wrap64 (x6 + x8)) : Int).toNat (Int.tmod (wrap64 ((wrap64 (x7 + (rd x5 (wrap64 (x6 + x8))))) + (wrap64 ((rd x1293001 x6) * (rd x1294001 x8))))) 1000000000)) x6 (wrap64 (Int.tdiv (wrap64 ((wrap64 (x7 + (rd x5 (wrap64 (x6 + x8))))) + (wrap64 ((rd x1293001 x6) * (rd x1294001 x8))))) 1000000000)) (wrap64 (x8 + 1)) x1293000 x1293001 x1294000 x1294001) else (none)) else (none)) else (none)) else (schismaref03_MulW.l1 k (x5.set ((wrap64 (x6 + x8)) : Int).toNat (Int.tmod (wrap64 (x7 + (rd x5 (wrap64 (x6 + x8))))) 1000000000)) x6 (wrap64 (Int.tdiv (wrap64 (x7 + (rd x5 (wrap64 (x6 + x8))))) 1000000000)) (wrap64 (x8 + 1)) x1293000 x1293001 x1294000 x1294001)) else (none)) else (none)) else (schismaref03_MulW.l0 k x5 (wrap64 (x6 + 1)) x1293000 x1293001 x1294000 x1294001)
end
def schismaref03_MulW.f (k : Nat) (a0_0 : Bool) (l0_1 : List Int) (a1_0 : Bool) (l1_1 : List Int) : Option (Bool × List Int) := if 0 ≤ (wrap64 ((wrap64 ((l0_1.length : Int) + (l1_1.length : Int))) + 1)) then (if (wrap64 ((wrap64 ((l0_1.length : Int) + (l1_1.length : Int))) + 1) : Int).toNat ≤ 35184372088832 then (schismaref03_MulW.l0 k (List.replicate (wrap64 ((wrap64 ((l0_1.length : Int) + (l1_1.length : Int))) + 1) : Int).toNat 0) 0 a0_0 l0_1 a1_0 l1_1) else (none)) else (none)
set_option maxHeartbeats 8000000 in
set_option maxRecDepth 100000 in
theorem schismaref03_MulW.calls (k : Nat) (a0_0 : Bool) (A0_1 : Option Addr) (c0_1 : Nat) (l0_1 : List Int) (a1_0 : Bool) (A1_1 : Option Addr) (c1_1 : Nat) (l1_1 : List Int) (r1 : Bool) (r2 : List Int) (w : World) (hr0_1 : Kd.C (Kd.int .i64) w A0_1 l0_1.length l0_1) (hc0_1 : l0_1.length ≤ c0_1) (hr1_1 : Kd.C (Kd.int .i64) w A1_1 l1_1.length l1_1) (hc1_1 : l1_1.length ≤ c1_1) (h : schismaref03_MulW.f k a0_0 l0_1 a1_0 l1_1 = some (r1, r2)) :
  Calls Tryz.prog 136 #[.agg #[.bool a0_0, .slice A0_1 l0_1.length c0_1], .agg #[.bool a1_0, .slice A1_1 l1_1.length c1_1]] w fun e w' => ∃ v1_ : Value, e = .returned (.agg #[.bool r1, v1_]) ∧ Kd.V (Kd.int .i64) 3 w' w.heap.size (fun k_ => (w.heap.size ≤ k_)) v1_ r2 ∧ Below w.heap.size w w' := by
 have hu101 := Tryz.underlying101
 have HR0_1 := Aside0.mk hr0_1
 have HC0_1 := Aside0.mk hc0_1
 clear hr0_1 hc0_1
 have HR1_1 := Aside0.mk hr1_1
 have HC1_1 := Aside0.mk hc1_1
 clear hr1_1 hc1_1
 have HB := Aside0.mk (Below.refl w.heap.size w)
 have H : (if 0 ≤ (wrap64 ((wrap64 ((l0_1.length : Int) + (l1_1.length : Int))) + 1)) then (if (wrap64 ((wrap64 ((l0_1.length : Int) + (l1_1.length : Int))) + 1) : Int).toNat ≤ 35184372088832 then (schismaref03_MulW.l0 k (List.replicate (wrap64 ((wrap64 ((l0_1.length : Int) + (l1_1.length : Int))) + 1) : Int).toNat 0) 0 a0_0 l0_1 a1_0 l1_1) else (none)) else (none)) = some (r1, r2) := h
 clear h
 obtain ⟨ji3, hji3⟩ : ∃ j_ : Int, (wrap64 ((wrap64 ((l0_1.length : Int) + (l1_1.length : Int))) + 1)) = j_ := ⟨_, rfl⟩
 replace H : (if 0 ≤ (ji3) then (if (ji3 : Int).toNat ≤ 35184372088832 then (schismaref03_MulW.l0 k (List.replicate (ji3 : Int).toNat 0) 0 a0_0 l0_1 a1_0 l1_1) else (none)) else (none)) = some (r1, r2) := by first | (rw [hji3] at H; exact H) | (simp only [hji3] at H ⊢; exact H)
 have hji3w : (IntKind.i64.wrap ((wrap64 ((l0_1.length : Int) + (l1_1.length : Int))) + 1)) = ji3 := (i64_w _).trans hji3
 by_cases c4 : 0 ≤ (ji3)
 case neg => rw [if_neg c4] at H; exact absurd H (by simp)
 rw [if_pos c4] at H
 have c4b0 := eq_true c4
 have c4b1 : decide (0 ≤ (ji3)) = true := decide_eq_true c4
 clear c4
 by_cases c5 : (ji3 : Int).toNat ≤ 35184372088832
 case neg => rw [if_neg c5] at H; exact absurd H (by simp)
 rw [if_pos c5] at H
 have c5b0 := eq_true c5
 have c5b1 : decide ((ji3 : Int).toNat ≤ 35184372088832) = true := decide_eq_true c5
 clear c5
 obtain ⟨y1295, hy1295⟩ : ∃ y_ : List Int, y_ = (List.replicate (ji3 : Int).toNat 0) := ⟨_, rfl⟩
 replace H : (schismaref03_MulW.l0 k y1295 0 a0_0 l0_1 a1_0 l1_1) = some (r1, r2) := by first | (rw [hy1295]; with_reducible exact H) | (have H2_ := (Option.bind_some _ _).symm.trans H; rw [hy1295]; with_reducible exact H2_) | (have H2_ := (Option.bind_some _ _).symm.trans H; with_reducible exact H2_) | with_reducible exact H | (rw [hy1295]; exact H) | exact H
 have Ny1295 := Aside0.mk hy1295
 clear hy1295
 have H' := Aside0.mk H
 clear H
 go_enter Tryz.func136, Tryz.ntmps136
 go_wp2_with (first | ((with_reducible refine gate_dst (N := 2) rfl ?_); refine box_event ?hg (N := 2) ?hd (cs := #[.bool a0_0, .slice A0_1 l0_1.length c0_1]) (t := 101) ?hr ?_; (case hd => rfl); (case hg => rfl); (case hr => go_simp; try rfl); intro gb1292 hg w6 hbox hb; have n0_ := Aside0.mk (below_step (by apply_rules [HB.out, below_alloc, pw_below_drewN, below_drew1]) hb); have n1_ := Aside0.mk (hbox); have n2_ := Aside0.mk ((by rw [hg]; exact (below_size (by apply_rules [HB.out, below_alloc, pw_below_drewN, below_drew1])) : w.heap.size ≤ gb1292)); have n3_ := Aside0.mk ((by rw [hg]; exact (below_size (by apply_rules [HB.out, below_alloc, pw_below_drewN, below_drew1])) : w.heap.size ≤ gb1292)); clear HB; have HB := n0_; have BK1292 := n1_; have GW1292 := n2_; have GE1292 := n3_; clear n0_ n1_ n2_ n3_; clear hb hbox hg) | ((with_reducible refine gate_dst (N := 3) rfl ?_); refine box_event ?hg (N := 3) ?hd (cs := #[.bool a1_0, .slice A1_1 l1_1.length c1_1]) (t := 101) ?hr ?_; (case hd => rfl); (case hg => rfl); (case hr => go_simp; try rfl); intro gb1293 hg w7 hbox hb; have n0_ := Aside0.mk (blk_below (g := gb1292) (o := .cells #[.bool a0_0, .slice A0_1 l0_1.length c0_1] 101 (0, 0)) (by apply_rules [BK1292.out, blk_drewN, blk_drew, blk_alloc]) hb); have n1_ := Aside0.mk (below_step (by apply_rules [HB.out, below_alloc, pw_below_drewN, below_drew1, below_set, GE1292.out]) hb); have n2_ := Aside0.mk (hbox); have n3_ := Aside0.mk ((by rw [hg]; exact (below_size (by apply_rules [HB.out, below_alloc, pw_below_drewN, below_drew1, below_set, GE1292.out])) : w.heap.size ≤ gb1293)); have n4_ := Aside0.mk ((by rw [hg]; exact (below_size (by apply_rules [HB.out, below_alloc, pw_below_drewN, below_drew1, below_set, GE1292.out])) : w.heap.size ≤ gb1293)); have n5_ := Aside0.mk ((by rw [hg]; exact Nat.ne_of_lt (blk_lt (g := gb1292) (o := .cells #[.bool a0_0, .slice A0_1 l0_1.length c0_1] 101 (0, 0)) (by apply_rules [BK1292.out, blk_drewN, blk_drew, blk_alloc])) : gb1292 ≠ gb1293)); have n6_ := Aside0.mk ((by rw [hg]; exact Nat.ne_of_gt (blk_lt (g := gb1292) (o := .cells #[.bool a0_0, .slice A0_1 l0_1.length c0_1] 101 (0, 0)) (by apply_rules [BK1292.out, blk_drewN, blk_drew, blk_alloc])) : gb1293 ≠ gb1292)); clear BK1292; clear HB; have BK1292 := n0_; have HB := n1_; have BK1293 := n2_; have GW1293 := n3_; have GE1293 := n4_; have NB1292_1293 := n5_; have NB1293_1292 := n6_; clear n0_ n1_ n2_ n3_ n4_ n5_ n6_; clear hb hbox hg) | ((with_reducible refine gate_dst (N := 4) rfl ?_); refine box_event ?hg (N := 4) ?hd (cs := #[.bool false, .slice none 0 0]) (t := 101) ?hr ?_; (case hd => rfl); (case hg => rfl); (case hr => go_simp; try rfl); intro gb1294 hg w8 hbox hb; have n0_ := Aside0.mk (blk_below (g := gb1292) (o := .cells #[.bool a0_0, .slice A0_1 l0_1.length c0_1] 101 (0, 0)) (by apply_rules [BK1292.out, blk_drewN, blk_drew, blk_alloc]) hb); have n1_ := Aside0.mk (blk_below (g := gb1293) (o := .cells #[.bool a1_0, .slice A1_1 l1_1.length c1_1] 101 (0, 0)) (by apply_rules [BK1293.out, blk_drewN, blk_drew, blk_alloc]) hb); have n2_ := Aside0.mk (below_step (by apply_rules [HB.out, below_alloc, pw_below_drewN, below_drew1, below_set, GE1292.out, GE1293.out]) hb); have n3_ := Aside0.mk (hbox); have n4_ := Aside0.mk ((by rw [hg]; exact (below_size (by apply_rules [HB.out, below_alloc, pw_below_drewN, below_drew1, below_set, GE1292.out, GE1293.out])) : w.heap.size ≤ gb1294)); have n5_ := Aside0.mk ((by rw [hg]; exact (below_size (by apply_rules [HB.out, below_alloc, pw_below_drewN, below_drew1, below_set, GE1292.out, GE1293.out])) : w.heap.size ≤ gb1294)); have n6_ := Aside0.mk ((by rw [hg]; exact Nat.ne_of_lt (blk_lt (g := gb1292) (o := .cells #[.bool a0_0, .slice A0_1 l0_1.length c0_1] 101 (0, 0)) (by apply_rules [BK1292.out, blk_drewN, blk_drew, blk_alloc])) : gb1292 ≠ gb1294)); have n7_ := Aside0.mk ((by rw [hg]; exact Nat.ne_of_gt (blk_lt (g := gb1292) (o := .cells #[.bool a0_0, .slice A0_1 l0_1.length c0_1] 101 (0, 0)) (by apply_rules [BK1292.out, blk_drewN, blk_drew, blk_alloc])) : gb1294 ≠ gb1292)); have n8_ := Aside0.mk ((by rw [hg]; exact Nat.ne_of_lt (blk_lt (g := gb1293) (o := .cells #[.bool a1_0, .slice A1_1 l1_1.length c1_1] 101 (0, 0)) (by apply_rules [BK1293.out, blk_drewN, blk_drew, blk_alloc])) : gb1293 ≠ gb1294)); have n9_ := Aside0.mk ((by rw [hg]; exact Nat.ne_of_gt (blk_lt (g := gb1293) (o := .cells #[.bool a1_0, .slice A1_1 l1_1.length c1_1] 101 (0, 0)) (by apply_rules [BK1293.out, blk_drewN, blk_drew, blk_alloc])) : gb1294 ≠ gb1293)); clear BK1292; clear BK1293; clear HB; have BK1292 := n0_; have BK1293 := n1_; have HB := n2_; have BK1294 := n3_; have GW1294 := n4_; have GE1294 := n5_; have NB1292_1294 := n6_; have NB1294_1292 := n7_; have NB1293_1294 := n8_; have NB1294_1293 := n9_; clear n0_ n1_ n2_ n3_ n4_ n5_ n6_ n7_ n8_ n9_; clear hb hbox hg; have hnb9 := NB1292_1293.out; have hnc9 := NB1293_1292.out; have hnb10 := NB1292_1294.out; have hnc10 := NB1294_1292.out; have hcz11_0 : w8.cell? ⟨gb1292, 0, none⟩ = some (.bool a0_0) := (blk_cell BK1292.out 0).trans rfl; have hcz11_1 : w8.cell? ⟨gb1292, 1, none⟩ = some (.slice A0_1 l0_1.length c0_1) := (blk_cell BK1292.out 1).trans rfl; have hfz11_0 := blk_frozen BK1292.out 0; have hfz11_1 := blk_frozen BK1292.out 1; have hnb12 := NB1293_1294.out; have hnc12 := NB1294_1293.out; have hcz13_0 : w8.cell? ⟨gb1293, 0, none⟩ = some (.bool a1_0) := (blk_cell BK1293.out 0).trans rfl; have hcz13_1 : w8.cell? ⟨gb1293, 1, none⟩ = some (.slice A1_1 l1_1.length c1_1) := (blk_cell BK1293.out 1).trans rfl; have hfz13_0 := blk_frozen BK1293.out 0; have hfz13_1 := blk_frozen BK1293.out 1) | ((with_reducible refine gate_dst (N := 17) rfl ?_); refine Kd.R_make (Kd.int .i64) _ 3 rfl (N := 17) rfl 22 _ _ rfl ji3 rfl rfl Tryz.underlying22 (.int .i64 0) 8 info3 rfl (by decide) (by omega) 0 (ok := fun _ => True) (okp := fun _ => True) rfl (fun _ hk => hk) trivial (of_decide_eq_true (by assumption)) (Nat.le_trans (Nat.mul_le_mul_right _ (of_decide_eq_true (by assumption) : ji3.toNat ≤ 35184372088832)) (by omega)) (Below.refl _ _) (Nat.le_refl _) ?_; intro v1296 w14 ho15 hb hg_ hnew_; clear hg_ hnew_; (first | rw [← Ny1295.out] at ho15 | (simp only [Int.reduceToNat] at ho15; rw [← Ny1295.out] at ho15)); have HO1297 := Aside0.mk (Kd.R_lower (Kd.R_newM (M := fun k_ => (w.heap.size ≤ k_)) ho15 (below_size (by apply_rules [HB.out, below_alloc, pw_below_drewN, below_drew1, below_set, GE1292.out, GE1293.out, GE1294.out])) (fun k_ h_ => h_)) (below_size (by apply_rules [HB.out, below_alloc, pw_below_drewN, below_drew1, below_set, GE1292.out, GE1293.out, GE1294.out]))); replace BK1292 := Aside0.mk (blk_below (g := gb1292) (o := .cells #[.bool a0_0, .slice A0_1 l0_1.length c0_1] 101 (0, 0)) (by apply_rules [BK1292.out, blk_drewN, blk_drew, blk_alloc]) hb); replace BK1293 := Aside0.mk (blk_below (g := gb1293) (o := .cells #[.bool a1_0, .slice A1_1 l1_1.length c1_1] 101 (0, 0)) (by apply_rules [BK1293.out, blk_drewN, blk_drew, blk_alloc]) hb); replace BK1294 := Aside0.mk (blk_below (g := gb1294) (o := .cells #[.bool false, .slice none 0 0] 101 (0, 0)) (by apply_rules [BK1294.out, blk_drewN, blk_drew, blk_alloc]) hb); replace HB := Aside0.mk (below_step (by apply_rules [HB.out, below_alloc, pw_below_drewN, below_drew1, below_set, GE1292.out, GE1293.out, GE1294.out]) hb); clear hb ho15))
 go_loopg [6] k (fun kq v6 w' => ∃ (x5_1 : List Int) (x6_1 : Int), v6 = .int .i64 x6_1 ∧ Aside0 (schismaref03_MulW.l0 kq x5_1 x6_1 a0_0 l0_1 a1_0 l1_1 = some (r1, r2)) ∧ Aside0 (kq ≤ k) ∧ Aside0 (Kd.R (Kd.int .i64) 3 w' w.heap.size (fun k_ => (w.heap.size ≤ k_)) v1296 x5_1) ∧ Aside0 (w'.heap[gb1292]? = some (.cells #[.bool a0_0, (.slice A0_1 l0_1.length c0_1)] 101 (0, 0))) ∧ Aside0 (w'.heap[gb1293]? = some (.cells #[.bool a1_0, (.slice A1_1 l1_1.length c1_1)] 101 (0, 0))) ∧ Aside0 (w'.heap[gb1294]? = some (.cells #[.bool false, (.slice none 0 0)] 101 (0, 0))) ∧ Aside0 (Below w.heap.size w w'))
 case atStart => exact ⟨(y1295), (0), (by first | rfl | (simp; done) | (simp [*]; done)), H', ⟨Nat.le_refl _⟩, ⟨by (with_reducible repeat (first | apply Kd.R_alloc | apply Kd.R_drewN | apply Kd.R_drew)); exact Kd.R_mono HO1297.out (fun _ hk => hk.1)⟩, ⟨by apply_rules [BK1292.out, blk_drewN, blk_drew, blk_alloc]⟩, ⟨by apply_rules [BK1293.out, blk_drewN, blk_drew, blk_alloc]⟩, ⟨by apply_rules [BK1294.out, blk_drewN, blk_drew, blk_alloc]⟩, ⟨by apply_rules [HB.out, below_alloc, pw_below_drewN, below_drew1, below_set, GE1292.out, GE1293.out, GE1294.out]⟩⟩
 case round =>
  clear H'
  obtain ⟨x5_1, x6_1, rfl, HA, HK1, HO_5, BK1292, BK1293, BK1294, HB⟩ := hrel
  cases gk with
  | zero => exact absurd HA.out (by simp [schismaref03_MulW.l0])
  | succ k1 =>
   have H := HA.out
   clear HA
   simp only [schismaref03_MulW.l0] at H
   by_cases c16 : x6_1 < (l0_1.length : Int)
   ·rw [if_pos c16] at H
    have c16b0 : decide (x6_1 < (l0_1.length : Int)) = true := decide_eq_true c16
    clear c16
    have H' := Aside0.mk H
    clear H
    have hnb17 := NB1292_1293.out
    have hnc17 := NB1293_1292.out
    have hnb18 := NB1292_1294.out
    have hnc18 := NB1294_1292.out
    have hcz19_0 : wr.cell? ⟨gb1292, 0, none⟩ = some (.bool a0_0) := (blk_cell BK1292.out 0).trans rfl
    have hcz19_1 : wr.cell? ⟨gb1292, 1, none⟩ = some (.slice A0_1 l0_1.length c0_1) := (blk_cell BK1292.out 1).trans rfl
    have hfz19_0 := blk_frozen BK1292.out 0
    have hfz19_1 := blk_frozen BK1292.out 1
    go_wp2
    go_loopg [7, 8] k1 (fun kq v7 v8 w' => ∃ (x5_2 : List Int) (x7_2 : Int) (x8_2 : Int), v7 = .int .i64 x7_2 ∧ v8 = .int .i64 x8_2 ∧ Aside0 (schismaref03_MulW.l1 kq x5_2 x6_1 x7_2 x8_2 a0_0 l0_1 a1_0 l1_1 = some (r1, r2)) ∧ Aside0 (kq ≤ k1) ∧ Aside0 (Kd.R (Kd.int .i64) 3 w' w.heap.size (fun k_ => (w.heap.size ≤ k_)) v1296 x5_2) ∧ Aside0 (w'.heap[gb1292]? = some (.cells #[.bool a0_0, (.slice A0_1 l0_1.length c0_1)] 101 (0, 0))) ∧ Aside0 (w'.heap[gb1293]? = some (.cells #[.bool a1_0, (.slice A1_1 l1_1.length c1_1)] 101 (0, 0))) ∧ Aside0 (w'.heap[gb1294]? = some (.cells #[.bool false, (.slice none 0 0)] 101 (0, 0))) ∧ Aside0 (Below w.heap.size w w'))
    case atStart => exact ⟨(x5_1), (0), (0), (by first | rfl | (simp; done) | (simp [*]; done)), (by first | rfl | (simp; done) | (simp [*]; done)), H', ⟨Nat.le_refl _⟩, ⟨by apply_rules [HO_5.out, Kd.R_alloc, Kd.R_drewN, Kd.R_drew]⟩, ⟨by apply_rules [BK1292.out, blk_drewN, blk_drew, blk_alloc]⟩, ⟨by apply_rules [BK1293.out, blk_drewN, blk_drew, blk_alloc]⟩, ⟨by apply_rules [BK1294.out, blk_drewN, blk_drew, blk_alloc]⟩, ⟨by apply_rules [HB.out, below_alloc, pw_below_drewN, below_drew1, below_set, GE1292.out, GE1293.out, GE1294.out]⟩⟩
    case round =>
     clear H'
     obtain ⟨x5_2, x7_2, x8_2, rfl, rfl, HA, HK2, HO_5, BK1292, BK1293, BK1294, HB⟩ := hrel
     cases gk with
     | zero => exact absurd HA.out (by simp [schismaref03_MulW.l1])
     | succ k2 =>
      have H := HA.out
      clear HA
      simp only [schismaref03_MulW.l1] at H
      have HC20 := Aside0.mk H
      clear H
      go_upto_region 7 with (fail)
      go_cut [33] (fun v33 wc => ∃ (kq : Nat) (x33_19 : Bool), v33 = .bool x33_19 ∧ Aside0 (schismaref03_MulW.j2 kq x5_2 x6_1 x7_2 x8_2 x33_19 a0_0 l0_1 a1_0 l1_1 = some (r1, r2)) ∧ Aside0 (kq ≤ k2) ∧ Aside0 (Kd.R (Kd.int .i64) 3 wc w.heap.size (fun k_ => (w.heap.size ≤ k_)) v1296 x5_2) ∧ Aside0 (wc.heap[gb1292]? = some (.cells #[.bool a0_0, (.slice A0_1 l0_1.length c0_1)] 101 (0, 0))) ∧ Aside0 (wc.heap[gb1293]? = some (.cells #[.bool a1_0, (.slice A1_1 l1_1.length c1_1)] 101 (0, 0))) ∧ Aside0 (wc.heap[gb1294]? = some (.cells #[.bool false, (.slice none 0 0)] 101 (0, 0))) ∧ Aside0 (Below w.heap.size w wc))
      case first =>
       have H := HC20.out
       clear HC20
       by_cases c21 : x8_2 < (l1_1.length : Int)
       ·rw [if_pos c21] at H
        have c21b0 : decide (x8_2 < (l1_1.length : Int)) = true := decide_eq_true c21
        clear c21
        (first | rw [c21b0] | (simp only [i64_w, i32_w]; rw [c21b0]) | skip)
        have H' := Aside0.mk H
        clear H
        have hnb22 := NB1293_1292.out
        have hnc22 := NB1292_1293.out
        have hnb23 := NB1293_1294.out
        have hnc23 := NB1294_1293.out
        have hcz24_0 : wr.cell? ⟨gb1293, 0, none⟩ = some (.bool a1_0) := (blk_cell BK1293.out 0).trans rfl
        have hcz24_1 : wr.cell? ⟨gb1293, 1, none⟩ = some (.slice A1_1 l1_1.length c1_1) := (blk_cell BK1293.out 1).trans rfl
        have hfz24_0 := blk_frozen BK1293.out 0
        have hfz24_1 := blk_frozen BK1293.out 1
        go_wp2
        go_meet
        case rel => exact ⟨_, (true), (by first | rfl | (simp; done) | (simp [*]; done)), H', ⟨by have := HK1.out; have := HK2.out; first | omega | exact Nat.le_refl _⟩, ⟨by apply_rules [HO_5.out, Kd.R_alloc, Kd.R_drewN, Kd.R_drew]⟩, ⟨by apply_rules [BK1292.out, blk_drewN, blk_drew, blk_alloc]⟩, ⟨by apply_rules [BK1293.out, blk_drewN, blk_drew, blk_alloc]⟩, ⟨by apply_rules [BK1294.out, blk_drewN, blk_drew, blk_alloc]⟩, ⟨by apply_rules [HB.out, below_alloc, pw_below_drewN, below_drew1, below_set, GE1292.out, GE1293.out, GE1294.out]⟩⟩
       ·rw [if_neg c21] at H
        have c21b0 : decide (x8_2 < (l1_1.length : Int)) = false := decide_eq_false c21
        clear c21
        (first | rw [c21b0] | (simp only [i64_w, i32_w]; rw [c21b0]) | skip)
        have H' := Aside0.mk H
        clear H
        have hnb25 := NB1293_1292.out
        have hnc25 := NB1292_1293.out
        have hnb26 := NB1293_1294.out
        have hnc26 := NB1294_1293.out
        have hcz27_0 : wr.cell? ⟨gb1293, 0, none⟩ = some (.bool a1_0) := (blk_cell BK1293.out 0).trans rfl
        have hcz27_1 : wr.cell? ⟨gb1293, 1, none⟩ = some (.slice A1_1 l1_1.length c1_1) := (blk_cell BK1293.out 1).trans rfl
        have hfz27_0 := blk_frozen BK1293.out 0
        have hfz27_1 := blk_frozen BK1293.out 1
        go_wp2
        go_meet
        case rel => exact ⟨_, (decide (x7_2 > 0)), (by first | rfl | (simp; done) | (simp [*]; done)), H', ⟨by have := HK1.out; have := HK2.out; first | omega | exact Nat.le_refl _⟩, ⟨by apply_rules [HO_5.out, Kd.R_alloc, Kd.R_drewN, Kd.R_drew]⟩, ⟨by apply_rules [BK1292.out, blk_drewN, blk_drew, blk_alloc]⟩, ⟨by apply_rules [BK1293.out, blk_drewN, blk_drew, blk_alloc]⟩, ⟨by apply_rules [BK1294.out, blk_drewN, blk_drew, blk_alloc]⟩, ⟨by apply_rules [HB.out, below_alloc, pw_below_drewN, below_drew1, below_set, GE1292.out, GE1293.out, GE1294.out]⟩⟩
      case rest =>
       clear HC20
       obtain ⟨kq, x33_19, rfl, HA, HJ19, HO_5, BK1292, BK1293, BK1294, HB⟩ := hcut
       cases kq with
       | zero => exact absurd HA.out (by simp [schismaref03_MulW.j2])
       | succ kj19 =>
        have H := HA.out
        clear HA
        simp only [schismaref03_MulW.j2] at H
        by_cases c28 : x33_19 = true
        ·subst c28
         have H1 : (if 0 ≤ (wrap64 (x6_1 + x8_2)) then (if (wrap64 (x6_1 + x8_2)) < (x5_2.length : Int) then (if x8_2 < (l1_1.length : Int) then (if 0 ≤ x6_1 then (if x6_1 < (l0_1.length : Int) then (if 0 ≤ x8_2 then (schismaref03_MulW.l1 kj19 (x5_2.set ((wrap64 (x6_1 + x8_2)) : Int).toNat (Int.tmod (wrap64 ((wrap64 (x7_2 + (rd x5_2 (wrap64 (x6_1 + x8_2))))) + (wrap64 ((rd l0_1 x6_1) * (rd l1_1 x8_2))))) 1000000000)) x6_1 (wrap64 (Int.tdiv (wrap64 ((wrap64 (x7_2 + (rd x5_2 (wrap64 (x6_1 + x8_2))))) + (wrap64 ((rd l0_1 x6_1) * (rd l1_1 x8_2))))) 1000000000)) (wrap64 (x8_2 + 1)) a0_0 l0_1 a1_0 l1_1) else (none)) else (none)) else (none)) else (schismaref03_MulW.l1 kj19 (x5_2.set ((wrap64 (x6_1 + x8_2)) : Int).toNat (Int.tmod (wrap64 (x7_2 + (rd x5_2 (wrap64 (x6_1 + x8_2))))) 1000000000)) x6_1 (wrap64 (Int.tdiv (wrap64 (x7_2 + (rd x5_2 (wrap64 (x6_1 + x8_2))))) 1000000000)) (wrap64 (x8_2 + 1)) a0_0 l0_1 a1_0 l1_1)) else (none)) else (none)) = some (r1, r2) := by rw [if_pos rfl] at H; exact H
         clear H
         have H := H1
         clear H1
         obtain ⟨ji29, hji29⟩ : ∃ j_ : Int, (wrap64 (x6_1 + x8_2)) = j_ := ⟨_, rfl⟩
         replace H : (if 0 ≤ (ji29) then (if (ji29) < (x5_2.length : Int) then (if x8_2 < (l1_1.length : Int) then (if 0 ≤ x6_1 then (if x6_1 < (l0_1.length : Int) then (if 0 ≤ x8_2 then (schismaref03_MulW.l1 kj19 (x5_2.set ((ji29) : Int).toNat (Int.tmod (wrap64 ((wrap64 (x7_2 + (rd x5_2 (ji29)))) + (wrap64 ((rd l0_1 x6_1) * (rd l1_1 x8_2))))) 1000000000)) x6_1 (wrap64 (Int.tdiv (wrap64 ((wrap64 (x7_2 + (rd x5_2 (ji29)))) + (wrap64 ((rd l0_1 x6_1) * (rd l1_1 x8_2))))) 1000000000)) (wrap64 (x8_2 + 1)) a0_0 l0_1 a1_0 l1_1) else (none)) else (none)) else (none)) else (schismaref03_MulW.l1 kj19 (x5_2.set ((ji29) : Int).toNat (Int.tmod (wrap64 (x7_2 + (rd x5_2 (ji29)))) 1000000000)) x6_1 (wrap64 (Int.tdiv (wrap64 (x7_2 + (rd x5_2 (ji29)))) 1000000000)) (wrap64 (x8_2 + 1)) a0_0 l0_1 a1_0 l1_1)) else (none)) else (none)) = some (r1, r2) := by first | (rw [hji29] at H; exact H) | (simp only [hji29] at H ⊢; exact H)
         have hji29w : (IntKind.i64.wrap (x6_1 + x8_2)) = ji29 := (i64_w _).trans hji29
         by_cases c30 : 0 ≤ (ji29)
         case neg => rw [if_neg c30] at H; exact absurd H (by simp)
         rw [if_pos c30] at H
         have c30b0 : decide (0 ≤ (ji29)) = true := decide_eq_true c30
         clear c30
         by_cases c31 : (ji29) < (x5_2.length : Int)
         case neg => rw [if_neg c31] at H; exact absurd H (by simp)
         rw [if_pos c31] at H
         have c31b0 : decide ((ji29) < (x5_2.length : Int)) = true := decide_eq_true c31
         clear c31
         by_cases c32 : x8_2 < (l1_1.length : Int)
         ·rw [if_pos c32] at H
          have c32b0 : decide (x8_2 < (l1_1.length : Int)) = true := decide_eq_true c32
          clear c32
          by_cases c33 : 0 ≤ x6_1
          case neg => rw [if_neg c33] at H; exact absurd H (by simp)
          rw [if_pos c33] at H
          have c33b0 : decide (0 ≤ x6_1) = true := decide_eq_true c33
          clear c33
          by_cases c34 : x6_1 < (l0_1.length : Int)
          case neg => rw [if_neg c34] at H; exact absurd H (by simp)
          rw [if_pos c34] at H
          have c34b0 : decide (x6_1 < (l0_1.length : Int)) = true := decide_eq_true c34
          clear c34
          by_cases c35 : 0 ≤ x8_2
          case neg => rw [if_neg c35] at H; exact absurd H (by simp)
          rw [if_pos c35] at H
          have c35b0 : decide (0 ≤ x8_2) = true := decide_eq_true c35
          clear c35
          obtain ⟨y1305, hy1305⟩ : ∃ y_ : List Int, y_ = (x5_2.set ((ji29) : Int).toNat (Int.tmod (wrap64 ((wrap64 (x7_2 + (rd x5_2 (ji29)))) + (wrap64 ((rd l0_1 x6_1) * (rd l1_1 x8_2))))) 1000000000)) := ⟨_, rfl⟩
          replace H : (schismaref03_MulW.l1 kj19 y1305 x6_1 (wrap64 (Int.tdiv (wrap64 ((wrap64 (x7_2 + (rd x5_2 (ji29)))) + (wrap64 ((rd l0_1 x6_1) * (rd l1_1 x8_2))))) 1000000000)) (wrap64 (x8_2 + 1)) a0_0 l0_1 a1_0 l1_1) = some (r1, r2) := by first | (rw [hy1305]; with_reducible exact H) | (have H2_ := (Option.bind_some _ _).symm.trans H; rw [hy1305]; with_reducible exact H2_) | (have H2_ := (Option.bind_some _ _).symm.trans H; with_reducible exact H2_) | with_reducible exact H | (rw [hy1305]; exact H) | exact H
          have Ny1305 := Aside0.mk hy1305
          clear hy1305
          have H' := Aside0.mk H
          clear H
          obtain ⟨Ao37, co37, eo37⟩ := Kd.R_slice HO_5.out
          subst eo37
          have p1302 : 0 ≤ ((ji29) : Int) := of_decide_eq_true (by assumption)
          have q1302 : (ji29) < (x5_2.length : Int) := of_decide_eq_true (by assumption)
          obtain ⟨ad1302, e1302, hx1302_0⟩ := Kd.at_int (Kd.R_reads' HO_5.out).2.2 (ji29) p1302 q1302
          cases e1302
          replace p1302 := eq_true p1302
          replace q1302 := eq_true q1302
          have hnb38 := NB1293_1292.out
          have hnc38 := NB1292_1293.out
          have hnb39 := NB1293_1294.out
          have hnc39 := NB1294_1293.out
          have hcz40_0 : wc.cell? ⟨gb1293, 0, none⟩ = some (.bool a1_0) := (blk_cell BK1293.out 0).trans rfl
          have hcz40_1 : wc.cell? ⟨gb1293, 1, none⟩ = some (.slice A1_1 l1_1.length c1_1) := (blk_cell BK1293.out 1).trans rfl
          have hfz40_0 := blk_frozen BK1293.out 0
          have hfz40_1 := blk_frozen BK1293.out 1
          have hnb41 := NB1292_1294.out
          have hnc41 := NB1294_1292.out
          have hcz42_0 : wc.cell? ⟨gb1292, 0, none⟩ = some (.bool a0_0) := (blk_cell BK1292.out 0).trans rfl
          have hcz42_1 : wc.cell? ⟨gb1292, 1, none⟩ = some (.slice A0_1 l0_1.length c0_1) := (blk_cell BK1292.out 1).trans rfl
          have hfz42_0 := blk_frozen BK1292.out 0
          have hfz42_1 := blk_frozen BK1292.out 1
          have p1303 : 0 ≤ (x6_1 : Int) := of_decide_eq_true (by assumption)
          have q1303 : x6_1 < (l0_1.length : Int) := of_decide_eq_true (by assumption)
          obtain ⟨ad1303, e1303, hx1303_0⟩ := Kd.at_int HR0_1.out x6_1 p1303 q1303
          cases e1303
          replace hx1303_0 := (HB.out.cell (World.block_lt_of_cell? w _ hx1303_0)).trans hx1303_0
          replace p1303 := eq_true p1303
          replace q1303 := eq_true q1303
          have p1304 : 0 ≤ (x8_2 : Int) := of_decide_eq_true (by assumption)
          have q1304 : x8_2 < (l1_1.length : Int) := of_decide_eq_true (by assumption)
          obtain ⟨ad1304, e1304, hx1304_0⟩ := Kd.at_int HR1_1.out x8_2 p1304 q1304
          cases e1304
          replace hx1304_0 := (HB.out.cell (World.block_lt_of_cell? w _ hx1304_0)).trans hx1304_0
          replace p1304 := eq_true p1304
          replace q1304 := eq_true q1304
          have p36 : 0 ≤ ((ji29) : Int) := of_decide_eq_true (by assumption)
          have q36 : ((ji29) : Int) < ((x5_2.length : Int) : Int) := of_decide_eq_true (by assumption)
          obtain ⟨go36, co36, eo36, gb36, gl36, cl36, HG36⟩ := Kd.R_form HO_5.out (by omega)
          (first | cases eo36 | (injection eo36 with ea_ en_ ec_; (first | subst ea_ | (injection ea_ with ea_; subst ea_)); subst ec_; clear en_))
          have GB36 := Aside0.mk gb36
          have GG36 := Aside0.mk HG36
          clear gb36 gl36 HG36
          (first | simp only [add_plain] at hx1302_0 | skip)
          obtain ⟨hx36_0, hf36_0⟩ := Kd.R_celln 0 HO_5.out ((ji29) : Int) p36 q36
          replace p36 := eq_true p36
          replace q36 := eq_true q36
          have HP43 := Kd.R_putg HO_5.out ((ji29) : Int) (Int.tmod (wrap64 ((wrap64 (x7_2 + (rd x5_2 (ji29)))) + (wrap64 ((rd l0_1 x6_1) * (rd l1_1 x8_2))))) 1000000000)
          go_wp2_with (first | ((with_reducible refine gate_store (t := 3) (p := 68) rfl ?_); (try (rw [drewN_self wc]; generalize hq_ : World.drewN wc _ = wc; replace HO_5 := Aside0.mk (Kd.R_at hq_ HO_5.out); replace BK1292 := Aside0.mk (blk_at hq_ BK1292.out); replace BK1293 := Aside0.mk (blk_at hq_ BK1293.out); replace BK1294 := Aside0.mk (blk_at hq_ BK1294.out); replace HB := Aside0.mk (below_at hq_ HB.out); clear hq_; (try (obtain ⟨hxa_, hfa_⟩ := Kd.R_celln 0 HO_5.out ((ji29) : Int) (of_eq_true p36) (of_eq_true q36))); (try (have HP43 := Kd.R_putg HO_5.out ((ji29) : Int) (Int.tmod (wrap64 ((wrap64 (x7_2 + (rd x5_2 (ji29)))) + (wrap64 ((rd l0_1 x6_1) * (rd l1_1 x8_2))))) 1000000000))))); refine store_event (t := 3) (p := 68) (v := ?vo_w44) (w1 := (wc.setCell ⟨go36, ((ji29) : Int).toNat, none⟩ (.int .i64 (Int.tmod (wrap64 ((wrap64 (x7_2 + (rd x5_2 (ji29)))) + (wrap64 ((rd l0_1 x6_1) * (rd l1_1 x8_2))))) 1000000000)))) ?hg ?ho ?hn ?hr ?_; (case ho => rfl); (case hg => rfl); (case hn => rfl); (case hr => go_simp; try rfl); intro w44 hw; have hg : wc.grownBy w44 (some go36) := (by rw [hw]; exact HP43.2); have hp_ : Kd.R (Kd.int .i64) 3 w44 w.heap.size (fun k_ => (w.heap.size ≤ k_)) (.slice (some ⟨go36, 0, none⟩) x5_2.length co37) y1305 := (by rw [hw, Ny1305.out]; exact HP43.1); clear HP43; have n0_ := Aside0.mk (hp_); have n1_ := Aside0.mk (blk_grown (g := gb1292) (o := .cells #[.bool a0_0, .slice (some ad1303) l0_1.length c0_1] 101 (0, 0)) (by apply_rules [BK1292.out, blk_drewN, blk_drew, blk_alloc]) hg (Kd.R_ne HO_5.out BK1292.out (by decide))); have n2_ := Aside0.mk (blk_grown (g := gb1293) (o := .cells #[.bool a1_0, .slice (some ad1304) l1_1.length c1_1] 101 (0, 0)) (by apply_rules [BK1293.out, blk_drewN, blk_drew, blk_alloc]) hg (Kd.R_ne HO_5.out BK1293.out (by decide))); have n3_ := Aside0.mk (blk_grown (g := gb1294) (o := .cells #[.bool false, .slice none 0 0] 101 (0, 0)) (by apply_rules [BK1294.out, blk_drewN, blk_drew, blk_alloc]) hg (Kd.R_ne HO_5.out BK1294.out (by decide))); have n4_ := Aside0.mk ((by rw [hw]; exact below_set (HB.out) GB36.out : Below w.heap.size w w44)); clear HO_5; clear BK1292; clear BK1293; clear BK1294; clear HB; have HO_5 := n0_; have BK1292 := n1_; have BK1293 := n2_; have BK1294 := n3_; have HB := n4_; clear n0_ n1_ n2_ n3_ n4_; clear hg hw hp_))
          repeat (go_quiet (first | ((with_reducible refine gate_store (t := 3) (p := 68) rfl ?_); (try (rw [drewN_self wc]; generalize hq_ : World.drewN wc _ = wc; replace HO_5 := Aside0.mk (Kd.R_at hq_ HO_5.out); replace BK1292 := Aside0.mk (blk_at hq_ BK1292.out); replace BK1293 := Aside0.mk (blk_at hq_ BK1293.out); replace BK1294 := Aside0.mk (blk_at hq_ BK1294.out); replace HB := Aside0.mk (below_at hq_ HB.out); clear hq_; (try (obtain ⟨hxa_, hfa_⟩ := Kd.R_celln 0 HO_5.out ((ji29) : Int) (of_eq_true p36) (of_eq_true q36))); (try (have HP43 := Kd.R_putg HO_5.out ((ji29) : Int) (Int.tmod (wrap64 ((wrap64 (x7_2 + (rd x5_2 (ji29)))) + (wrap64 ((rd l0_1 x6_1) * (rd l1_1 x8_2))))) 1000000000))))); refine store_event (t := 3) (p := 68) (v := ?vo_w44) (w1 := (wc.setCell ⟨go36, ((ji29) : Int).toNat, none⟩ (.int .i64 (Int.tmod (wrap64 ((wrap64 (x7_2 + (rd x5_2 (ji29)))) + (wrap64 ((rd l0_1 x6_1) * (rd l1_1 x8_2))))) 1000000000)))) ?hg ?ho ?hn ?hr ?_; (case ho => rfl); (case hg => rfl); (case hn => rfl); (case hr => go_simp; try rfl); intro w44 hw; have hg : wc.grownBy w44 (some go36) := (by rw [hw]; exact HP43.2); have hp_ : Kd.R (Kd.int .i64) 3 w44 w.heap.size (fun k_ => (w.heap.size ≤ k_)) (.slice (some ⟨go36, 0, none⟩) x5_2.length co37) y1305 := (by rw [hw, Ny1305.out]; exact HP43.1); clear HP43; have n0_ := Aside0.mk (hp_); have n1_ := Aside0.mk (blk_grown (g := gb1292) (o := .cells #[.bool a0_0, .slice (some ad1303) l0_1.length c0_1] 101 (0, 0)) (by apply_rules [BK1292.out, blk_drewN, blk_drew, blk_alloc]) hg (Kd.R_ne HO_5.out BK1292.out (by decide))); have n2_ := Aside0.mk (blk_grown (g := gb1293) (o := .cells #[.bool a1_0, .slice (some ad1304) l1_1.length c1_1] 101 (0, 0)) (by apply_rules [BK1293.out, blk_drewN, blk_drew, blk_alloc]) hg (Kd.R_ne HO_5.out BK1293.out (by decide))); have n3_ := Aside0.mk (blk_grown (g := gb1294) (o := .cells #[.bool false, .slice none 0 0] 101 (0, 0)) (by apply_rules [BK1294.out, blk_drewN, blk_drew, blk_alloc]) hg (Kd.R_ne HO_5.out BK1294.out (by decide))); have n4_ := Aside0.mk ((by rw [hw]; exact below_set (HB.out) GB36.out : Below w.heap.size w w44)); clear HO_5; clear BK1292; clear BK1293; clear BK1294; clear HB; have HO_5 := n0_; have BK1292 := n1_; have BK1293 := n2_; have BK1294 := n3_; have HB := n4_; clear n0_ n1_ n2_ n3_ n4_; clear hg hw hp_)); try go_wp2_with (first | ((with_reducible refine gate_store (t := 3) (p := 68) rfl ?_); (try (rw [drewN_self wc]; generalize hq_ : World.drewN wc _ = wc; replace HO_5 := Aside0.mk (Kd.R_at hq_ HO_5.out); replace BK1292 := Aside0.mk (blk_at hq_ BK1292.out); replace BK1293 := Aside0.mk (blk_at hq_ BK1293.out); replace BK1294 := Aside0.mk (blk_at hq_ BK1294.out); replace HB := Aside0.mk (below_at hq_ HB.out); clear hq_; (try (obtain ⟨hxa_, hfa_⟩ := Kd.R_celln 0 HO_5.out ((ji29) : Int) (of_eq_true p36) (of_eq_true q36))); (try (have HP43 := Kd.R_putg HO_5.out ((ji29) : Int) (Int.tmod (wrap64 ((wrap64 (x7_2 + (rd x5_2 (ji29)))) + (wrap64 ((rd l0_1 x6_1) * (rd l1_1 x8_2))))) 1000000000))))); refine store_event (t := 3) (p := 68) (v := ?vo_w44) (w1 := (wc.setCell ⟨go36, ((ji29) : Int).toNat, none⟩ (.int .i64 (Int.tmod (wrap64 ((wrap64 (x7_2 + (rd x5_2 (ji29)))) + (wrap64 ((rd l0_1 x6_1) * (rd l1_1 x8_2))))) 1000000000)))) ?hg ?ho ?hn ?hr ?_; (case ho => rfl); (case hg => rfl); (case hn => rfl); (case hr => go_simp; try rfl); intro w44 hw; have hg : wc.grownBy w44 (some go36) := (by rw [hw]; exact HP43.2); have hp_ : Kd.R (Kd.int .i64) 3 w44 w.heap.size (fun k_ => (w.heap.size ≤ k_)) (.slice (some ⟨go36, 0, none⟩) x5_2.length co37) y1305 := (by rw [hw, Ny1305.out]; exact HP43.1); clear HP43; have n0_ := Aside0.mk (hp_); have n1_ := Aside0.mk (blk_grown (g := gb1292) (o := .cells #[.bool a0_0, .slice (some ad1303) l0_1.length c0_1] 101 (0, 0)) (by apply_rules [BK1292.out, blk_drewN, blk_drew, blk_alloc]) hg (Kd.R_ne HO_5.out BK1292.out (by decide))); have n2_ := Aside0.mk (blk_grown (g := gb1293) (o := .cells #[.bool a1_0, .slice (some ad1304) l1_1.length c1_1] 101 (0, 0)) (by apply_rules [BK1293.out, blk_drewN, blk_drew, blk_alloc]) hg (Kd.R_ne HO_5.out BK1293.out (by decide))); have n3_ := Aside0.mk (blk_grown (g := gb1294) (o := .cells #[.bool false, .slice none 0 0] 101 (0, 0)) (by apply_rules [BK1294.out, blk_drewN, blk_drew, blk_alloc]) hg (Kd.R_ne HO_5.out BK1294.out (by decide))); have n4_ := Aside0.mk ((by rw [hw]; exact below_set (HB.out) GB36.out : Below w.heap.size w w44)); clear HO_5; clear BK1292; clear BK1293; clear BK1294; clear HB; have HO_5 := n0_; have BK1292 := n1_; have BK1293 := n2_; have BK1294 := n3_; have HB := n4_; clear n0_ n1_ n2_ n3_ n4_; clear hg hw hp_)))
          go_roundg kj19
          case measure => have := HK1.out; have := HK2.out; have := HJ19.out; omega
          case rel => exact ⟨(y1305), (wrap64 (Int.tdiv (wrap64 ((wrap64 (x7_2 + (rd x5_2 (ji29)))) + (wrap64 ((rd l0_1 x6_1) * (rd l1_1 x8_2))))) 1000000000)), (wrap64 (x8_2 + 1)), (by first | rfl | (simp; done) | (simp only [← hji29] <;> (first | rfl | simp)) | (simp [*]; done)), (by first | rfl | (simp; done) | (simp [*]; done)), H', ⟨by have := HK1.out; have := HK2.out; have := HJ19.out; omega⟩, ⟨by apply_rules [HO_5.out, Kd.R_alloc, Kd.R_drewN, Kd.R_drew]⟩, ⟨by apply_rules [BK1292.out, blk_drewN, blk_drew, blk_alloc]⟩, ⟨by apply_rules [BK1293.out, blk_drewN, blk_drew, blk_alloc]⟩, ⟨by apply_rules [BK1294.out, blk_drewN, blk_drew, blk_alloc]⟩, ⟨by apply_rules [HB.out, below_alloc, pw_below_drewN, below_drew1, below_set, GE1292.out, GE1293.out, GE1294.out]⟩⟩
         ·rw [if_neg c32] at H
          have c32b0 : decide (x8_2 < (l1_1.length : Int)) = false := decide_eq_false c32
          clear c32
          obtain ⟨y1306, hy1306⟩ : ∃ y_ : List Int, y_ = (x5_2.set ((ji29) : Int).toNat (Int.tmod (wrap64 (x7_2 + (rd x5_2 (ji29)))) 1000000000)) := ⟨_, rfl⟩
          replace H : (schismaref03_MulW.l1 kj19 y1306 x6_1 (wrap64 (Int.tdiv (wrap64 (x7_2 + (rd x5_2 (ji29)))) 1000000000)) (wrap64 (x8_2 + 1)) a0_0 l0_1 a1_0 l1_1) = some (r1, r2) := by first | (rw [hy1306]; with_reducible exact H) | (have H2_ := (Option.bind_some _ _).symm.trans H; rw [hy1306]; with_reducible exact H2_) | (have H2_ := (Option.bind_some _ _).symm.trans H; with_reducible exact H2_) | with_reducible exact H | (rw [hy1306]; exact H) | exact H
          have Ny1306 := Aside0.mk hy1306
          clear hy1306
          have H' := Aside0.mk H
          clear H
          obtain ⟨Ao46, co46, eo46⟩ := Kd.R_slice HO_5.out
          subst eo46
          have p1302 : 0 ≤ ((ji29) : Int) := of_decide_eq_true (by assumption)
          have q1302 : (ji29) < (x5_2.length : Int) := of_decide_eq_true (by assumption)
          obtain ⟨ad1302, e1302, hx1302_0⟩ := Kd.at_int (Kd.R_reads' HO_5.out).2.2 (ji29) p1302 q1302
          cases e1302
          replace p1302 := eq_true p1302
          replace q1302 := eq_true q1302
          have hnb47 := NB1293_1292.out
          have hnc47 := NB1292_1293.out
          have hnb48 := NB1293_1294.out
          have hnc48 := NB1294_1293.out
          have hcz49_0 : wc.cell? ⟨gb1293, 0, none⟩ = some (.bool a1_0) := (blk_cell BK1293.out 0).trans rfl
          have hcz49_1 : wc.cell? ⟨gb1293, 1, none⟩ = some (.slice A1_1 l1_1.length c1_1) := (blk_cell BK1293.out 1).trans rfl
          have hfz49_0 := blk_frozen BK1293.out 0
          have hfz49_1 := blk_frozen BK1293.out 1
          have p45 : 0 ≤ ((ji29) : Int) := of_decide_eq_true (by assumption)
          have q45 : ((ji29) : Int) < ((x5_2.length : Int) : Int) := of_decide_eq_true (by assumption)
          obtain ⟨go45, co45, eo45, gb45, gl45, cl45, HG45⟩ := Kd.R_form HO_5.out (by omega)
          (first | cases eo45 | (injection eo45 with ea_ en_ ec_; (first | subst ea_ | (injection ea_ with ea_; subst ea_)); subst ec_; clear en_))
          have GB45 := Aside0.mk gb45
          have GG45 := Aside0.mk HG45
          clear gb45 gl45 HG45
          (first | simp only [add_plain] at hx1302_0 | skip)
          obtain ⟨hx45_0, hf45_0⟩ := Kd.R_celln 0 HO_5.out ((ji29) : Int) p45 q45
          replace p45 := eq_true p45
          replace q45 := eq_true q45
          have HP50 := Kd.R_putg HO_5.out ((ji29) : Int) (Int.tmod (wrap64 (x7_2 + (rd x5_2 (ji29)))) 1000000000)
          go_wp2_with (first | ((with_reducible refine gate_store (t := 3) (p := 68) rfl ?_); (try (rw [drewN_self wc]; generalize hq_ : World.drewN wc _ = wc; replace HO_5 := Aside0.mk (Kd.R_at hq_ HO_5.out); replace BK1292 := Aside0.mk (blk_at hq_ BK1292.out); replace BK1293 := Aside0.mk (blk_at hq_ BK1293.out); replace BK1294 := Aside0.mk (blk_at hq_ BK1294.out); replace HB := Aside0.mk (below_at hq_ HB.out); clear hq_; (try (obtain ⟨hxa_, hfa_⟩ := Kd.R_celln 0 HO_5.out ((ji29) : Int) (of_eq_true p45) (of_eq_true q45))); (try (have HP50 := Kd.R_putg HO_5.out ((ji29) : Int) (Int.tmod (wrap64 (x7_2 + (rd x5_2 (ji29)))) 1000000000))))); refine store_event (t := 3) (p := 68) (v := ?vo_w51) (w1 := (wc.setCell ⟨go45, ((ji29) : Int).toNat, none⟩ (.int .i64 (Int.tmod (wrap64 (x7_2 + (rd x5_2 (ji29)))) 1000000000)))) ?hg ?ho ?hn ?hr ?_; (case ho => rfl); (case hg => rfl); (case hn => rfl); (case hr => go_simp; try rfl); intro w51 hw; have hg : wc.grownBy w51 (some go45) := (by rw [hw]; exact HP50.2); have hp_ : Kd.R (Kd.int .i64) 3 w51 w.heap.size (fun k_ => (w.heap.size ≤ k_)) (.slice (some ⟨go45, 0, none⟩) x5_2.length co46) y1306 := (by rw [hw, Ny1306.out]; exact HP50.1); clear HP50; have n0_ := Aside0.mk (hp_); have n1_ := Aside0.mk (blk_grown (g := gb1292) (o := .cells #[.bool a0_0, .slice A0_1 l0_1.length c0_1] 101 (0, 0)) (by apply_rules [BK1292.out, blk_drewN, blk_drew, blk_alloc]) hg (Kd.R_ne HO_5.out BK1292.out (by decide))); have n2_ := Aside0.mk (blk_grown (g := gb1293) (o := .cells #[.bool a1_0, .slice A1_1 l1_1.length c1_1] 101 (0, 0)) (by apply_rules [BK1293.out, blk_drewN, blk_drew, blk_alloc]) hg (Kd.R_ne HO_5.out BK1293.out (by decide))); have n3_ := Aside0.mk (blk_grown (g := gb1294) (o := .cells #[.bool false, .slice none 0 0] 101 (0, 0)) (by apply_rules [BK1294.out, blk_drewN, blk_drew, blk_alloc]) hg (Kd.R_ne HO_5.out BK1294.out (by decide))); have n4_ := Aside0.mk ((by rw [hw]; exact below_set (HB.out) GB45.out : Below w.heap.size w w51)); clear HO_5; clear BK1292; clear BK1293; clear BK1294; clear HB; have HO_5 := n0_; have BK1292 := n1_; have BK1293 := n2_; have BK1294 := n3_; have HB := n4_; clear n0_ n1_ n2_ n3_ n4_; clear hg hw hp_))
          go_roundg kj19
          case measure => have := HK1.out; have := HK2.out; have := HJ19.out; omega
          case rel => exact ⟨(y1306), (wrap64 (Int.tdiv (wrap64 (x7_2 + (rd x5_2 (ji29)))) 1000000000)), (wrap64 (x8_2 + 1)), (by first | rfl | (simp; done) | (simp only [← hji29] <;> (first | rfl | simp)) | (simp [*]; done)), (by first | rfl | (simp; done) | (simp [*]; done)), H', ⟨by have := HK1.out; have := HK2.out; have := HJ19.out; omega⟩, ⟨by apply_rules [HO_5.out, Kd.R_alloc, Kd.R_drewN, Kd.R_drew]⟩, ⟨by apply_rules [BK1292.out, blk_drewN, blk_drew, blk_alloc]⟩, ⟨by apply_rules [BK1293.out, blk_drewN, blk_drew, blk_alloc]⟩, ⟨by apply_rules [BK1294.out, blk_drewN, blk_drew, blk_alloc]⟩, ⟨by apply_rules [HB.out, below_alloc, pw_below_drewN, below_drew1, below_set, GE1292.out, GE1293.out, GE1294.out]⟩⟩
        ·replace c28 := Bool.eq_false_iff.mpr c28
         subst c28
         have H1 : (schismaref03_MulW.l0 kj19 x5_2 (wrap64 (x6_1 + 1)) a0_0 l0_1 a1_0 l1_1) = some (r1, r2) := by rw [if_neg (show ¬ (false = true) by decide)] at H; exact H
         clear H
         have H := H1
         clear H1
         have H' := Aside0.mk H
         clear H
         go_wp2
         go_roundg kj19
         case measure => have := HK1.out; have := HK2.out; have := HJ19.out; omega
         case rel => exact ⟨(x5_2), (wrap64 (x6_1 + 1)), (by first | rfl | (simp; done) | (simp [*]; done)), H', ⟨by have := HK1.out; have := HK2.out; have := HJ19.out; omega⟩, ⟨by apply_rules [HO_5.out, Kd.R_alloc, Kd.R_drewN, Kd.R_drew]⟩, ⟨by apply_rules [BK1292.out, blk_drewN, blk_drew, blk_alloc]⟩, ⟨by apply_rules [BK1293.out, blk_drewN, blk_drew, blk_alloc]⟩, ⟨by apply_rules [BK1294.out, blk_drewN, blk_drew, blk_alloc]⟩, ⟨by apply_rules [HB.out, below_alloc, pw_below_drewN, below_drew1, below_set, GE1292.out, GE1293.out, GE1294.out]⟩⟩
   ·rw [if_neg c16] at H
    have c16b0 : decide (x6_1 < (l0_1.length : Int)) = false := decide_eq_false c16
    clear c16
    replace H := Option.bind_eq_some_iff.mp H
    obtain ⟨⟨t1298, t1299⟩, A520, H⟩ := H
    try dsimp only at H
    have A52 := Aside0.mk A520
    clear A520
    simp only [Option.some.injEq, Prod.mk.injEq] at H
    obtain ⟨rfl, rfl⟩ := H
    have hnb53 := NB1292_1293.out
    have hnc53 := NB1293_1292.out
    have hnb54 := NB1292_1294.out
    have hnc54 := NB1294_1292.out
    have hcz55_0 : wr.cell? ⟨gb1292, 0, none⟩ = some (.bool a0_0) := (blk_cell BK1292.out 0).trans rfl
    have hcz55_1 : wr.cell? ⟨gb1292, 1, none⟩ = some (.slice A0_1 l0_1.length c0_1) := (blk_cell BK1292.out 1).trans rfl
    have hfz55_0 := blk_frozen BK1292.out 0
    have hfz55_1 := blk_frozen BK1292.out 1
    have hnb56 := NB1293_1294.out
    have hnc56 := NB1294_1293.out
    have hcz57_0 : wr.cell? ⟨gb1293, 0, none⟩ = some (.bool a1_0) := (blk_cell BK1293.out 0).trans rfl
    have hcz57_1 : wr.cell? ⟨gb1293, 1, none⟩ = some (.slice A1_1 l1_1.length c1_1) := (blk_cell BK1293.out 1).trans rfl
    have hfz57_0 := blk_frozen BK1293.out 0
    have hfz57_1 := blk_frozen BK1293.out 1
    obtain ⟨Ao58, co58, eo58⟩ := Kd.R_slice HO_5.out
    subst eo58
    have A52B := A52
    try simp only [bne] at A52B
    go_wp2_with (first | (go_at_call 145; (first | with_reducible refine (schismaref03_trim.calls k1 (a0_0 != a1_0) (fun k_ => some k_ = (.slice Ao58 x5_1.length co58 : Value).ownBlock) _ _ x5_1 t1298 t1299 _ ?side1 A52.out).mono ?_ | with_reducible refine (schismaref03_trim.calls k1 (!(a0_0 == a1_0)) (fun k_ => some k_ = (.slice Ao58 x5_1.length co58 : Value).ownBlock) _ _ x5_1 t1298 t1299 _ ?side1 A52B.out).mono ?_); (case side1 => exact Kd.R_V (Kd.R_tight rfl (Kd.R_types (Kd.R_types (Kd.R_types (HO_5.out) BK1292.out (by decide)) BK1293.out (by decide)) BK1294.out (by decide)))); rintro e w59 ⟨v1300, rfl, ho0, hb⟩; have n0_ := Aside0.mk (Kd.R_below (by apply_rules [HO_5.out, Kd.R_alloc, Kd.R_drewN, Kd.R_drew]) hb); have n1_ := Aside0.mk (Kd.V_lower (Kd.V_mono (ok' := fun k_ => (w.heap.size ≤ k_) ∧ k_ ≠ gb1292 ∧ k_ ≠ gb1293 ∧ k_ ≠ gb1294) ho0 (fun k_ hk_ => ⟨Or.elim hk_ (fun hs_ => ((Kd.R_types (Kd.R_types (Kd.R_types (HO_5.out) BK1292.out (by decide)) BK1293.out (by decide)) BK1294.out (by decide)).1 k_ hs_.symm).1.1.1) (fun hn_ => (Nat.le_trans (below_size (by apply_rules [HB.out, below_alloc, pw_below_drewN, below_drew1, below_set, GE1292.out, GE1293.out, GE1294.out])) hn_)), Or.elim hk_ (fun hs_ => ((Kd.R_types (Kd.R_types (Kd.R_types (HO_5.out) BK1292.out (by decide)) BK1293.out (by decide)) BK1294.out (by decide)).1 k_ hs_.symm).1.1.2) (fun hn_ => (Kd.freshB (g := gb1292) (o := .cells #[.bool a0_0, .slice A0_1 l0_1.length c0_1] 101 (0, 0)) (by apply_rules [BK1292.out, blk_drewN, blk_drew, blk_alloc]) k_ hn_)), Or.elim hk_ (fun hs_ => ((Kd.R_types (Kd.R_types (Kd.R_types (HO_5.out) BK1292.out (by decide)) BK1293.out (by decide)) BK1294.out (by decide)).1 k_ hs_.symm).1.2) (fun hn_ => (Kd.freshB (g := gb1293) (o := .cells #[.bool a1_0, .slice A1_1 l1_1.length c1_1] 101 (0, 0)) (by apply_rules [BK1293.out, blk_drewN, blk_drew, blk_alloc]) k_ hn_)), Or.elim hk_ (fun hs_ => ((Kd.R_types (Kd.R_types (Kd.R_types (HO_5.out) BK1292.out (by decide)) BK1293.out (by decide)) BK1294.out (by decide)).1 k_ hs_.symm).2) (fun hn_ => (Kd.freshB (g := gb1294) (o := .cells #[.bool false, .slice none 0 0] 101 (0, 0)) (by apply_rules [BK1294.out, blk_drewN, blk_drew, blk_alloc]) k_ hn_))⟩)) (below_size (by apply_rules [HB.out, below_alloc, pw_below_drewN, below_drew1, below_set, GE1292.out, GE1293.out, GE1294.out]))); have n2_ := Aside0.mk (blk_below (g := gb1292) (o := .cells #[.bool a0_0, .slice A0_1 l0_1.length c0_1] 101 (0, 0)) (by apply_rules [BK1292.out, blk_drewN, blk_drew, blk_alloc]) hb); have n3_ := Aside0.mk (blk_below (g := gb1293) (o := .cells #[.bool a1_0, .slice A1_1 l1_1.length c1_1] 101 (0, 0)) (by apply_rules [BK1293.out, blk_drewN, blk_drew, blk_alloc]) hb); have n4_ := Aside0.mk (blk_below (g := gb1294) (o := .cells #[.bool false, .slice none 0 0] 101 (0, 0)) (by apply_rules [BK1294.out, blk_drewN, blk_drew, blk_alloc]) hb); have n5_ := Aside0.mk (below_step (by apply_rules [HB.out, below_alloc, pw_below_drewN, below_drew1, below_set, GE1292.out, GE1293.out, GE1294.out]) hb); clear HO_5; clear BK1292; clear BK1293; clear BK1294; clear HB; have HO_5 := n0_; have HO1301 := n1_; have BK1292 := n2_; have BK1293 := n3_; have BK1294 := n4_; have HB := n5_; clear n0_ n1_ n2_ n3_ n4_ n5_; (try clear hb); (try clear ho0); have hcz60_0 : w59.cell? ⟨gb1294, 0, none⟩ = some (.bool false) := (blk_cell BK1294.out 0).trans rfl; have hcz60_1 : w59.cell? ⟨gb1294, 1, none⟩ = some (.slice none 0 0) := (blk_cell BK1294.out 1).trans rfl; have hfz60_0 := blk_frozen BK1294.out 0; have hfz60_1 := blk_frozen BK1294.out 1; obtain ⟨Ao61, co61, eo61⟩ := Kd.V_slice HO1301.out; subst eo61))
    have A52B := A52
    try simp only [bne] at A52B
    refine bodyPost_ret (results_cell_row rfl _ _ gb1294 101 #[.bool t1298, .slice Ao61 t1299.length co61] (0, 0) _ rfl (by (with_reducible repeat (first | refine blk_drewN ?_ _ | refine blk_drew ?_ | refine blk_alloc ?_ _)); refine blk_put (cs := #[.bool t1298, .slice none 0 0]) ?_ 1 _ rfl; (with_reducible repeat (first | refine blk_drewN ?_ _ | refine blk_drew ?_ | refine blk_alloc ?_ _)); refine blk_put (cs := #[.bool false, .slice none 0 0]) ?_ 0 _ rfl; apply_rules [BK1294.out, blk_drewN, blk_drew, blk_alloc]) Tryz.underlying101 rfl (by kernel_rfl)) rfl ?_
    exact ⟨_, by first | rfl | (simp [errW_none, errW_some] <;> rfl) | (simp only [← hji3]; first | rfl | (simp [errW_none, errW_some] <;> rfl)) | (simp [*, errW_none, errW_some] <;> rfl), by (with_reducible repeat (first | apply Kd.V_alloc | apply Kd.V_drewN | apply Kd.V_drew)); exact Kd.V_mono (Kd.V_far (p := ⟨gb1294, 1, none⟩) (Kd.V_far (p := ⟨gb1294, 0, none⟩) (Kd.V_mono HO1301.out (fun k_ hk => (⟨hk, hk.2.2.2⟩ : _ ∧ k_ ≠ gb1294))) (fun _ hk => hk.2) (.bool t1298)) (fun _ hk => hk.2) (.slice Ao61 t1299.length co61)) (fun _ hk => hk.1.1), by apply_rules [HB.out, below_alloc, pw_below_drewN, below_drew1, below_set, GE1292.out, GE1293.out, GE1294.out]⟩
end Go.Proofs.YtccebdpjdpjgnaaGreatDoor.P
