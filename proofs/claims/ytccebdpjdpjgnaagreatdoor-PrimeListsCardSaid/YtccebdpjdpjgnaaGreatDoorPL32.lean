/-
parts of the walks and of the plain laws: Pprimefactor Pprimeopen ExtFar
-/
import Derived.Test.YtccebdpjdpjgnaaGreatDoorPL29
import Derived.Test.YtccebdpjdpjgnaaGreatDoorPL31
set_option linter.unusedVariables false
set_option linter.unusedSimpArgs false
section
namespace Go.Proofs.YtccebdpjdpjgnaaGreatDoor.P
open Go.RowKit Go.Proofs.YtccebdpjdpjgnaaGreatDoorW.PrintWords Go.Proofs.YtccebdpjdpjgnaaGreatDoorW.PrintLast Go.Proofs.YtccebdpjdpjgnaaGreatDoorW.PrintMore
attribute [local go_sem] max2_int min2_int max_two min_two max_three min_three max_four min_four
def prime_factor.l0 : Nat → List Int → ByteArray → ByteArray → List Int → Int → Int → Option (List Int × Bool)
 | 0, _, _, _, _, _, _ => none
 | k + 1, x6, x7, x8, x23, x24, x25 => if x25 < x24 then (if 0 ≤ x25 then (if x25 < (x23.length : Int) then ((prime_divide.f k x7 (rd x23 x25)).bind fun bt1045 => ((prime_divide.f k x8 (rd x23 x25)).bind fun bt1047 => (if x25 < (x6.length : Int) then (prime_factor.l0 k (x6.set (x25 : Int).toNat (wrap64 (bt1045.2 - bt1047.2))) bt1045.1 bt1047.1 x23 x24 (wrap64 (x25 + 1))) else (none)))) else (none)) else (none)) else (if x7.toList = ([49] : List UInt8) then (some (x6, (x8.toList == ([49] : List UInt8)))) else (some (x6, false)))
def prime_factor.f (k : Nat) (l0 : List Int) (a1_0 : ByteArray) (a1_1 : ByteArray) : Option (List Int × Bool) := (fraction_Sign.f a1_0 a1_1).bind fun t1040 => (if t1040 ≤ 0 then (some (([] : List Int), false)) else (if 0 ≤ (l0.length : Int) then (if ((l0.length : Int) : Int).toNat ≤ 35184372088832 then (prime_factor.l0 k (List.replicate ((l0.length : Int) : Int).toNat 0) a1_0 a1_1 l0 (l0.length : Int) 0) else (none)) else (none)))
theorem prime_factor.mono_l : ∀ k, (∀ y0 y1 y2 y3 y4 y5, LeO (prime_factor.l0 k y0 y1 y2 y3 y4 y5) (prime_factor.l0 (k + 1) y0 y1 y2 y3 y4 y5))
 | 0 => fun _ _ _ _ _ _ r h => by simp [prime_factor.l0] at h
 | k + 1 => by
  have ih0 := prime_factor.mono_l k
  ·intro y0 y1 y2 y3 y4 y5
   unfold prime_factor.l0
   repeat' first
   | (with_reducible exact ih0 _ _ _ _ _ _)
   | (with_reducible exact prime_divide.mono _ _ _)
   | (with_reducible exact LeO.refl _)
   | (with_reducible exact LeO.none _)
   | (with_reducible refine LeO.ite ?_ ?_)
   | (with_reducible refine LeO.bind ?_ (fun _ => ?_))
   | exact ih0 _ _ _ _ _ _
   | exact prime_divide.mono _ _ _
   | exact LeO.none _
   | refine LeO.ite ?_ ?_
   | refine LeO.bind ?_ (fun _ => ?_)
theorem prime_factor.mono : ∀ a0 a1 a2 k, LeO (prime_factor.f k a0 a1 a2) (prime_factor.f (k + 1) a0 a1 a2) := by
 intro a0 a1 a2 k
 have ih0 := prime_factor.mono_l k
 unfold prime_factor.f
 repeat' first
   | (with_reducible exact ih0 _ _ _ _ _ _)
   | (with_reducible exact prime_divide.mono _ _ _)
   | (with_reducible exact LeO.refl _)
   | (with_reducible exact LeO.none _)
   | (with_reducible refine LeO.ite ?_ ?_)
   | (with_reducible refine LeO.bind ?_ (fun _ => ?_))
   | exact ih0 _ _ _ _ _ _
   | exact prime_divide.mono _ _ _
   | exact LeO.none _
   | refine LeO.ite ?_ ?_
   | refine LeO.bind ?_ (fun _ => ?_)
set_option maxHeartbeats 8000000 in
set_option maxRecDepth 100000 in
theorem prime_factor.calls (k : Nat) (A0 : Option Addr) (c0 : Nat) (l0 : List Int) (a1_0 : ByteArray) (a1_1 : ByteArray) (r1 : List Int) (r2 : Bool) (w : World) (hT : TabW w) (hr0 : Kd.C (Kd.int .i64) w A0 l0.length l0) (hc0 : l0.length ≤ c0) (h : prime_factor.f k l0 a1_0 a1_1 = some (r1, r2)) :
  Calls Tryz.prog 138 #[.slice A0 l0.length c0, .agg #[.string a1_0, .string a1_1]] w fun e w' => ∃ v0_ : Value, e = .returned (.tuple #[v0_, .bool r2]) ∧ Kd.R (Kd.int .i64) 3 w' w.heap.size (fun _ => True) v0_ r1 ∧ Below w.heap.size w w' := by
 have hu38 := Tryz.underlying38
 have HR0 := Aside0.mk hr0
 have HC0 := Aside0.mk hc0
 clear hr0 hc0
 have HB := Aside0.mk (Below.refl w.heap.size w)
 have H : ((fraction_Sign.f a1_0 a1_1).bind fun t1040 => (if t1040 ≤ 0 then (some (([] : List Int), false)) else (if 0 ≤ (l0.length : Int) then (if ((l0.length : Int) : Int).toNat ≤ 35184372088832 then (prime_factor.l0 k (List.replicate ((l0.length : Int) : Int).toNat 0) a1_0 a1_1 l0 (l0.length : Int) 0) else (none)) else (none)))) = some (r1, r2) := h
 clear h
 replace H := Option.bind_eq_some_iff.mp H
 obtain ⟨t1040, A30, H⟩ := H
 replace H : (if t1040 ≤ 0 then (some (([] : List Int), false)) else (if 0 ≤ (l0.length : Int) then (if ((l0.length : Int) : Int).toNat ≤ 35184372088832 then (prime_factor.l0 k (List.replicate ((l0.length : Int) : Int).toNat 0) a1_0 a1_1 l0 (l0.length : Int) 0) else (none)) else (none))) = some (r1, r2) := H
 have A3 := Aside0.mk A30
 clear A30
 by_cases c4 : t1040 ≤ 0
 ·rw [if_pos c4] at H
  have c4b0 : decide (t1040 ≤ 0) = true := decide_eq_true c4
  clear c4
  simp only [Option.some.injEq, Prod.mk.injEq] at H
  obtain ⟨rfl, rfl⟩ := H
  go_enter Tryz.func138, Tryz.ntmps138
  go_wp2_with (first | ((with_reducible refine gate_dst (N := 3) rfl ?_); refine box_event ?hg (N := 3) ?hd (cs := #[.string a1_0, .string a1_1]) (t := 38) ?hr ?_; (case hd => rfl); (case hg => rfl); (case hr => first | (go_simp; done) | (go_simp; rfl)); intro gb1039 hg w5 hbox hb; have n0_ := Aside0.mk (below_step (by repeat (first | (with_reducible first | exact HB.out | apply below_alloc | apply pw_below_drewN | apply below_drew1) | exact HB.out)) hb); have n1_ := Aside0.mk (hbox); have n2_ := Aside0.mk ((by rw [hg]; exact (below_size (by repeat (first | (with_reducible first | exact HB.out | apply below_alloc | apply pw_below_drewN | apply below_drew1) | exact HB.out))) : w.heap.size ≤ gb1039)); have n3_ := Aside0.mk ((by rw [hg]; exact (below_size (by repeat (first | (with_reducible first | exact HB.out | apply below_alloc | apply pw_below_drewN | apply below_drew1) | exact HB.out))) : w.heap.size ≤ gb1039)); clear HB; have HB := n0_; have BK1039 := n1_; have GW1039 := n2_; have GE1039 := n3_; clear n0_ n1_ n2_ n3_; clear hb hbox hg; have hcz6_0 : w5.cell? ⟨gb1039, 0, none⟩ = some (.string a1_0) := (blk_cell BK1039.out 0).trans rfl; have hcz6_1 : w5.cell? ⟨gb1039, 1, none⟩ = some (.string a1_1) := (blk_cell BK1039.out 1).trans rfl; have hfz6_0 := blk_frozen BK1039.out 0; have hfz6_1 := blk_frozen BK1039.out 1) | (go_at_call 99; (with_reducible refine (fraction_Sign.calls a1_0 a1_1 t1040 _ A3.out).mono ?_); rintro e w7 ⟨rfl, hb⟩; have n0_ := Aside0.mk (blk_below (g := gb1039) (o := .cells #[.string a1_0, .string a1_1] 38 (0, 0)) (by (with_reducible repeat (first | refine blk_drewN ?_ _ | refine blk_drew ?_ | refine blk_alloc ?_ _)); exact BK1039.out) hb); have n1_ := Aside0.mk (below_step (by repeat (first | (with_reducible first | exact HB.out | apply below_alloc | apply pw_below_drewN | apply below_drew1 | refine below_set ?_ GE1039.out) | exact HB.out)) hb); clear BK1039; clear HB; have BK1039 := n0_; have HB := n1_; clear n0_ n1_; (try clear hb); (try clear hb2); (try clear hk); (try clear hi)))
  repeat (go_quiet (first | ((with_reducible refine gate_dst (N := 3) rfl ?_); refine box_event ?hg (N := 3) ?hd (cs := #[.string a1_0, .string a1_1]) (t := 38) ?hr ?_; (case hd => rfl); (case hg => rfl); (case hr => first | (go_simp; done) | (go_simp; rfl)); intro gb1039 hg w5 hbox hb; have n0_ := Aside0.mk (below_step (by repeat (first | (with_reducible first | exact HB.out | apply below_alloc | apply pw_below_drewN | apply below_drew1) | exact HB.out)) hb); have n1_ := Aside0.mk (hbox); have n2_ := Aside0.mk ((by rw [hg]; exact (below_size (by repeat (first | (with_reducible first | exact HB.out | apply below_alloc | apply pw_below_drewN | apply below_drew1) | exact HB.out))) : w.heap.size ≤ gb1039)); have n3_ := Aside0.mk ((by rw [hg]; exact (below_size (by repeat (first | (with_reducible first | exact HB.out | apply below_alloc | apply pw_below_drewN | apply below_drew1) | exact HB.out))) : w.heap.size ≤ gb1039)); clear HB; have HB := n0_; have BK1039 := n1_; have GW1039 := n2_; have GE1039 := n3_; clear n0_ n1_ n2_ n3_; clear hb hbox hg; have hcz6_0 : w5.cell? ⟨gb1039, 0, none⟩ = some (.string a1_0) := (blk_cell BK1039.out 0).trans rfl; have hcz6_1 : w5.cell? ⟨gb1039, 1, none⟩ = some (.string a1_1) := (blk_cell BK1039.out 1).trans rfl; have hfz6_0 := blk_frozen BK1039.out 0; have hfz6_1 := blk_frozen BK1039.out 1) | (go_at_call 99; (with_reducible refine (fraction_Sign.calls a1_0 a1_1 t1040 _ A3.out).mono ?_); rintro e w7 ⟨rfl, hb⟩; have n0_ := Aside0.mk (blk_below (g := gb1039) (o := .cells #[.string a1_0, .string a1_1] 38 (0, 0)) (by (with_reducible repeat (first | refine blk_drewN ?_ _ | refine blk_drew ?_ | refine blk_alloc ?_ _)); exact BK1039.out) hb); have n1_ := Aside0.mk (below_step (by repeat (first | (with_reducible first | exact HB.out | apply below_alloc | apply pw_below_drewN | apply below_drew1 | refine below_set ?_ GE1039.out) | exact HB.out)) hb); clear BK1039; clear HB; have BK1039 := n0_; have HB := n1_; clear n0_ n1_; (try clear hb); (try clear hb2); (try clear hk); (try clear hi))); try go_wp2_with (first | ((with_reducible refine gate_dst (N := 3) rfl ?_); refine box_event ?hg (N := 3) ?hd (cs := #[.string a1_0, .string a1_1]) (t := 38) ?hr ?_; (case hd => rfl); (case hg => rfl); (case hr => first | (go_simp; done) | (go_simp; rfl)); intro gb1039 hg w5 hbox hb; have n0_ := Aside0.mk (below_step (by repeat (first | (with_reducible first | exact HB.out | apply below_alloc | apply pw_below_drewN | apply below_drew1) | exact HB.out)) hb); have n1_ := Aside0.mk (hbox); have n2_ := Aside0.mk ((by rw [hg]; exact (below_size (by repeat (first | (with_reducible first | exact HB.out | apply below_alloc | apply pw_below_drewN | apply below_drew1) | exact HB.out))) : w.heap.size ≤ gb1039)); have n3_ := Aside0.mk ((by rw [hg]; exact (below_size (by repeat (first | (with_reducible first | exact HB.out | apply below_alloc | apply pw_below_drewN | apply below_drew1) | exact HB.out))) : w.heap.size ≤ gb1039)); clear HB; have HB := n0_; have BK1039 := n1_; have GW1039 := n2_; have GE1039 := n3_; clear n0_ n1_ n2_ n3_; clear hb hbox hg; have hcz6_0 : w5.cell? ⟨gb1039, 0, none⟩ = some (.string a1_0) := (blk_cell BK1039.out 0).trans rfl; have hcz6_1 : w5.cell? ⟨gb1039, 1, none⟩ = some (.string a1_1) := (blk_cell BK1039.out 1).trans rfl; have hfz6_0 := blk_frozen BK1039.out 0; have hfz6_1 := blk_frozen BK1039.out 1) | (go_at_call 99; (with_reducible refine (fraction_Sign.calls a1_0 a1_1 t1040 _ A3.out).mono ?_); rintro e w7 ⟨rfl, hb⟩; have n0_ := Aside0.mk (blk_below (g := gb1039) (o := .cells #[.string a1_0, .string a1_1] 38 (0, 0)) (by (with_reducible repeat (first | refine blk_drewN ?_ _ | refine blk_drew ?_ | refine blk_alloc ?_ _)); exact BK1039.out) hb); have n1_ := Aside0.mk (below_step (by repeat (first | (with_reducible first | exact HB.out | apply below_alloc | apply pw_below_drewN | apply below_drew1 | refine below_set ?_ GE1039.out) | exact HB.out)) hb); clear BK1039; clear HB; have BK1039 := n0_; have HB := n1_; clear n0_ n1_; (try clear hb); (try clear hb2); (try clear hk); (try clear hi))))
  go_ret2
  exact ⟨(.slice none 0 0), by first | rfl | (simp [errW_none, errW_some] <;> rfl) | (simp [*, errW_none, errW_some] <;> rfl), by first | exact Kd.R_nil _ _ _ _ _ | exact Kd.N_nil _ _ _ _ _ | exact Kd.V_nil _ _ _ _ _ | exact Kd.Q_nil _ _ _ _ _ | exact Kd.S_nil _ _ _ _ _, by repeat (first | (with_reducible first | exact HB.out | apply below_alloc | apply pw_below_drewN | apply below_drew1 | refine below_set ?_ GE1039.out) | exact HB.out)⟩
 ·rw [if_neg c4] at H
  have c4b0 : decide (t1040 ≤ 0) = false := decide_eq_false c4
  clear c4
  by_cases c8 : 0 ≤ (l0.length : Int)
  ·rw [if_pos c8] at H
   have c8b0 := eq_true c8
   have c8b1 : decide (0 ≤ (l0.length : Int)) = true := decide_eq_true c8
   clear c8
   by_cases c9 : ((l0.length : Int) : Int).toNat ≤ 35184372088832
   ·rw [if_pos c9] at H
    have c9b0 := eq_true c9
    have c9b1 : decide (((l0.length : Int) : Int).toNat ≤ 35184372088832) = true := decide_eq_true c9
    clear c9
    obtain ⟨y1041, hy1041⟩ : ∃ y_ : List Int, y_ = (List.replicate ((l0.length : Int) : Int).toNat 0) := ⟨_, rfl⟩
    replace H : (prime_factor.l0 k y1041 a1_0 a1_1 l0 (l0.length : Int) 0) = some (r1, r2) := by first | (rw [hy1041]; with_reducible exact H) | (have H2_ := (Option.bind_some _ _).symm.trans H; rw [hy1041]; with_reducible exact H2_) | (have H2_ := (Option.bind_some _ _).symm.trans H; with_reducible exact H2_) | with_reducible exact H | (rw [hy1041]; exact H) | exact H
    have Ny1041 := Aside0.mk hy1041
    clear hy1041
    have H' := Aside0.mk H
    clear H
    go_enter Tryz.func138, Tryz.ntmps138
    go_wp2_with (first | ((with_reducible refine gate_dst (N := 3) rfl ?_); refine box_event ?hg (N := 3) ?hd (cs := #[.string a1_0, .string a1_1]) (t := 38) ?hr ?_; (case hd => rfl); (case hg => rfl); (case hr => first | (go_simp; done) | (go_simp; rfl)); intro gb1039 hg w10 hbox hb; have n0_ := Aside0.mk (below_step (by repeat (first | (with_reducible first | exact HB.out | apply below_alloc | apply pw_below_drewN | apply below_drew1) | exact HB.out)) hb); have n1_ := Aside0.mk (hbox); have n2_ := Aside0.mk ((by rw [hg]; exact (below_size (by repeat (first | (with_reducible first | exact HB.out | apply below_alloc | apply pw_below_drewN | apply below_drew1) | exact HB.out))) : w.heap.size ≤ gb1039)); have n3_ := Aside0.mk ((by rw [hg]; exact (below_size (by repeat (first | (with_reducible first | exact HB.out | apply below_alloc | apply pw_below_drewN | apply below_drew1) | exact HB.out))) : w.heap.size ≤ gb1039)); clear HB; have HB := n0_; have BK1039 := n1_; have GW1039 := n2_; have GE1039 := n3_; clear n0_ n1_ n2_ n3_; clear hb hbox hg; have hcz11_0 : w10.cell? ⟨gb1039, 0, none⟩ = some (.string a1_0) := (blk_cell BK1039.out 0).trans rfl; have hcz11_1 : w10.cell? ⟨gb1039, 1, none⟩ = some (.string a1_1) := (blk_cell BK1039.out 1).trans rfl; have hfz11_0 := blk_frozen BK1039.out 0; have hfz11_1 := blk_frozen BK1039.out 1) | (go_at_call 99; (with_reducible refine (fraction_Sign.calls a1_0 a1_1 t1040 _ A3.out).mono ?_); rintro e w12 ⟨rfl, hb⟩; have n0_ := Aside0.mk (blk_below (g := gb1039) (o := .cells #[.string a1_0, .string a1_1] 38 (0, 0)) (by (with_reducible repeat (first | refine blk_drewN ?_ _ | refine blk_drew ?_ | refine blk_alloc ?_ _)); exact BK1039.out) hb); have n1_ := Aside0.mk (below_step (by repeat (first | (with_reducible first | exact HB.out | apply below_alloc | apply pw_below_drewN | apply below_drew1 | refine below_set ?_ GE1039.out) | exact HB.out)) hb); clear BK1039; clear HB; have BK1039 := n0_; have HB := n1_; clear n0_ n1_; (try clear hb); (try clear hb2); (try clear hk); (try clear hi)) | ((with_reducible refine gate_dst (N := 18) rfl ?_); refine Kd.R_make (Kd.int .i64) _ 3 rfl (N := 18) rfl 24 _ _ rfl (l0.length : Int) rfl rfl Tryz.underlying24 (.int .i64 0) 8 info3 rfl (by decide) (by omega) 0 (ok := fun _ => True) (okp := fun _ => True) rfl (fun _ hk => hk) trivial (of_decide_eq_true (by first | (with_reducible assumption) | assumption)) (Nat.le_trans (Nat.mul_le_mul_right _ (of_decide_eq_true (by first | (with_reducible assumption) | assumption) : (l0.length : Int).toNat ≤ 35184372088832)) (by omega)) (Below.refl _ _) (Nat.le_refl _) ?_; intro v1042 w13 ho14 hb hg_ hnew_; clear hg_ hnew_; (first | rw [← Ny1041.out] at ho14 | (simp only [Int.reduceToNat] at ho14; rw [← Ny1041.out] at ho14)); have n0_ := Aside0.mk (Kd.R_lower ho14 (below_size (by repeat (first | (with_reducible first | exact HB.out | apply below_alloc | apply pw_below_drewN | apply below_drew1 | refine below_set ?_ GE1039.out) | exact HB.out)))); have n1_ := Aside0.mk (blk_below (g := gb1039) (o := .cells #[.string a1_0, .string a1_1] 38 (0, 0)) (by (with_reducible repeat (first | refine blk_drewN ?_ _ | refine blk_drew ?_ | refine blk_alloc ?_ _)); exact BK1039.out) hb); have n2_ := Aside0.mk (below_step (by repeat (first | (with_reducible first | exact HB.out | apply below_alloc | apply pw_below_drewN | apply below_drew1 | refine below_set ?_ GE1039.out) | exact HB.out)) hb); clear BK1039; clear HB; have HO1043 := n0_; have BK1039 := n1_; have HB := n2_; clear n0_ n1_ n2_; clear hb ho14; have hcz15_0 : w13.cell? ⟨gb1039, 0, none⟩ = some (.string a1_0) := (blk_cell BK1039.out 0).trans rfl; have hcz15_1 : w13.cell? ⟨gb1039, 1, none⟩ = some (.string a1_1) := (blk_cell BK1039.out 1).trans rfl; have hfz15_0 := blk_frozen BK1039.out 0; have hfz15_1 := blk_frozen BK1039.out 1))
    repeat (go_quiet (first | ((with_reducible refine gate_dst (N := 3) rfl ?_); refine box_event ?hg (N := 3) ?hd (cs := #[.string a1_0, .string a1_1]) (t := 38) ?hr ?_; (case hd => rfl); (case hg => rfl); (case hr => first | (go_simp; done) | (go_simp; rfl)); intro gb1039 hg w10 hbox hb; have n0_ := Aside0.mk (below_step (by repeat (first | (with_reducible first | exact HB.out | apply below_alloc | apply pw_below_drewN | apply below_drew1) | exact HB.out)) hb); have n1_ := Aside0.mk (hbox); have n2_ := Aside0.mk ((by rw [hg]; exact (below_size (by repeat (first | (with_reducible first | exact HB.out | apply below_alloc | apply pw_below_drewN | apply below_drew1) | exact HB.out))) : w.heap.size ≤ gb1039)); have n3_ := Aside0.mk ((by rw [hg]; exact (below_size (by repeat (first | (with_reducible first | exact HB.out | apply below_alloc | apply pw_below_drewN | apply below_drew1) | exact HB.out))) : w.heap.size ≤ gb1039)); clear HB; have HB := n0_; have BK1039 := n1_; have GW1039 := n2_; have GE1039 := n3_; clear n0_ n1_ n2_ n3_; clear hb hbox hg; have hcz11_0 : w10.cell? ⟨gb1039, 0, none⟩ = some (.string a1_0) := (blk_cell BK1039.out 0).trans rfl; have hcz11_1 : w10.cell? ⟨gb1039, 1, none⟩ = some (.string a1_1) := (blk_cell BK1039.out 1).trans rfl; have hfz11_0 := blk_frozen BK1039.out 0; have hfz11_1 := blk_frozen BK1039.out 1) | (go_at_call 99; (with_reducible refine (fraction_Sign.calls a1_0 a1_1 t1040 _ A3.out).mono ?_); rintro e w12 ⟨rfl, hb⟩; have n0_ := Aside0.mk (blk_below (g := gb1039) (o := .cells #[.string a1_0, .string a1_1] 38 (0, 0)) (by (with_reducible repeat (first | refine blk_drewN ?_ _ | refine blk_drew ?_ | refine blk_alloc ?_ _)); exact BK1039.out) hb); have n1_ := Aside0.mk (below_step (by repeat (first | (with_reducible first | exact HB.out | apply below_alloc | apply pw_below_drewN | apply below_drew1 | refine below_set ?_ GE1039.out) | exact HB.out)) hb); clear BK1039; clear HB; have BK1039 := n0_; have HB := n1_; clear n0_ n1_; (try clear hb); (try clear hb2); (try clear hk); (try clear hi)) | ((with_reducible refine gate_dst (N := 18) rfl ?_); refine Kd.R_make (Kd.int .i64) _ 3 rfl (N := 18) rfl 24 _ _ rfl (l0.length : Int) rfl rfl Tryz.underlying24 (.int .i64 0) 8 info3 rfl (by decide) (by omega) 0 (ok := fun _ => True) (okp := fun _ => True) rfl (fun _ hk => hk) trivial (of_decide_eq_true (by first | (with_reducible assumption) | assumption)) (Nat.le_trans (Nat.mul_le_mul_right _ (of_decide_eq_true (by first | (with_reducible assumption) | assumption) : (l0.length : Int).toNat ≤ 35184372088832)) (by omega)) (Below.refl _ _) (Nat.le_refl _) ?_; intro v1042 w13 ho14 hb hg_ hnew_; clear hg_ hnew_; (first | rw [← Ny1041.out] at ho14 | (simp only [Int.reduceToNat] at ho14; rw [← Ny1041.out] at ho14)); have n0_ := Aside0.mk (Kd.R_lower ho14 (below_size (by repeat (first | (with_reducible first | exact HB.out | apply below_alloc | apply pw_below_drewN | apply below_drew1 | refine below_set ?_ GE1039.out) | exact HB.out)))); have n1_ := Aside0.mk (blk_below (g := gb1039) (o := .cells #[.string a1_0, .string a1_1] 38 (0, 0)) (by (with_reducible repeat (first | refine blk_drewN ?_ _ | refine blk_drew ?_ | refine blk_alloc ?_ _)); exact BK1039.out) hb); have n2_ := Aside0.mk (below_step (by repeat (first | (with_reducible first | exact HB.out | apply below_alloc | apply pw_below_drewN | apply below_drew1 | refine below_set ?_ GE1039.out) | exact HB.out)) hb); clear BK1039; clear HB; have HO1043 := n0_; have BK1039 := n1_; have HB := n2_; clear n0_ n1_ n2_; clear hb ho14; have hcz15_0 : w13.cell? ⟨gb1039, 0, none⟩ = some (.string a1_0) := (blk_cell BK1039.out 0).trans rfl; have hcz15_1 : w13.cell? ⟨gb1039, 1, none⟩ = some (.string a1_1) := (blk_cell BK1039.out 1).trans rfl; have hfz15_0 := blk_frozen BK1039.out 0; have hfz15_1 := blk_frozen BK1039.out 1)); try go_wp2_with (first | ((with_reducible refine gate_dst (N := 3) rfl ?_); refine box_event ?hg (N := 3) ?hd (cs := #[.string a1_0, .string a1_1]) (t := 38) ?hr ?_; (case hd => rfl); (case hg => rfl); (case hr => first | (go_simp; done) | (go_simp; rfl)); intro gb1039 hg w10 hbox hb; have n0_ := Aside0.mk (below_step (by repeat (first | (with_reducible first | exact HB.out | apply below_alloc | apply pw_below_drewN | apply below_drew1) | exact HB.out)) hb); have n1_ := Aside0.mk (hbox); have n2_ := Aside0.mk ((by rw [hg]; exact (below_size (by repeat (first | (with_reducible first | exact HB.out | apply below_alloc | apply pw_below_drewN | apply below_drew1) | exact HB.out))) : w.heap.size ≤ gb1039)); have n3_ := Aside0.mk ((by rw [hg]; exact (below_size (by repeat (first | (with_reducible first | exact HB.out | apply below_alloc | apply pw_below_drewN | apply below_drew1) | exact HB.out))) : w.heap.size ≤ gb1039)); clear HB; have HB := n0_; have BK1039 := n1_; have GW1039 := n2_; have GE1039 := n3_; clear n0_ n1_ n2_ n3_; clear hb hbox hg; have hcz11_0 : w10.cell? ⟨gb1039, 0, none⟩ = some (.string a1_0) := (blk_cell BK1039.out 0).trans rfl; have hcz11_1 : w10.cell? ⟨gb1039, 1, none⟩ = some (.string a1_1) := (blk_cell BK1039.out 1).trans rfl; have hfz11_0 := blk_frozen BK1039.out 0; have hfz11_1 := blk_frozen BK1039.out 1) | (go_at_call 99; (with_reducible refine (fraction_Sign.calls a1_0 a1_1 t1040 _ A3.out).mono ?_); rintro e w12 ⟨rfl, hb⟩; have n0_ := Aside0.mk (blk_below (g := gb1039) (o := .cells #[.string a1_0, .string a1_1] 38 (0, 0)) (by (with_reducible repeat (first | refine blk_drewN ?_ _ | refine blk_drew ?_ | refine blk_alloc ?_ _)); exact BK1039.out) hb); have n1_ := Aside0.mk (below_step (by repeat (first | (with_reducible first | exact HB.out | apply below_alloc | apply pw_below_drewN | apply below_drew1 | refine below_set ?_ GE1039.out) | exact HB.out)) hb); clear BK1039; clear HB; have BK1039 := n0_; have HB := n1_; clear n0_ n1_; (try clear hb); (try clear hb2); (try clear hk); (try clear hi)) | ((with_reducible refine gate_dst (N := 18) rfl ?_); refine Kd.R_make (Kd.int .i64) _ 3 rfl (N := 18) rfl 24 _ _ rfl (l0.length : Int) rfl rfl Tryz.underlying24 (.int .i64 0) 8 info3 rfl (by decide) (by omega) 0 (ok := fun _ => True) (okp := fun _ => True) rfl (fun _ hk => hk) trivial (of_decide_eq_true (by first | (with_reducible assumption) | assumption)) (Nat.le_trans (Nat.mul_le_mul_right _ (of_decide_eq_true (by first | (with_reducible assumption) | assumption) : (l0.length : Int).toNat ≤ 35184372088832)) (by omega)) (Below.refl _ _) (Nat.le_refl _) ?_; intro v1042 w13 ho14 hb hg_ hnew_; clear hg_ hnew_; (first | rw [← Ny1041.out] at ho14 | (simp only [Int.reduceToNat] at ho14; rw [← Ny1041.out] at ho14)); have n0_ := Aside0.mk (Kd.R_lower ho14 (below_size (by repeat (first | (with_reducible first | exact HB.out | apply below_alloc | apply pw_below_drewN | apply below_drew1 | refine below_set ?_ GE1039.out) | exact HB.out)))); have n1_ := Aside0.mk (blk_below (g := gb1039) (o := .cells #[.string a1_0, .string a1_1] 38 (0, 0)) (by (with_reducible repeat (first | refine blk_drewN ?_ _ | refine blk_drew ?_ | refine blk_alloc ?_ _)); exact BK1039.out) hb); have n2_ := Aside0.mk (below_step (by repeat (first | (with_reducible first | exact HB.out | apply below_alloc | apply pw_below_drewN | apply below_drew1 | refine below_set ?_ GE1039.out) | exact HB.out)) hb); clear BK1039; clear HB; have HO1043 := n0_; have BK1039 := n1_; have HB := n2_; clear n0_ n1_ n2_; clear hb ho14; have hcz15_0 : w13.cell? ⟨gb1039, 0, none⟩ = some (.string a1_0) := (blk_cell BK1039.out 0).trans rfl; have hcz15_1 : w13.cell? ⟨gb1039, 1, none⟩ = some (.string a1_1) := (blk_cell BK1039.out 1).trans rfl; have hfz15_0 := blk_frozen BK1039.out 0; have hfz15_1 := blk_frozen BK1039.out 1)))
    go_loopg [7, 8, 25] k (fun kq v7 v8 v25 w' => ∃ (x6_1 : List Int) (x7_1 : ByteArray) (x8_1 : ByteArray) (x25_1 : Int), v7 = .string x7_1 ∧ v8 = .string x8_1 ∧ v25 = .int .i64 x25_1 ∧ Aside0 (prime_factor.l0 kq x6_1 x7_1 x8_1 l0 (l0.length : Int) x25_1 = some (r1, r2)) ∧ Aside0 (kq ≤ k) ∧ Aside0 (Kd.R (Kd.int .i64) 3 w' w.heap.size (fun _ => True) v1042 x6_1) ∧ Aside0 (w'.heap[gb1039]? = some (.cells #[.string a1_0, .string a1_1] 38 (0, 0))) ∧ Aside0 (Below w.heap.size w w'))
    case atStart => exact ⟨(y1041), (a1_0), (a1_1), (0), (by first | rfl | (simp; done) | (simp [*]; done)), (by first | rfl | (simp; done) | (simp [*]; done)), (by first | rfl | (simp; done) | (simp [*]; done)), H', ⟨Nat.le_refl _⟩, ⟨by (with_reducible repeat (first | apply Kd.R_alloc | apply Kd.R_drewN | apply Kd.R_drew)); exact HO1043.out⟩, ⟨by (with_reducible repeat (first | refine blk_drewN ?_ _ | refine blk_drew ?_ | refine blk_alloc ?_ _)); exact BK1039.out⟩, ⟨by repeat (first | (with_reducible first | exact HB.out | apply below_alloc | apply pw_below_drewN | apply below_drew1 | refine below_set ?_ GE1039.out) | exact HB.out)⟩⟩
    case round =>
     clear H'
     try clear c1
     try clear p2
     try clear c4
     try clear c4b0
     try clear c8
     try clear c8b0
     try clear c8b1
     try clear c9
     try clear c9b0
     try clear c9b1
     try clear c13
     try clear hcz11_0
     try clear hcz11_1
     try clear hcz15_0
     try clear hcz15_1
     try clear hcz6_0
     try clear hcz6_1
     try clear hfz11_0
     try clear hfz11_1
     try clear hfz15_0
     try clear hfz15_1
     try clear hfz6_0
     try clear hfz6_1
     obtain ⟨x6_1, x7_1, x8_1, x25_1, rfl, rfl, rfl, HA, HK1, HO_6, BK1039, HB⟩ := hrel
     cases gk with
     | zero => exact absurd HA.out (by simp [prime_factor.l0])
     | succ k1 =>
      have H := HA.out
      clear HA
      simp only [prime_factor.l0] at H
      by_cases c16 : x25_1 < (l0.length : Int)
      ·rw [if_pos c16] at H
       have c16b0 : decide (x25_1 < (l0.length : Int)) = true := decide_eq_true c16
       clear c16
       by_cases c17 : 0 ≤ x25_1
       ·rw [if_pos c17] at H
        have c17b0 : decide (0 ≤ x25_1) = true := decide_eq_true c17
        clear c17
        by_cases c18 : x25_1 < (l0.length : Int)
        ·rw [if_pos c18] at H
         have c18b0 : decide (x25_1 < (l0.length : Int)) = true := decide_eq_true c18
         clear c18
         replace H := Option.bind_eq_some_iff.mp H
         obtain ⟨⟨t1045, t1046⟩, A190, H⟩ := H
         replace H : ((prime_divide.f k1 x8_1 (rd l0 x25_1)).bind fun bt1047 => (if x25_1 < (x6_1.length : Int) then (prime_factor.l0 k1 (x6_1.set (x25_1 : Int).toNat (wrap64 (t1046 - bt1047.2))) t1045 bt1047.1 l0 (l0.length : Int) (wrap64 (x25_1 + 1))) else (none))) = some (r1, r2) := H
         have A19 := Aside0.mk A190
         clear A190
         replace H := Option.bind_eq_some_iff.mp H
         obtain ⟨⟨t1047, t1048⟩, A200, H⟩ := H
         replace H : (if x25_1 < (x6_1.length : Int) then (prime_factor.l0 k1 (x6_1.set (x25_1 : Int).toNat (wrap64 (t1046 - t1048))) t1045 t1047 l0 (l0.length : Int) (wrap64 (x25_1 + 1))) else (none)) = some (r1, r2) := H
         have A20 := Aside0.mk A200
         clear A200
         by_cases c21 : x25_1 < (x6_1.length : Int)
         ·rw [if_pos c21] at H
          have c21b0 : decide (x25_1 < (x6_1.length : Int)) = true := decide_eq_true c21
          clear c21
          obtain ⟨y1049, hy1049⟩ : ∃ y_ : List Int, y_ = (x6_1.set (x25_1 : Int).toNat (wrap64 (t1046 - t1048))) := ⟨_, rfl⟩
          replace H : (prime_factor.l0 k1 y1049 t1045 t1047 l0 (l0.length : Int) (wrap64 (x25_1 + 1))) = some (r1, r2) := by first | (rw [hy1049]; with_reducible exact H) | (have H2_ := (Option.bind_some _ _).symm.trans H; rw [hy1049]; with_reducible exact H2_) | (have H2_ := (Option.bind_some _ _).symm.trans H; with_reducible exact H2_) | with_reducible exact H | (rw [hy1049]; exact H) | exact H
          have Ny1049 := Aside0.mk hy1049
          clear hy1049
          have H' := Aside0.mk H
          clear H
          have p1044 : 0 ≤ (x25_1 : Int) := of_decide_eq_true (by first | (with_reducible assumption) | assumption)
          have q1044 : x25_1 < (l0.length : Int) := of_decide_eq_true (by first | (with_reducible assumption) | assumption)
          obtain ⟨ad1044, e1044, hx1044_0⟩ := Kd.at_int HR0.out x25_1 p1044 q1044
          cases e1044
          replace hx1044_0 := (HB.out.cell (World.block_lt_of_cell? w _ hx1044_0)).trans hx1044_0
          replace p1044 := eq_true p1044
          replace q1044 := eq_true q1044
          go_wp2_with (first | (go_at_call 187; (with_reducible refine (prime_divide.calls k1 x7_1 (rd l0 x25_1) t1045 t1046 _ ?side1 A19.out).mono ?_); (case side1 => refine TabW.below hT ?_; repeat (first | (with_reducible first | exact HB.out | apply below_alloc | apply pw_below_drewN | apply below_drew1 | refine below_set ?_ GE1039.out) | exact HB.out)); rintro e w23 ⟨rfl, hb⟩; have n0_ := Aside0.mk (Kd.R_below (by (with_reducible repeat (first | apply Kd.R_alloc | apply Kd.R_drewN | apply Kd.R_drew)); exact HO_6.out) hb); have n1_ := Aside0.mk (blk_below (g := gb1039) (o := .cells #[.string a1_0, .string a1_1] 38 (0, 0)) (by (with_reducible repeat (first | refine blk_drewN ?_ _ | refine blk_drew ?_ | refine blk_alloc ?_ _)); exact BK1039.out) hb); have n2_ := Aside0.mk (below_step (by repeat (first | (with_reducible first | exact HB.out | apply below_alloc | apply pw_below_drewN | apply below_drew1 | refine below_set ?_ GE1039.out) | exact HB.out)) hb); clear HO_6; clear BK1039; clear HB; have HO_6 := n0_; have BK1039 := n1_; have HB := n2_; clear n0_ n1_ n2_; (try clear hb); (try clear hb2); (try clear hk); (try clear hi)) | (go_at_call 187; (with_reducible refine (prime_divide.calls k1 x8_1 (rd l0 x25_1) t1047 t1048 _ ?side1 A20.out).mono ?_); (case side1 => refine TabW.below hT ?_; repeat (first | (with_reducible first | exact HB.out | apply below_alloc | apply pw_below_drewN | apply below_drew1 | refine below_set ?_ GE1039.out) | exact HB.out)); rintro e w24 ⟨rfl, hb⟩; have n0_ := Aside0.mk (Kd.R_below (by (with_reducible repeat (first | apply Kd.R_alloc | apply Kd.R_drewN | apply Kd.R_drew)); exact HO_6.out) hb); have n1_ := Aside0.mk (blk_below (g := gb1039) (o := .cells #[.string a1_0, .string a1_1] 38 (0, 0)) (by (with_reducible repeat (first | refine blk_drewN ?_ _ | refine blk_drew ?_ | refine blk_alloc ?_ _)); exact BK1039.out) hb); have n2_ := Aside0.mk (below_step (by repeat (first | (with_reducible first | exact HB.out | apply below_alloc | apply pw_below_drewN | apply below_drew1 | refine below_set ?_ GE1039.out) | exact HB.out)) hb); clear HO_6; clear BK1039; clear HB; have HO_6 := n0_; have BK1039 := n1_; have HB := n2_; clear n0_ n1_ n2_; (try clear hb); (try clear hb2); (try clear hk); (try clear hi); have p22 : 0 ≤ (x25_1 : Int) := of_decide_eq_true (by first | (with_reducible assumption) | assumption); have q22 : (x25_1 : Int) < ((x6_1.length : Int) : Int) := of_decide_eq_true (by first | (with_reducible assumption) | assumption); obtain ⟨go22, co22, eo22, gb22, gl22, cl22, HG22⟩ := Kd.R_form HO_6.out (by omega); (first | cases eo22 | (injection eo22 with ea_ en_ ec_; (first | subst ea_ | (injection ea_ with ea_; subst ea_)); subst ec_; clear en_)); have GB22 := Aside0.mk gb22; have GG22 := Aside0.mk HG22; clear gb22 gl22 HG22; obtain ⟨hx22_0, hf22_0⟩ := Kd.R_celln 0 HO_6.out (x25_1 : Int) p22 q22; replace p22 := eq_true p22; replace q22 := eq_true q22; obtain ⟨hy25_, hz25_⟩ := Kd.R_celln 0 HO_6.out (x25_1 : Int) (of_decide_eq_true (by first | (with_reducible assumption) | assumption)) (of_decide_eq_true (by first | (with_reducible assumption) | assumption)); have HP25 := Kd.R_putg HO_6.out (x25_1 : Int) (wrap64 (t1046 - t1048))) | ((with_reducible refine gate_store (t := 3) (p := 47) rfl ?_); (try (rw [drewN_self w24]; generalize hq_ : World.drewN w24 _ = w24; have n0_ := Aside0.mk (Kd.R_at hq_ HO_6.out); have n1_ := Aside0.mk (blk_at hq_ BK1039.out); have n2_ := Aside0.mk (below_at hq_ HB.out); clear hq_ HO_6 BK1039 HB; have HO_6 := n0_; have BK1039 := n1_; have HB := n2_; clear n0_ n1_ n2_; (try (obtain ⟨hy25_, hz25_⟩ := Kd.R_celln 0 HO_6.out (x25_1 : Int) (of_decide_eq_true (by first | (with_reducible assumption) | assumption)) (of_decide_eq_true (by first | (with_reducible assumption) | assumption)))); (try (have HP25 := Kd.R_putg HO_6.out (x25_1 : Int) (wrap64 (t1046 - t1048)))))); refine store_event (t := 3) (p := 47) (v := ?vo_w26) (w1 := (w24.setCell ⟨go22, (x25_1 : Int).toNat, none⟩ (.int .i64 (wrap64 (t1046 - t1048))))) ?hg ?ho ?hn ?hr ?_; (case ho => rfl); (case hg => rfl); (case hn => rfl); (case hr => first | (go_simp; done) | (go_simp; rfl)); intro w26 hw; have hg : w24.grownBy w26 (some go22) := (by rw [hw]; exact HP25.2); have hp_ : Kd.R (Kd.int .i64) 3 w26 w.heap.size (fun _ => True) (.slice (some ⟨go22, 0, none⟩) x6_1.length co22) y1049 := (by rw [hw, Ny1049.out]; exact HP25.1); clear HP25; have n0_ := Aside0.mk (hp_); have n1_ := Aside0.mk (blk_grown (g := gb1039) (o := .cells #[.string a1_0, .string a1_1] 38 (0, 0)) (by (with_reducible repeat (first | refine blk_drewN ?_ _ | refine blk_drew ?_ | refine blk_alloc ?_ _)); exact BK1039.out) hg (Kd.R_ne HO_6.out BK1039.out (by decide))); have n2_ := Aside0.mk ((by rw [hw]; exact below_set (HB.out) GB22.out : Below w.heap.size w w26)); clear HO_6; clear BK1039; clear HB; have HO_6 := n0_; have BK1039 := n1_; have HB := n2_; clear n0_ n1_ n2_; clear hg hw hp_))
          repeat (go_quiet (first | (go_at_call 187; (with_reducible refine (prime_divide.calls k1 x7_1 (rd l0 x25_1) t1045 t1046 _ ?side1 A19.out).mono ?_); (case side1 => refine TabW.below hT ?_; repeat (first | (with_reducible first | exact HB.out | apply below_alloc | apply pw_below_drewN | apply below_drew1 | refine below_set ?_ GE1039.out) | exact HB.out)); rintro e w23 ⟨rfl, hb⟩; have n0_ := Aside0.mk (Kd.R_below (by (with_reducible repeat (first | apply Kd.R_alloc | apply Kd.R_drewN | apply Kd.R_drew)); exact HO_6.out) hb); have n1_ := Aside0.mk (blk_below (g := gb1039) (o := .cells #[.string a1_0, .string a1_1] 38 (0, 0)) (by (with_reducible repeat (first | refine blk_drewN ?_ _ | refine blk_drew ?_ | refine blk_alloc ?_ _)); exact BK1039.out) hb); have n2_ := Aside0.mk (below_step (by repeat (first | (with_reducible first | exact HB.out | apply below_alloc | apply pw_below_drewN | apply below_drew1 | refine below_set ?_ GE1039.out) | exact HB.out)) hb); clear HO_6; clear BK1039; clear HB; have HO_6 := n0_; have BK1039 := n1_; have HB := n2_; clear n0_ n1_ n2_; (try clear hb); (try clear hb2); (try clear hk); (try clear hi)) | (go_at_call 187; (with_reducible refine (prime_divide.calls k1 x8_1 (rd l0 x25_1) t1047 t1048 _ ?side1 A20.out).mono ?_); (case side1 => refine TabW.below hT ?_; repeat (first | (with_reducible first | exact HB.out | apply below_alloc | apply pw_below_drewN | apply below_drew1 | refine below_set ?_ GE1039.out) | exact HB.out)); rintro e w24 ⟨rfl, hb⟩; have n0_ := Aside0.mk (Kd.R_below (by (with_reducible repeat (first | apply Kd.R_alloc | apply Kd.R_drewN | apply Kd.R_drew)); exact HO_6.out) hb); have n1_ := Aside0.mk (blk_below (g := gb1039) (o := .cells #[.string a1_0, .string a1_1] 38 (0, 0)) (by (with_reducible repeat (first | refine blk_drewN ?_ _ | refine blk_drew ?_ | refine blk_alloc ?_ _)); exact BK1039.out) hb); have n2_ := Aside0.mk (below_step (by repeat (first | (with_reducible first | exact HB.out | apply below_alloc | apply pw_below_drewN | apply below_drew1 | refine below_set ?_ GE1039.out) | exact HB.out)) hb); clear HO_6; clear BK1039; clear HB; have HO_6 := n0_; have BK1039 := n1_; have HB := n2_; clear n0_ n1_ n2_; (try clear hb); (try clear hb2); (try clear hk); (try clear hi); have p22 : 0 ≤ (x25_1 : Int) := of_decide_eq_true (by first | (with_reducible assumption) | assumption); have q22 : (x25_1 : Int) < ((x6_1.length : Int) : Int) := of_decide_eq_true (by first | (with_reducible assumption) | assumption); obtain ⟨go22, co22, eo22, gb22, gl22, cl22, HG22⟩ := Kd.R_form HO_6.out (by omega); (first | cases eo22 | (injection eo22 with ea_ en_ ec_; (first | subst ea_ | (injection ea_ with ea_; subst ea_)); subst ec_; clear en_)); have GB22 := Aside0.mk gb22; have GG22 := Aside0.mk HG22; clear gb22 gl22 HG22; obtain ⟨hx22_0, hf22_0⟩ := Kd.R_celln 0 HO_6.out (x25_1 : Int) p22 q22; replace p22 := eq_true p22; replace q22 := eq_true q22; obtain ⟨hy25_, hz25_⟩ := Kd.R_celln 0 HO_6.out (x25_1 : Int) (of_decide_eq_true (by first | (with_reducible assumption) | assumption)) (of_decide_eq_true (by first | (with_reducible assumption) | assumption)); have HP25 := Kd.R_putg HO_6.out (x25_1 : Int) (wrap64 (t1046 - t1048))) | ((with_reducible refine gate_store (t := 3) (p := 47) rfl ?_); (try (rw [drewN_self w24]; generalize hq_ : World.drewN w24 _ = w24; have n0_ := Aside0.mk (Kd.R_at hq_ HO_6.out); have n1_ := Aside0.mk (blk_at hq_ BK1039.out); have n2_ := Aside0.mk (below_at hq_ HB.out); clear hq_ HO_6 BK1039 HB; have HO_6 := n0_; have BK1039 := n1_; have HB := n2_; clear n0_ n1_ n2_; (try (obtain ⟨hy25_, hz25_⟩ := Kd.R_celln 0 HO_6.out (x25_1 : Int) (of_decide_eq_true (by first | (with_reducible assumption) | assumption)) (of_decide_eq_true (by first | (with_reducible assumption) | assumption)))); (try (have HP25 := Kd.R_putg HO_6.out (x25_1 : Int) (wrap64 (t1046 - t1048)))))); refine store_event (t := 3) (p := 47) (v := ?vo_w26) (w1 := (w24.setCell ⟨go22, (x25_1 : Int).toNat, none⟩ (.int .i64 (wrap64 (t1046 - t1048))))) ?hg ?ho ?hn ?hr ?_; (case ho => rfl); (case hg => rfl); (case hn => rfl); (case hr => first | (go_simp; done) | (go_simp; rfl)); intro w26 hw; have hg : w24.grownBy w26 (some go22) := (by rw [hw]; exact HP25.2); have hp_ : Kd.R (Kd.int .i64) 3 w26 w.heap.size (fun _ => True) (.slice (some ⟨go22, 0, none⟩) x6_1.length co22) y1049 := (by rw [hw, Ny1049.out]; exact HP25.1); clear HP25; have n0_ := Aside0.mk (hp_); have n1_ := Aside0.mk (blk_grown (g := gb1039) (o := .cells #[.string a1_0, .string a1_1] 38 (0, 0)) (by (with_reducible repeat (first | refine blk_drewN ?_ _ | refine blk_drew ?_ | refine blk_alloc ?_ _)); exact BK1039.out) hg (Kd.R_ne HO_6.out BK1039.out (by decide))); have n2_ := Aside0.mk ((by rw [hw]; exact below_set (HB.out) GB22.out : Below w.heap.size w w26)); clear HO_6; clear BK1039; clear HB; have HO_6 := n0_; have BK1039 := n1_; have HB := n2_; clear n0_ n1_ n2_; clear hg hw hp_)); try go_wp2_with (first | (go_at_call 187; (with_reducible refine (prime_divide.calls k1 x7_1 (rd l0 x25_1) t1045 t1046 _ ?side1 A19.out).mono ?_); (case side1 => refine TabW.below hT ?_; repeat (first | (with_reducible first | exact HB.out | apply below_alloc | apply pw_below_drewN | apply below_drew1 | refine below_set ?_ GE1039.out) | exact HB.out)); rintro e w23 ⟨rfl, hb⟩; have n0_ := Aside0.mk (Kd.R_below (by (with_reducible repeat (first | apply Kd.R_alloc | apply Kd.R_drewN | apply Kd.R_drew)); exact HO_6.out) hb); have n1_ := Aside0.mk (blk_below (g := gb1039) (o := .cells #[.string a1_0, .string a1_1] 38 (0, 0)) (by (with_reducible repeat (first | refine blk_drewN ?_ _ | refine blk_drew ?_ | refine blk_alloc ?_ _)); exact BK1039.out) hb); have n2_ := Aside0.mk (below_step (by repeat (first | (with_reducible first | exact HB.out | apply below_alloc | apply pw_below_drewN | apply below_drew1 | refine below_set ?_ GE1039.out) | exact HB.out)) hb); clear HO_6; clear BK1039; clear HB; have HO_6 := n0_; have BK1039 := n1_; have HB := n2_; clear n0_ n1_ n2_; (try clear hb); (try clear hb2); (try clear hk); (try clear hi)) | (go_at_call 187; (with_reducible refine (prime_divide.calls k1 x8_1 (rd l0 x25_1) t1047 t1048 _ ?side1 A20.out).mono ?_); (case side1 => refine TabW.below hT ?_; repeat (first | (with_reducible first | exact HB.out | apply below_alloc | apply pw_below_drewN | apply below_drew1 | refine below_set ?_ GE1039.out) | exact HB.out)); rintro e w24 ⟨rfl, hb⟩; have n0_ := Aside0.mk (Kd.R_below (by (with_reducible repeat (first | apply Kd.R_alloc | apply Kd.R_drewN | apply Kd.R_drew)); exact HO_6.out) hb); have n1_ := Aside0.mk (blk_below (g := gb1039) (o := .cells #[.string a1_0, .string a1_1] 38 (0, 0)) (by (with_reducible repeat (first | refine blk_drewN ?_ _ | refine blk_drew ?_ | refine blk_alloc ?_ _)); exact BK1039.out) hb); have n2_ := Aside0.mk (below_step (by repeat (first | (with_reducible first | exact HB.out | apply below_alloc | apply pw_below_drewN | apply below_drew1 | refine below_set ?_ GE1039.out) | exact HB.out)) hb); clear HO_6; clear BK1039; clear HB; have HO_6 := n0_; have BK1039 := n1_; have HB := n2_; clear n0_ n1_ n2_; (try clear hb); (try clear hb2); (try clear hk); (try clear hi); have p22 : 0 ≤ (x25_1 : Int) := of_decide_eq_true (by first | (with_reducible assumption) | assumption); have q22 : (x25_1 : Int) < ((x6_1.length : Int) : Int) := of_decide_eq_true (by first | (with_reducible assumption) | assumption); obtain ⟨go22, co22, eo22, gb22, gl22, cl22, HG22⟩ := Kd.R_form HO_6.out (by omega); (first | cases eo22 | (injection eo22 with ea_ en_ ec_; (first | subst ea_ | (injection ea_ with ea_; subst ea_)); subst ec_; clear en_)); have GB22 := Aside0.mk gb22; have GG22 := Aside0.mk HG22; clear gb22 gl22 HG22; obtain ⟨hx22_0, hf22_0⟩ := Kd.R_celln 0 HO_6.out (x25_1 : Int) p22 q22; replace p22 := eq_true p22; replace q22 := eq_true q22; obtain ⟨hy25_, hz25_⟩ := Kd.R_celln 0 HO_6.out (x25_1 : Int) (of_decide_eq_true (by first | (with_reducible assumption) | assumption)) (of_decide_eq_true (by first | (with_reducible assumption) | assumption)); have HP25 := Kd.R_putg HO_6.out (x25_1 : Int) (wrap64 (t1046 - t1048))) | ((with_reducible refine gate_store (t := 3) (p := 47) rfl ?_); (try (rw [drewN_self w24]; generalize hq_ : World.drewN w24 _ = w24; have n0_ := Aside0.mk (Kd.R_at hq_ HO_6.out); have n1_ := Aside0.mk (blk_at hq_ BK1039.out); have n2_ := Aside0.mk (below_at hq_ HB.out); clear hq_ HO_6 BK1039 HB; have HO_6 := n0_; have BK1039 := n1_; have HB := n2_; clear n0_ n1_ n2_; (try (obtain ⟨hy25_, hz25_⟩ := Kd.R_celln 0 HO_6.out (x25_1 : Int) (of_decide_eq_true (by first | (with_reducible assumption) | assumption)) (of_decide_eq_true (by first | (with_reducible assumption) | assumption)))); (try (have HP25 := Kd.R_putg HO_6.out (x25_1 : Int) (wrap64 (t1046 - t1048)))))); refine store_event (t := 3) (p := 47) (v := ?vo_w26) (w1 := (w24.setCell ⟨go22, (x25_1 : Int).toNat, none⟩ (.int .i64 (wrap64 (t1046 - t1048))))) ?hg ?ho ?hn ?hr ?_; (case ho => rfl); (case hg => rfl); (case hn => rfl); (case hr => first | (go_simp; done) | (go_simp; rfl)); intro w26 hw; have hg : w24.grownBy w26 (some go22) := (by rw [hw]; exact HP25.2); have hp_ : Kd.R (Kd.int .i64) 3 w26 w.heap.size (fun _ => True) (.slice (some ⟨go22, 0, none⟩) x6_1.length co22) y1049 := (by rw [hw, Ny1049.out]; exact HP25.1); clear HP25; have n0_ := Aside0.mk (hp_); have n1_ := Aside0.mk (blk_grown (g := gb1039) (o := .cells #[.string a1_0, .string a1_1] 38 (0, 0)) (by (with_reducible repeat (first | refine blk_drewN ?_ _ | refine blk_drew ?_ | refine blk_alloc ?_ _)); exact BK1039.out) hg (Kd.R_ne HO_6.out BK1039.out (by decide))); have n2_ := Aside0.mk ((by rw [hw]; exact below_set (HB.out) GB22.out : Below w.heap.size w w26)); clear HO_6; clear BK1039; clear HB; have HO_6 := n0_; have BK1039 := n1_; have HB := n2_; clear n0_ n1_ n2_; clear hg hw hp_)))
          go_roundg k1
          case measure => have := HK1.out; omega
          case rel => exact ⟨(y1049), (t1045), (t1047), (wrap64 (x25_1 + 1)), (by first | rfl | (simp; done) | (simp [*]; done)), (by first | rfl | (simp; done) | (simp [*]; done)), (by first | rfl | (simp; done) | (simp [*]; done)), H', ⟨by have := HK1.out; omega⟩, ⟨by (with_reducible repeat (first | apply Kd.R_alloc | apply Kd.R_drewN | apply Kd.R_drew)); exact HO_6.out⟩, ⟨by (with_reducible repeat (first | refine blk_drewN ?_ _ | refine blk_drew ?_ | refine blk_alloc ?_ _)); exact BK1039.out⟩, ⟨by repeat (first | (with_reducible first | exact HB.out | apply below_alloc | apply pw_below_drewN | apply below_drew1 | refine below_set ?_ GE1039.out) | exact HB.out)⟩⟩
         ·rw [if_neg c21] at H
          exact absurd H (by simp)
        ·rw [if_neg c18] at H
         exact absurd H (by simp)
       ·rw [if_neg c17] at H
        exact absurd H (by simp)
      ·rw [if_neg c16] at H
       have c16b0 : decide (x25_1 < (l0.length : Int)) = false := decide_eq_false c16
       clear c16
       by_cases c27 : x7_1.toList = ([49] : List UInt8)
       ·rw [if_pos c27] at H
        have c27b0 : (x7_1.toList == ([49] : List UInt8)) = true := beq_iff_eq.mpr c27
        have c27b1 : (x7_1.toList != ([49] : List UInt8)) = false := bne_eq_false_iff_eq.mpr c27
        clear c27
        simp only [Option.some.injEq, Prod.mk.injEq] at H
        obtain ⟨rfl, rfl⟩ := H
        go_wp2
        repeat (go_quiet (fail); try go_wp2)
        go_ret2
        exact ⟨_, by first | rfl | (simp [errW_none, errW_some] <;> rfl) | (simp [*, errW_none, errW_some] <;> rfl), by (with_reducible repeat (first | apply Kd.R_alloc | apply Kd.R_drewN | apply Kd.R_drew)); exact HO_6.out, by repeat (first | (with_reducible first | exact HB.out | apply below_alloc | apply pw_below_drewN | apply below_drew1 | refine below_set ?_ GE1039.out) | exact HB.out)⟩
       ·rw [if_neg c27] at H
        have c27b0 : (x7_1.toList == ([49] : List UInt8)) = false := beq_eq_false_iff_ne.mpr c27
        have c27b1 : (x7_1.toList != ([49] : List UInt8)) = true := bne_iff_ne.mpr c27
        simp only [Option.some.injEq, Prod.mk.injEq] at H
        obtain ⟨rfl, rfl⟩ := H
        go_wp2
        repeat (go_quiet (fail); try go_wp2)
        go_ret2
        exact ⟨_, by first | rfl | (simp [errW_none, errW_some] <;> rfl) | (simp [*, errW_none, errW_some] <;> rfl), by (with_reducible repeat (first | apply Kd.R_alloc | apply Kd.R_drewN | apply Kd.R_drew)); exact HO_6.out, by repeat (first | (with_reducible first | exact HB.out | apply below_alloc | apply pw_below_drewN | apply below_drew1 | refine below_set ?_ GE1039.out) | exact HB.out)⟩
   ·rw [if_neg c9] at H
    exact absurd H (by simp)
  ·rw [if_neg c8] at H
   exact absurd H (by simp)
def prime_open.f (k : Nat) (l0 : List Int) (a1_0 : ByteArray) (a1_1 : ByteArray) : Option (Int) := (prime_Check.f k l0).bind fun t1033 => (if t1033 = 0 then ((fraction_Check.f k a1_0 a1_1).bind fun t1034 => (some t1034)) else (some t1033))
theorem prime_open.mono : ∀ a0 a1 a2 k, LeO (prime_open.f k a0 a1 a2) (prime_open.f (k + 1) a0 a1 a2) := by
 intro a0 a1 a2 k
 unfold prime_open.f
 repeat' first
   | (with_reducible exact fraction_Check.mono _ _ _)
   | (with_reducible exact prime_Check.mono _ _)
   | (with_reducible exact LeO.refl _)
   | (with_reducible exact LeO.none _)
   | (with_reducible refine LeO.ite ?_ ?_)
   | (with_reducible refine LeO.bind ?_ (fun _ => ?_))
   | exact fraction_Check.mono _ _ _
   | exact prime_Check.mono _ _
   | exact LeO.none _
   | refine LeO.ite ?_ ?_
   | refine LeO.bind ?_ (fun _ => ?_)
set_option maxHeartbeats 8000000 in
set_option maxRecDepth 100000 in
theorem prime_open.calls (k : Nat) (A0 : Option Addr) (c0 : Nat) (l0 : List Int) (a1_0 : ByteArray) (a1_1 : ByteArray) (r : Int) (w : World) (hT : TabW w) (hr0 : Kd.C (Kd.int .i64) w A0 l0.length l0) (hc0 : l0.length ≤ c0) (h : prime_open.f k l0 a1_0 a1_1 = some r) :
  Calls Tryz.prog 137 #[.slice A0 l0.length c0, .agg #[.string a1_0, .string a1_1]] w fun e w' => e = .returned (.int .i64 r) ∧ Below w.heap.size w w' := by
 have hu38 := Tryz.underlying38
 have HR0 := Aside0.mk hr0
 have HC0 := Aside0.mk hc0
 clear hr0 hc0
 have HB := Aside0.mk (Below.refl w.heap.size w)
 have H : ((prime_Check.f k l0).bind fun t1033 => (if t1033 = 0 then ((fraction_Check.f k a1_0 a1_1).bind fun t1034 => (some t1034)) else (some t1033))) = some r := h
 clear h
 replace H := Option.bind_eq_some_iff.mp H
 obtain ⟨t1033, A30, H⟩ := H
 replace H : (if t1033 = 0 then ((fraction_Check.f k a1_0 a1_1).bind fun t1034 => (some t1034)) else (some t1033)) = some r := H
 have A3 := Aside0.mk A30
 clear A30
 by_cases c4 : t1033 = 0
 ·rw [if_pos c4] at H
  have c4b0 : (t1033 == 0) = true := beq_iff_eq.mpr c4
  have c4b1 : (t1033 != 0) = false := bne_eq_false_iff_eq.mpr c4
  clear c4
  replace H := Option.bind_eq_some_iff.mp H
  obtain ⟨t1034, A50, H⟩ := H
  replace H : (some t1034) = some r := H
  have A5 := Aside0.mk A50
  clear A50
  obtain rfl := Option.some.inj H
  go_enter Tryz.func137, Tryz.ntmps137
  go_wp2_with (first | ((with_reducible refine gate_dst (N := 3) rfl ?_); refine box_event ?hg (N := 3) ?hd (cs := #[.string a1_0, .string a1_1]) (t := 38) ?hr ?_; (case hd => rfl); (case hg => rfl); (case hr => first | (go_simp; done) | (go_simp; rfl)); intro gb1032 hg w6 hbox hb; have n0_ := Aside0.mk (below_step (by repeat (first | (with_reducible first | exact HB.out | apply below_alloc | apply pw_below_drewN | apply below_drew1) | exact HB.out)) hb); have n1_ := Aside0.mk (hbox); have n2_ := Aside0.mk ((by rw [hg]; exact (below_size (by repeat (first | (with_reducible first | exact HB.out | apply below_alloc | apply pw_below_drewN | apply below_drew1) | exact HB.out))) : w.heap.size ≤ gb1032)); have n3_ := Aside0.mk ((by rw [hg]; exact (below_size (by repeat (first | (with_reducible first | exact HB.out | apply below_alloc | apply pw_below_drewN | apply below_drew1) | exact HB.out))) : w.heap.size ≤ gb1032)); clear HB; have HB := n0_; have BK1032 := n1_; have GW1032 := n2_; have GE1032 := n3_; clear n0_ n1_ n2_ n3_; clear hb hbox hg) | ((with_reducible refine gate_callee (f := 29) rfl ?_); refine goesL_ (some 7) rfl rfl Tryz.func29 (by kernel_rfl) rfl #[.slice A0 l0.length c0] rfl (by (try simp only [List.map_toArray, List.map_cons, List.map_nil]); first | done | rfl | (simp only [List.length_drop, List.length_take]; rfl)) ?_; (with_reducible refine (prime_Check.calls k _ _ l0 t1033 _ ?side1 ?side2 A3.out).mono ?_); (case side1 => repeat (first | exact (Kd.C_below HR0.out HB.out) | (with_reducible refine Kd.C_alloc ?_ _) | (with_reducible refine Kd.C_drewN ?_ _) | (with_reducible refine Kd.C_drew ?_))); (case side2 => exact HC0.out); rintro e w' ⟨rfl, ⟨nd, rfl⟩⟩; refine ⟨_, rfl, ?_⟩; have hcz7_0 : w6.cell? ⟨gb1032, 0, none⟩ = some (.string a1_0) := (blk_cell BK1032.out 0).trans rfl; have hcz7_1 : w6.cell? ⟨gb1032, 1, none⟩ = some (.string a1_1) := (blk_cell BK1032.out 1).trans rfl; have hfz7_0 := blk_frozen BK1032.out 0; have hfz7_1 := blk_frozen BK1032.out 1) | ((with_reducible refine gate_callee (f := 98) rfl ?_); refine goesL_ (some 12) rfl rfl Tryz.func98 (by kernel_rfl) rfl #[.agg #[.string a1_0, .string a1_1]] rfl (by (try simp only [List.map_toArray, List.map_cons, List.map_nil]); first | done | rfl | (simp only [List.length_drop, List.length_take]; rfl)) ?_; (with_reducible refine (fraction_Check.calls k a1_0 a1_1 t1034 _ ?side1 A5.out).mono ?_); (case side1 => refine TabW.below hT ?_; repeat (first | (with_reducible first | exact HB.out | apply below_alloc | apply pw_below_drewN | apply below_drew1 | refine below_set ?_ GE1032.out) | exact HB.out)); rintro e w8 ⟨rfl, hb⟩; refine ⟨_, rfl, ?_⟩; have n0_ := Aside0.mk (blk_below (g := gb1032) (o := .cells #[.string a1_0, .string a1_1] 38 (0, 0)) (by (with_reducible repeat (first | refine blk_drewN ?_ _ | refine blk_drew ?_ | refine blk_alloc ?_ _)); exact BK1032.out) hb); have n1_ := Aside0.mk (below_step (by repeat (first | (with_reducible first | exact HB.out | apply below_alloc | apply pw_below_drewN | apply below_drew1 | refine below_set ?_ GE1032.out) | exact HB.out)) hb); clear BK1032; clear HB; have BK1032 := n0_; have HB := n1_; clear n0_ n1_; (try clear hb); (try clear hb2); (try clear hk); (try clear hi)))
  go_ret
  exact ⟨by first | rfl | (simp [errW_none, errW_some] <;> rfl) | (simp [*, errW_none, errW_some] <;> rfl), by repeat (first | (with_reducible first | exact HB.out | apply below_alloc | apply pw_below_drewN | apply below_drew1 | refine below_set ?_ GE1032.out) | exact HB.out)⟩
 ·rw [if_neg c4] at H
  have c4b0 : (t1033 == 0) = false := beq_eq_false_iff_ne.mpr c4
  have c4b1 : (t1033 != 0) = true := bne_iff_ne.mpr c4
  obtain rfl := Option.some.inj H
  go_enter Tryz.func137, Tryz.ntmps137
  go_wp2_with (first | ((with_reducible refine gate_dst (N := 3) rfl ?_); refine box_event ?hg (N := 3) ?hd (cs := #[.string a1_0, .string a1_1]) (t := 38) ?hr ?_; (case hd => rfl); (case hg => rfl); (case hr => first | (go_simp; done) | (go_simp; rfl)); intro gb1032 hg w9 hbox hb; have n0_ := Aside0.mk (below_step (by repeat (first | (with_reducible first | exact HB.out | apply below_alloc | apply pw_below_drewN | apply below_drew1) | exact HB.out)) hb); have n1_ := Aside0.mk (hbox); have n2_ := Aside0.mk ((by rw [hg]; exact (below_size (by repeat (first | (with_reducible first | exact HB.out | apply below_alloc | apply pw_below_drewN | apply below_drew1) | exact HB.out))) : w.heap.size ≤ gb1032)); have n3_ := Aside0.mk ((by rw [hg]; exact (below_size (by repeat (first | (with_reducible first | exact HB.out | apply below_alloc | apply pw_below_drewN | apply below_drew1) | exact HB.out))) : w.heap.size ≤ gb1032)); clear HB; have HB := n0_; have BK1032 := n1_; have GW1032 := n2_; have GE1032 := n3_; clear n0_ n1_ n2_ n3_; clear hb hbox hg) | ((with_reducible refine gate_callee (f := 29) rfl ?_); refine goesL_ (some 7) rfl rfl Tryz.func29 (by kernel_rfl) rfl #[.slice A0 l0.length c0] rfl (by (try simp only [List.map_toArray, List.map_cons, List.map_nil]); first | done | rfl | (simp only [List.length_drop, List.length_take]; rfl)) ?_; (with_reducible refine (prime_Check.calls k _ _ l0 t1033 _ ?side1 ?side2 A3.out).mono ?_); (case side1 => repeat (first | exact (Kd.C_below HR0.out HB.out) | (with_reducible refine Kd.C_alloc ?_ _) | (with_reducible refine Kd.C_drewN ?_ _) | (with_reducible refine Kd.C_drew ?_))); (case side2 => exact HC0.out); rintro e w' ⟨rfl, ⟨nd, rfl⟩⟩; refine ⟨_, rfl, ?_⟩))
  go_ret
  exact ⟨by first | rfl | (simp [errW_none, errW_some] <;> rfl) | (simp [*, errW_none, errW_some] <;> rfl), by repeat (first | (with_reducible first | exact HB.out | apply below_alloc | apply pw_below_drewN | apply below_drew1 | refine below_set ?_ GE1032.out) | exact HB.out)⟩
end Go.Proofs.YtccebdpjdpjgnaaGreatDoor.P
end
section
namespace Go.Proofs.YtccebdpjdpjgnaaGreatDoor.P
open Go.RowKit Go.Proofs.YtccebdpjdpjgnaaGreatDoorW.PrintWords Go.Proofs.YtccebdpjdpjgnaaGreatDoorW.PrintLast Go.Proofs.YtccebdpjdpjgnaaGreatDoorW.PrintMore
def farEntry (x : Int) : Bool := decide (x > 1000) || decide (x < -1000)
theorem far_lit (x : Int) (w : World) : Calls Tryz.prog 188 #[.int .i64 x] w fun e w' => e = .returned (.bool (farEntry x)) ∧ ∃ q, w' = w.drewN q := by
 unfold farEntry
 go_enter Tryz.func188, Tryz.ntmps188
 go_wp2
 all_goals
  go_ret
  refine ⟨?_, 0, rfl⟩
  by_cases h1 : 1000 < x
  ·first | omega | simp [h1]
  ·by_cases h2 : x < -1000
   ·first | omega | simp [h1, h2]
   ·first | omega | simp [h1, h2]
theorem contains_lit (g : Nat) (pe : Int → Bool) (hg : ∀ (x : Int) (w : World), Calls Tryz.prog g #[.int .i64 x] w fun e w' => e = .returned (.bool (pe x)) ∧ ∃ q, w' = w.drewN q) (eg : ∀ args w, (callFunc g args).run Tryz.prog w = .ok (.enter g args) w)
  (A0 : Option Addr) (c0 : Nat) (l0 : List Int) (w : World) (hr0 : Kd.C (Kd.int .i64) w A0 l0.length l0) (hc0 : l0.length ≤ c0) :
  Calls Tryz.prog 130 #[.slice A0 l0.length c0, .func (.func g) #[] #[]] w fun e w' => e = .returned (.bool (l0.any pe)) ∧ Below w.heap.size w w' := by
 by_cases h0 : l0.length = 0
 ·obtain rfl := List.length_eq_zero_iff.1 h0
  refine (AnyE.slices_ContainsFunc_empty Tryz.lays130 A0 c0 (.func (.func g) #[] #[]) w).mono ?_
  rintro e w' ⟨rfl, rfl⟩
  exact ⟨rfl, Below.refl _ _⟩
 ·obtain ⟨b, o, rfl, hbk, hcells⟩ := C_flat hr0 (by omega)
  have := AnyE.slices_ContainsFunc Tryz.lays130 (α := Int) (Value.int .i64) pe g #[] eg b o l0.length c0 l0 w (fun W x _ => hg x W) (Nat.le_refl _) hr0.2.1 (fun j hj => by
   have := hcells j (l0[j]!) (by rw [List.getElem?_eq_getElem hj, getElem!_pos l0 j hj])
   exact this)
  rw [List.take_length] at this
  refine this.mono ?_
  rintro e w' ⟨rfl, q, rfl⟩
  exact ⟨rfl, pw_below_drewN (Below.refl _ _) q⟩
def prime_far.f (l0 : List Int) : Option Bool := some (l0.any farEntry)
theorem prime_far.calls (A0 : Option Addr) (c0 : Nat) (l0 : List Int) (r : Bool) (w : World) (hr0 : Kd.C (Kd.int .i64) w A0 l0.length l0) (hc0 : l0.length ≤ c0) (h : prime_far.f l0 = some r) :
  Calls Tryz.prog 139 #[.slice A0 l0.length c0] w fun e w' => e = .returned (.bool r) ∧ Below w.heap.size w w' := by
 have hcon := contains_lit 188 farEntry far_lit (enters_ Tryz.func188 rfl rfl) A0 c0 l0 w hr0 hc0
 unfold prime_far.f at h
 injection h with h
 subst h
 generalize l0.any farEntry = r at hcon ⊢
 clear hr0
 go_enter Tryz.func139, Tryz.ntmps139
 go_wp2_with fail
 refine hcon.mono ?_
 rintro e w1 ⟨rfl, hb1⟩
 go_wp2
 go_ret
 exact ⟨rfl, by repeat (first | (with_reducible first | exact hb1 | apply below_alloc | apply pw_below_drewN | apply below_drew1) | exact hb1)⟩
end Go.Proofs.YtccebdpjdpjgnaaGreatDoor.P
end
