/-
words of the walks
-/
import Derived.Test.YtccebdpjdpjgnaaGreatDoorBO06
set_option linter.unusedVariables false
set_option linter.unusedSimpArgs false
namespace Go.Proofs.YtccebdpjdpjgnaaGreatDoor.P
open Go.RowKit Go.Proofs.YtccebdpjdpjgnaaGreatDoorW.PrintWords Go.Proofs.YtccebdpjdpjgnaaGreatDoorW.PrintLast Go.Proofs.YtccebdpjdpjgnaaGreatDoorW.PrintMore
attribute [local go_sem] max2_int min2_int max_two min_two max_three min_three max_four min_four
set_option linter.unusedVariables false
set_option linter.unusedSimpArgs false
mutual
def schismalaw12_of.l0 : Nat → List Int → Int → Int → List Int → Int → Option (List Int × Int)
 | 0, _, _, _, _, _ => none
 | k + 1, x0, x1, x2, x8, x9 => if x9 < (x0.length : Int) then (schismalaw12_of.l1 k x0 x1 x2 x8 x9 0) else (if x1 = 1 then (if x2 = 1 then (some (x8, 0)) else (some (([] : List Int), 25))) else (some (([] : List Int), 25)))
def schismalaw12_of.l1 : Nat → List Int → Int → Int → List Int → Int → Int → Option (List Int × Int)
 | 0, _, _, _, _, _, _ => none
 | k + 1, x0, x1, x2, x8, x9, x10 => if 0 ≤ x9 then (if x9 < (x0.length : Int) then (if (rd x0 x9) = 0 then (none) else (if (Int.tmod x1 (rd x0 x9)) = 0 then (schismalaw12_of.l1 k x0 (wrap64 (Int.tdiv x1 (rd x0 x9))) x2 x8 x9 (wrap64 (x10 + 1))) else (schismalaw12_of.l2 k x0 x1 x2 x8 x9 x10))) else (none)) else (none)
def schismalaw12_of.l2 : Nat → List Int → Int → Int → List Int → Int → Int → Option (List Int × Int)
 | 0, _, _, _, _, _, _ => none
 | k + 1, x0, x1, x2, x8, x9, x10 => if 0 ≤ x9 then (if x9 < (x0.length : Int) then (if (rd x0 x9) = 0 then (none) else (if (Int.tmod x2 (rd x0 x9)) = 0 then (schismalaw12_of.l2 k x0 x1 (wrap64 (Int.tdiv x2 (rd x0 x9))) x8 x9 (wrap64 (x10 - 1))) else (if x8.length < 17592186044416 then (schismalaw12_of.l0 k x0 x1 x2 (x8 ++ [x10]) (wrap64 (x9 + 1))) else (none)))) else (none)) else (none)
end
def schismalaw12_of.f (k : Nat) (l0 : List Int) (a1 : Int) (a2 : Int) : Option (List Int × Int) := if a1 ≤ 0 then (some (([] : List Int), 3)) else (schismalaw12_of.l0 k l0 a1 a2 ([] : List Int) 0)
theorem schismalaw12_of.mono_l : ∀ k, (∀ y0 y1 y2 y3 y4, LeO (schismalaw12_of.l0 k y0 y1 y2 y3 y4) (schismalaw12_of.l0 (k + 1) y0 y1 y2 y3 y4)) ∧ (∀ y0 y1 y2 y3 y4 y5, LeO (schismalaw12_of.l1 k y0 y1 y2 y3 y4 y5) (schismalaw12_of.l1 (k + 1) y0 y1 y2 y3 y4 y5)) ∧ (∀ y0 y1 y2 y3 y4 y5, LeO (schismalaw12_of.l2 k y0 y1 y2 y3 y4 y5) (schismalaw12_of.l2 (k + 1) y0 y1 y2 y3 y4 y5))
 | 0 => ⟨fun _ _ _ _ _ r h => by simp [schismalaw12_of.l0] at h, fun _ _ _ _ _ _ r h => by simp [schismalaw12_of.l1] at h, fun _ _ _ _ _ _ r h => by simp [schismalaw12_of.l2] at h⟩
 | k + 1 => by
  obtain ⟨ih0, ih1, ih2⟩ := schismalaw12_of.mono_l k
  refine ⟨?_, ?_, ?_⟩
  ·intro y0 y1 y2 y3 y4
   unfold schismalaw12_of.l0
   repeat' first
   | (with_reducible exact ih0 _ _ _ _ _)
   | (with_reducible exact ih1 _ _ _ _ _ _)
   | (with_reducible exact ih2 _ _ _ _ _ _)
   | (with_reducible exact LeO.refl _)
   | (with_reducible exact LeO.none _)
   | (with_reducible refine LeO.ite ?_ ?_)
   | (with_reducible refine LeO.bind ?_ (fun _ => ?_))
   | exact ih0 _ _ _ _ _
   | exact ih1 _ _ _ _ _ _
   | exact ih2 _ _ _ _ _ _
   | exact LeO.none _
   | refine LeO.ite ?_ ?_
   | refine LeO.bind ?_ (fun _ => ?_)
  ·intro y0 y1 y2 y3 y4 y5
   unfold schismalaw12_of.l1
   repeat' first
   | (with_reducible exact ih0 _ _ _ _ _)
   | (with_reducible exact ih1 _ _ _ _ _ _)
   | (with_reducible exact ih2 _ _ _ _ _ _)
   | (with_reducible exact LeO.refl _)
   | (with_reducible exact LeO.none _)
   | (with_reducible refine LeO.ite ?_ ?_)
   | (with_reducible refine LeO.bind ?_ (fun _ => ?_))
   | exact ih0 _ _ _ _ _
   | exact ih1 _ _ _ _ _ _
   | exact ih2 _ _ _ _ _ _
   | exact LeO.none _
   | refine LeO.ite ?_ ?_
   | refine LeO.bind ?_ (fun _ => ?_)
  ·intro y0 y1 y2 y3 y4 y5
   unfold schismalaw12_of.l2
   repeat' first
   | (with_reducible exact ih0 _ _ _ _ _)
   | (with_reducible exact ih1 _ _ _ _ _ _)
   | (with_reducible exact ih2 _ _ _ _ _ _)
   | (with_reducible exact LeO.refl _)
   | (with_reducible exact LeO.none _)
   | (with_reducible refine LeO.ite ?_ ?_)
   | (with_reducible refine LeO.bind ?_ (fun _ => ?_))
   | exact ih0 _ _ _ _ _
   | exact ih1 _ _ _ _ _ _
   | exact ih2 _ _ _ _ _ _
   | exact LeO.none _
   | refine LeO.ite ?_ ?_
   | refine LeO.bind ?_ (fun _ => ?_)
theorem schismalaw12_of.mono : ∀ a0 a1 a2 k, LeO (schismalaw12_of.f k a0 a1 a2) (schismalaw12_of.f (k + 1) a0 a1 a2) := by
 intro a0 a1 a2 k
 obtain ⟨ih0, ih1, ih2⟩ := schismalaw12_of.mono_l k
 unfold schismalaw12_of.f
 repeat' first
   | (with_reducible exact ih0 _ _ _ _ _)
   | (with_reducible exact ih1 _ _ _ _ _ _)
   | (with_reducible exact ih2 _ _ _ _ _ _)
   | (with_reducible exact LeO.refl _)
   | (with_reducible exact LeO.none _)
   | (with_reducible refine LeO.ite ?_ ?_)
   | (with_reducible refine LeO.bind ?_ (fun _ => ?_))
   | exact ih0 _ _ _ _ _
   | exact ih1 _ _ _ _ _ _
   | exact ih2 _ _ _ _ _ _
   | exact LeO.none _
   | refine LeO.ite ?_ ?_
   | refine LeO.bind ?_ (fun _ => ?_)
set_option maxHeartbeats 8000000 in
set_option maxRecDepth 100000 in
theorem schismalaw12_of.calls (k : Nat) (A0 : Option Addr) (c0 : Nat) (l0 : List Int) (a1 : Int) (a2 : Int) (r1 : List Int) (r2 : Int) (w : World) (hr0 : Kd.C (Kd.int .i64) w A0 l0.length l0) (hc0 : l0.length ≤ c0) (h : schismalaw12_of.f k l0 a1 a2 = some (r1, r2)) :
  Calls Tryz.prog 33 #[.slice A0 l0.length c0, .int .i64 a1, .int .i64 a2] w fun e w' => ∃ v0_ : Value, e = .returned (.tuple #[v0_, .int .i64 r2]) ∧ Kd.R (Kd.int .i64) 3 w' w.heap.size (fun _ => True) v0_ r1 ∧ Below w.heap.size w w' := by
 have HR0 := Aside0.mk hr0
 have HC0 := Aside0.mk hc0
 clear hr0 hc0
 have HB := Aside0.mk (Below.refl w.heap.size w)
 have H : (if a1 ≤ 0 then (some (([] : List Int), 3)) else (schismalaw12_of.l0 k l0 a1 a2 ([] : List Int) 0)) = some (r1, r2) := h
 clear h
 by_cases c4 : a1 ≤ 0
 ·rw [if_pos c4] at H
  have c4b0 : decide (a1 ≤ 0) = true := decide_eq_true c4
  clear c4
  simp only [Option.some.injEq, Prod.mk.injEq] at H
  obtain ⟨rfl, rfl⟩ := H
  go_enter Tryz.func33, Tryz.ntmps33
  go_wp2
  go_ret2
  exact ⟨(.slice none 0 0), by first | rfl | simp [*], by first | exact Kd.R_nil _ _ _ _ _ | exact Kd.N_nil _ _ _ _ _ | exact Kd.V_nil _ _ _ _ _ | exact Kd.Q_nil _ _ _ _ _ | exact Kd.S_nil _ _ _ _ _, by apply_rules [HB.out, below_alloc, pw_below_drewN, below_drew1]⟩
 ·rw [if_neg c4] at H
  have c4b0 : decide (a1 ≤ 0) = false := decide_eq_false c4
  clear c4
  have H' := Aside0.mk H
  clear H
  go_enter Tryz.func33, Tryz.ntmps33
  go_wp2
  go_loopg [1, 2, 8, 9] k (fun kq v1 v2 v8 v9 w' => ∃ (x1_1 : Int) (x2_1 : Int) (x8_1 : List Int) (x9_1 : Int), v1 = .int .i64 x1_1 ∧ v2 = .int .i64 x2_1 ∧ v9 = .int .i64 x9_1 ∧ Aside0 (schismalaw12_of.l0 kq l0 x1_1 x2_1 x8_1 x9_1 = some (r1, r2)) ∧ Aside0 (kq ≤ k) ∧ Aside0 (Kd.R (Kd.int .i64) 3 w' w.heap.size (fun _ => True) v8 x8_1) ∧ Aside0 (Below w.heap.size w w'))
  case atStart => exact ⟨(a1), (a2), (([] : List Int)), (0), (by first | rfl | (simp; done) | (simp [*]; done)), (by first | rfl | (simp; done) | (simp [*]; done)), (by first | rfl | (simp; done) | (simp [*]; done)), H', ⟨Nat.le_refl _⟩, ⟨by first | exact Kd.R_nil _ _ _ _ _ | exact Kd.N_nil _ _ _ _ _ | exact Kd.V_nil _ _ _ _ _ | exact Kd.Q_nil _ _ _ _ _ | exact Kd.S_nil _ _ _ _ _⟩, ⟨by apply_rules [HB.out, below_alloc, pw_below_drewN, below_drew1]⟩⟩
  case round =>
   clear H'
   obtain ⟨x1_1, x2_1, x8_1, x9_1, rfl, rfl, rfl, HA, HK1, HO_8, HB⟩ := hrel
   cases gk with
   | zero => exact absurd HA.out (by simp [schismalaw12_of.l0])
   | succ k1 =>
    have H := HA.out
    clear HA
    simp only [schismalaw12_of.l0] at H
    by_cases c5 : x9_1 < (l0.length : Int)
    ·rw [if_pos c5] at H
     have c5b0 : decide (x9_1 < (l0.length : Int)) = true := decide_eq_true c5
     clear c5
     have H' := Aside0.mk H
     clear H
     go_wp2
     go_loopg [1, 10] k1 (fun kq v1 v10 w' => ∃ (x1_2 : Int) (x10_2 : Int), v1 = .int .i64 x1_2 ∧ v10 = .int .i64 x10_2 ∧ Aside0 (schismalaw12_of.l1 kq l0 x1_2 x2_1 x8_1 x9_1 x10_2 = some (r1, r2)) ∧ Aside0 (kq ≤ k1) ∧ Aside0 (Kd.R (Kd.int .i64) 3 w' w.heap.size (fun _ => True) u8 x8_1) ∧ Aside0 (Below w.heap.size w w'))
     case atStart => exact ⟨(x1_1), (0), (by first | rfl | (simp; done) | (simp [*]; done)), (by first | rfl | (simp; done) | (simp [*]; done)), H', ⟨Nat.le_refl _⟩, ⟨by apply_rules [HO_8.out, Kd.R_alloc, Kd.R_drewN, Kd.R_drew]⟩, ⟨by apply_rules [HB.out, below_alloc, pw_below_drewN, below_drew1]⟩⟩
     case round =>
      clear H'
      obtain ⟨x1_2, x10_2, rfl, rfl, HA, HK2, HO_8, HB⟩ := hrel
      cases gk with
      | zero => exact absurd HA.out (by simp [schismalaw12_of.l1])
      | succ k2 =>
       have H := HA.out
       clear HA
       simp only [schismalaw12_of.l1] at H
       by_cases c6 : 0 ≤ x9_1
       ·rw [if_pos c6] at H
        have c6b0 : decide (0 ≤ x9_1) = true := decide_eq_true c6
        clear c6
        by_cases c7 : x9_1 < (l0.length : Int)
        ·rw [if_pos c7] at H
         have c7b0 : decide (x9_1 < (l0.length : Int)) = true := decide_eq_true c7
         clear c7
         by_cases c8 : (rd l0 x9_1) = 0
         ·rw [if_pos c8] at H
          exact absurd H (by simp)
         ·rw [if_neg c8] at H
          have c8b0 : ((rd l0 x9_1) == 0) = false := beq_eq_false_iff_ne.mpr c8
          have c8b1 : ((rd l0 x9_1) != 0) = true := bne_iff_ne.mpr c8
          by_cases c9 : (Int.tmod x1_2 (rd l0 x9_1)) = 0
          ·rw [if_pos c9] at H
           have c9b0 : ((Int.tmod x1_2 (rd l0 x9_1)) == 0) = true := beq_iff_eq.mpr c9
           have c9b1 : ((Int.tmod x1_2 (rd l0 x9_1)) != 0) = false := bne_eq_false_iff_eq.mpr c9
           clear c9
           have H' := Aside0.mk H
           clear H
           have p554 : 0 ≤ (x9_1 : Int) := of_decide_eq_true (by assumption)
           have q554 : x9_1 < (l0.length : Int) := of_decide_eq_true (by assumption)
           obtain ⟨ad554, e554, hx554_0⟩ := Kd.at_int HR0.out x9_1 p554 q554
           cases e554
           replace hx554_0 := (HB.out.cell (World.block_lt_of_cell? w _ hx554_0)).trans hx554_0
           replace p554 := eq_true p554
           replace q554 := eq_true q554
           have p555 : 0 ≤ (x9_1 : Int) := of_decide_eq_true (by assumption)
           have q555 : x9_1 < (l0.length : Int) := of_decide_eq_true (by assumption)
           obtain ⟨ad555, e555, hx555_0⟩ := Kd.at_int HR0.out x9_1 p555 q555
           obtain rfl : ad554 = ad555 := (by injection e555)
           replace hx555_0 := (HB.out.cell (World.block_lt_of_cell? w _ hx555_0)).trans hx555_0
           replace p555 := eq_true p555
           replace q555 := eq_true q555
           go_wp2
           go_roundg k2
           case measure => have := HK1.out; have := HK2.out; omega
           case rel => exact ⟨(wrap64 (Int.tdiv x1_2 (rd l0 x9_1))), (wrap64 (x10_2 + 1)), (by first | rfl | (simp; done) | (simp [*]; done)), (by first | rfl | (simp; done) | (simp [*]; done)), H', ⟨by have := HK1.out; have := HK2.out; omega⟩, ⟨by apply_rules [HO_8.out, Kd.R_alloc, Kd.R_drewN, Kd.R_drew]⟩, ⟨by apply_rules [HB.out, below_alloc, pw_below_drewN, below_drew1]⟩⟩
          ·rw [if_neg c9] at H
           have c9b0 : ((Int.tmod x1_2 (rd l0 x9_1)) == 0) = false := beq_eq_false_iff_ne.mpr c9
           have c9b1 : ((Int.tmod x1_2 (rd l0 x9_1)) != 0) = true := bne_iff_ne.mpr c9
           have H' := Aside0.mk H
           clear H
           have p554 : 0 ≤ (x9_1 : Int) := of_decide_eq_true (by assumption)
           have q554 : x9_1 < (l0.length : Int) := of_decide_eq_true (by assumption)
           obtain ⟨ad554, e554, hx554_0⟩ := Kd.at_int HR0.out x9_1 p554 q554
           cases e554
           replace hx554_0 := (HB.out.cell (World.block_lt_of_cell? w _ hx554_0)).trans hx554_0
           replace p554 := eq_true p554
           replace q554 := eq_true q554
           go_wp2
           go_loopg [2, 10] k2 (fun kq v2 v10 w' => ∃ (x2_3 : Int) (x10_3 : Int), v2 = .int .i64 x2_3 ∧ v10 = .int .i64 x10_3 ∧ Aside0 (schismalaw12_of.l2 kq l0 x1_2 x2_3 x8_1 x9_1 x10_3 = some (r1, r2)) ∧ Aside0 (kq ≤ k2) ∧ Aside0 (Kd.R (Kd.int .i64) 3 w' w.heap.size (fun _ => True) u8 x8_1) ∧ Aside0 (Below w.heap.size w w'))
           case atStart => exact ⟨(x2_1), (x10_2), (by first | rfl | (simp; done) | (simp [*]; done)), (by first | rfl | (simp; done) | (simp [*]; done)), H', ⟨Nat.le_refl _⟩, ⟨by apply_rules [HO_8.out, Kd.R_alloc, Kd.R_drewN, Kd.R_drew]⟩, ⟨by apply_rules [HB.out, below_alloc, pw_below_drewN, below_drew1]⟩⟩
           case round =>
            clear H'
            obtain ⟨x2_3, x10_3, rfl, rfl, HA, HK3, HO_8, HB⟩ := hrel
            cases gk with
            | zero => exact absurd HA.out (by simp [schismalaw12_of.l2])
            | succ k3 =>
             have H := HA.out
             clear HA
             simp only [schismalaw12_of.l2] at H
             by_cases c10 : 0 ≤ x9_1
             ·rw [if_pos c10] at H
              have c10b0 : decide (0 ≤ x9_1) = true := decide_eq_true c10
              clear c10
              by_cases c11 : x9_1 < (l0.length : Int)
              ·rw [if_pos c11] at H
               have c11b0 : decide (x9_1 < (l0.length : Int)) = true := decide_eq_true c11
               clear c11
               by_cases c12 : (rd l0 x9_1) = 0
               ·rw [if_pos c12] at H
                exact absurd H (by simp)
               ·rw [if_neg c12] at H
                have c12b0 : ((rd l0 x9_1) == 0) = false := beq_eq_false_iff_ne.mpr c12
                have c12b1 : ((rd l0 x9_1) != 0) = true := bne_iff_ne.mpr c12
                by_cases c13 : (Int.tmod x2_3 (rd l0 x9_1)) = 0
                ·rw [if_pos c13] at H
                 have c13b0 : ((Int.tmod x2_3 (rd l0 x9_1)) == 0) = true := beq_iff_eq.mpr c13
                 have c13b1 : ((Int.tmod x2_3 (rd l0 x9_1)) != 0) = false := bne_eq_false_iff_eq.mpr c13
                 clear c13
                 have H' := Aside0.mk H
                 clear H
                 have p556 : 0 ≤ (x9_1 : Int) := of_decide_eq_true (by assumption)
                 have q556 : x9_1 < (l0.length : Int) := of_decide_eq_true (by assumption)
                 obtain ⟨ad556, e556, hx556_0⟩ := Kd.at_int HR0.out x9_1 p556 q556
                 obtain rfl : ad554 = ad556 := (by injection e556)
                 replace hx556_0 := (HB.out.cell (World.block_lt_of_cell? w _ hx556_0)).trans hx556_0
                 replace p556 := eq_true p556
                 replace q556 := eq_true q556
                 have p557 : 0 ≤ (x9_1 : Int) := of_decide_eq_true (by assumption)
                 have q557 : x9_1 < (l0.length : Int) := of_decide_eq_true (by assumption)
                 obtain ⟨ad557, e557, hx557_0⟩ := Kd.at_int HR0.out x9_1 p557 q557
                 obtain rfl : ad554 = ad557 := (by injection e557)
                 replace hx557_0 := (HB.out.cell (World.block_lt_of_cell? w _ hx557_0)).trans hx557_0
                 replace p557 := eq_true p557
                 replace q557 := eq_true q557
                 go_wp2
                 go_roundg k3
                 case measure => have := HK1.out; have := HK2.out; have := HK3.out; omega
                 case rel => exact ⟨(wrap64 (Int.tdiv x2_3 (rd l0 x9_1))), (wrap64 (x10_3 - 1)), (by first | rfl | (simp; done) | (simp [*]; done)), (by first | rfl | (simp; done) | (simp [*]; done)), H', ⟨by have := HK1.out; have := HK2.out; have := HK3.out; omega⟩, ⟨by apply_rules [HO_8.out, Kd.R_alloc, Kd.R_drewN, Kd.R_drew]⟩, ⟨by apply_rules [HB.out, below_alloc, pw_below_drewN, below_drew1]⟩⟩
                ·rw [if_neg c13] at H
                 have c13b0 : ((Int.tmod x2_3 (rd l0 x9_1)) == 0) = false := beq_eq_false_iff_ne.mpr c13
                 have c13b1 : ((Int.tmod x2_3 (rd l0 x9_1)) != 0) = true := bne_iff_ne.mpr c13
                 by_cases c14 : x8_1.length < 17592186044416
                 ·rw [if_pos c14] at H
                  have LMc14 := Aside0.mk c14
                  clear c14
                  obtain ⟨y558, hy558⟩ : ∃ y_ : List Int, y_ = (x8_1 ++ [x10_3]) := ⟨_, rfl⟩
                  replace H : (schismalaw12_of.l0 k3 l0 x1_2 x2_3 y558 (wrap64 (x9_1 + 1))) = some (r1, r2) := by first | (rw [hy558]; with_reducible exact H) | (have H2_ := (Option.bind_some _ _).symm.trans H; rw [hy558]; with_reducible exact H2_) | (have H2_ := (Option.bind_some _ _).symm.trans H; with_reducible exact H2_) | with_reducible exact H | (rw [hy558]; exact H) | exact H
                  have Ny558 := Aside0.mk hy558
                  clear hy558
                  have H' := Aside0.mk H
                  clear H
                  have p556 : 0 ≤ (x9_1 : Int) := of_decide_eq_true (by assumption)
                  have q556 : x9_1 < (l0.length : Int) := of_decide_eq_true (by assumption)
                  obtain ⟨ad556, e556, hx556_0⟩ := Kd.at_int HR0.out x9_1 p556 q556
                  obtain rfl : ad554 = ad556 := (by injection e556)
                  replace hx556_0 := (HB.out.cell (World.block_lt_of_cell? w _ hx556_0)).trans hx556_0
                  replace p556 := eq_true p556
                  replace q556 := eq_true q556
                  go_wp2_with (first | ((with_reducible refine gate_builtin (b := .append) (xs := #[.tmp 49, .tmp 51]) rfl ?_); at_builtin; refine Kd.R_append (Kd.int .i64) (w0 := w) w.heap.size rfl (.tmp 49) (.tmp 51) 24 3 (.int .i64 0) 8 rfl Tryz.underlying24 info3 rfl (by decide) (by omega) u8 x8_1 x10_3 [.int .i64 x10_3] (fun _ => True) (fun _ => False) rfl rfl ?aP (fun _ hk => hk.elim) ?aF ?aO ?aB ?aS ?aL ?_; (case aP => exact rfl); (case aB => exact (by apply_rules [HB.out, below_alloc, pw_below_drewN, below_drew1])); (case aF => exact (fun _ _ => trivial)); (case aO => exact (by apply_rules [HO_8.out, Kd.R_alloc, Kd.R_drewN, Kd.R_drew])); (case aS => exact (below_size (by apply_rules [HB.out, below_alloc, pw_below_drewN, below_drew1]))); (case aL => have := LMc14.out; omega); intro v559 w15 ho hb hg hat; rw [← Ny558.out] at ho; replace HB := Aside0.mk (hb); have HO560 := Aside0.mk (ho); clear HO_8; clear ho hb hg hat))
                  go_roundg k3
                  case measure => have := HK1.out; have := HK2.out; have := HK3.out; omega
                  case rel => exact ⟨(x1_2), (x2_3), (y558), (wrap64 (x9_1 + 1)), (by first | rfl | (simp; done) | (simp [*]; done)), (by first | rfl | (simp; done) | (simp [*]; done)), (by first | rfl | (simp; done) | (simp [*]; done)), H', ⟨by have := HK1.out; have := HK2.out; have := HK3.out; omega⟩, ⟨by apply_rules [HO560.out, Kd.R_alloc, Kd.R_drewN, Kd.R_drew]⟩, ⟨by apply_rules [HB.out, below_alloc, pw_below_drewN, below_drew1]⟩⟩
                 ·rw [if_neg c14] at H
                  exact absurd H (by simp)
              ·rw [if_neg c11] at H
               exact absurd H (by simp)
             ·rw [if_neg c10] at H
              exact absurd H (by simp)
        ·rw [if_neg c7] at H
         exact absurd H (by simp)
       ·rw [if_neg c6] at H
        exact absurd H (by simp)
    ·rw [if_neg c5] at H
     have c5b0 : decide (x9_1 < (l0.length : Int)) = false := decide_eq_false c5
     clear c5
     by_cases c16 : x1_1 = 1
     ·rw [if_pos c16] at H
      have c16b0 : (x1_1 == 1) = true := beq_iff_eq.mpr c16
      have c16b1 : (x1_1 != 1) = false := bne_eq_false_iff_eq.mpr c16
      clear c16
      by_cases c17 : x2_1 = 1
      ·rw [if_pos c17] at H
       have c17b0 : (x2_1 == 1) = true := beq_iff_eq.mpr c17
       have c17b1 : (x2_1 != 1) = false := bne_eq_false_iff_eq.mpr c17
       clear c17
       simp only [Option.some.injEq, Prod.mk.injEq] at H
       obtain ⟨rfl, rfl⟩ := H
       go_wp2
       go_ret2
       exact ⟨_, by first | rfl | simp [*], by (with_reducible repeat (first | apply Kd.R_alloc | apply Kd.R_drewN | apply Kd.R_drew)); exact HO_8.out, by apply_rules [HB.out, below_alloc, pw_below_drewN, below_drew1]⟩
      ·rw [if_neg c17] at H
       have c17b0 : (x2_1 == 1) = false := beq_eq_false_iff_ne.mpr c17
       have c17b1 : (x2_1 != 1) = true := bne_iff_ne.mpr c17
       simp only [Option.some.injEq, Prod.mk.injEq] at H
       obtain ⟨rfl, rfl⟩ := H
       go_wp2
       go_ret2
       exact ⟨(.slice none 0 0), by first | rfl | simp [*], by first | exact Kd.R_nil _ _ _ _ _ | exact Kd.N_nil _ _ _ _ _ | exact Kd.V_nil _ _ _ _ _ | exact Kd.Q_nil _ _ _ _ _ | exact Kd.S_nil _ _ _ _ _, by apply_rules [HB.out, below_alloc, pw_below_drewN, below_drew1]⟩
     ·rw [if_neg c16] at H
      have c16b0 : (x1_1 == 1) = false := beq_eq_false_iff_ne.mpr c16
      have c16b1 : (x1_1 != 1) = true := bne_iff_ne.mpr c16
      simp only [Option.some.injEq, Prod.mk.injEq] at H
      obtain ⟨rfl, rfl⟩ := H
      go_wp2
      go_ret2
      exact ⟨(.slice none 0 0), by first | rfl | simp [*], by first | exact Kd.R_nil _ _ _ _ _ | exact Kd.N_nil _ _ _ _ _ | exact Kd.V_nil _ _ _ _ _ | exact Kd.Q_nil _ _ _ _ _ | exact Kd.S_nil _ _ _ _ _, by apply_rules [HB.out, below_alloc, pw_below_drewN, below_drew1]⟩
end Go.Proofs.YtccebdpjdpjgnaaGreatDoor.P
