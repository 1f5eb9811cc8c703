/-
parts of the walks and of the plain laws: Pschismalaw12Make Pschismalaw12MonzoChecks PEq0 Pschismalaw12MonzoFractions
-/
import Derived.Test.YtccebdpjdpjgnaaGreatDoorBL06
import Derived.Test.YtccebdpjdpjgnaaGreatDoorBL39
import Derived.Test.YtccebdpjdpjgnaaGreatDoorBL38
import Derived.Test.YtccebdpjdpjgnaaGreatDoorBL29
import Derived.Test.YtccebdpjdpjgnaaGreatDoorBL28
import Derived.Test.YtccebdpjdpjgnaaGreatDoorBL34
import Derived.Test.YtccebdpjdpjgnaaGreatDoorBL35
import Derived.Test.YtccebdpjdpjgnaaGreatDoorBL36
set_option linter.unusedVariables false
set_option linter.unusedSimpArgs false
section
namespace Go.Proofs.YtccebdpjdpjgnaaGreatDoor.P
open Go.RowKit Go.Proofs.YtccebdpjdpjgnaaGreatDoorW.PrintWords Go.Proofs.YtccebdpjdpjgnaaGreatDoorW.PrintLast Go.Proofs.YtccebdpjdpjgnaaGreatDoorW.PrintMore
attribute [local go_sem] max2_int min2_int max_two min_two max_three min_three max_four min_four
def schismalaw12_Make.f (k : Nat) (a0_0 : Int) (a0_1 : Int) (a0_2 : Int) (a0_3 : Int) (a0_4 : Int) : Option (List Int × List Int) := (schismalaw12_Primes.f a0_0).bind fun t580 => ((schismalaw12_Interval.f k t580 a0_1 a0_2 a0_3 a0_4).bind fun t583 => (some (t580, t583)))
theorem schismalaw12_Make.mono : ∀ a0 a1 a2 a3 a4 k, LeO (schismalaw12_Make.f k a0 a1 a2 a3 a4) (schismalaw12_Make.f (k + 1) a0 a1 a2 a3 a4) := by
 intro a0 a1 a2 a3 a4 k
 unfold schismalaw12_Make.f
 repeat' first
   | (with_reducible exact schismalaw12_Interval.mono _ _ _ _ _ _)
   | (with_reducible exact LeO.refl _)
   | (with_reducible exact LeO.none _)
   | (with_reducible refine LeO.ite ?_ ?_)
   | (with_reducible refine LeO.bind ?_ (fun _ => ?_))
set_option maxHeartbeats 8000000 in
set_option maxRecDepth 100000 in
theorem schismalaw12_Make.calls (k : Nat) (a0_0 : Int) (a0_1 : Int) (a0_2 : Int) (a0_3 : Int) (a0_4 : Int) (r1 : List Int) (r2 : List Int) (w : World) (h : schismalaw12_Make.f k a0_0 a0_1 a0_2 a0_3 a0_4 = some (r1, r2)) :
  Calls Tryz.prog 35 #[.agg #[.int .u8 a0_0, .int .i8 a0_1, .int .i8 a0_2, .int .i8 a0_3, .int .i8 a0_4]] w fun e w' => ∃ v0_ v1_ : Value, e = .returned (.tuple #[v0_, v1_]) ∧ Kd.V (Kd.int .i64) 3 w' w.heap.size (fun k_ => (w.heap.size ≤ k_) ∧ some k_ ≠ (v1_ : Value).ownBlock) v0_ r1 ∧ Kd.R (Kd.int .i64) 3 w' w.heap.size (fun k_ => (w.heap.size ≤ k_)) v1_ r2 ∧ Below w.heap.size w w' := by
 have hu50 := Tryz.underlying50
 have hu48 := Tryz.underlying48
 have HB := Aside0.mk (Below.refl w.heap.size w)
 have H : ((schismalaw12_Primes.f a0_0).bind fun t580 => ((schismalaw12_Interval.f k t580 a0_1 a0_2 a0_3 a0_4).bind fun t583 => (some (t580, t583)))) = some (r1, r2) := h
 clear h
 replace H := Option.bind_eq_some_iff.mp H
 obtain ⟨t580, A20, H⟩ := H
 try dsimp only at H
 have A2 := Aside0.mk A20
 clear A20
 replace H := Option.bind_eq_some_iff.mp H
 obtain ⟨t583, A30, H⟩ := H
 try dsimp only at H
 have A3 := Aside0.mk A30
 clear A30
 simp only [Option.some.injEq, Prod.mk.injEq] at H
 obtain ⟨rfl, rfl⟩ := H
 go_enter Tryz.func35, Tryz.ntmps35
 go_wp2_with (first | ((with_reducible refine gate_dst (N := 1) rfl ?_); refine box_event ?hg (N := 1) ?hd (cs := #[.int .u8 a0_0, .int .i8 a0_1, .int .i8 a0_2, .int .i8 a0_3, .int .i8 a0_4]) (t := 50) ?hr ?_; (case hd => rfl); (case hg => rfl); (case hr => go_simp; try rfl); intro gb579 hg w4 hbox hb; have n0_ := Aside0.mk (below_step (by apply_rules [HB.out, below_alloc, pw_below_drewN, below_drew1]) hb); have n1_ := Aside0.mk (hbox); have n2_ := Aside0.mk ((by rw [hg]; exact (below_size (by apply_rules [HB.out, below_alloc, pw_below_drewN, below_drew1])) : w.heap.size ≤ gb579)); have n3_ := Aside0.mk ((by rw [hg]; exact (below_size (by apply_rules [HB.out, below_alloc, pw_below_drewN, below_drew1])) : w.heap.size ≤ gb579)); clear HB; have HB := n0_; have BK579 := n1_; have GW579 := n2_; have GE579 := n3_; clear n0_ n1_ n2_ n3_; clear hb hbox hg; have hcz5_0 : w4.cell? ⟨gb579, 0, none⟩ = some (.int .u8 a0_0) := (blk_cell BK579.out 0).trans rfl; have hcz5_1 : w4.cell? ⟨gb579, 1, none⟩ = some (.int .i8 a0_1) := (blk_cell BK579.out 1).trans rfl; have hcz5_2 : w4.cell? ⟨gb579, 2, none⟩ = some (.int .i8 a0_2) := (blk_cell BK579.out 2).trans rfl; have hcz5_3 : w4.cell? ⟨gb579, 3, none⟩ = some (.int .i8 a0_3) := (blk_cell BK579.out 3).trans rfl; have hcz5_4 : w4.cell? ⟨gb579, 4, none⟩ = some (.int .i8 a0_4) := (blk_cell BK579.out 4).trans rfl; have hfz5_0 := blk_frozen BK579.out 0; have hfz5_1 := blk_frozen BK579.out 1; have hfz5_2 := blk_frozen BK579.out 2; have hfz5_3 := blk_frozen BK579.out 3; have hfz5_4 := blk_frozen BK579.out 4) | ((with_reducible refine gate_callee (f := 30) rfl ?_); refine goesK (some 7) Tryz.func30 [.int .u8 a0_0] rfl rfl ?_; (with_reducible refine (schismalaw12_Primes.calls a0_0 t580 _ A2.out).mono ?_); rintro e w6 ⟨v581, rfl, ho0, hb⟩; refine ⟨_, rfl, ?_⟩; have HO582 := Aside0.mk (Kd.V_lower (Kd.V_mono (ok' := fun k_ => (w.heap.size ≤ k_) ∧ k_ ≠ gb579) ho0 (fun k_ hk_ => ⟨(Nat.le_trans (below_size (by apply_rules [HB.out, below_alloc, pw_below_drewN, below_drew1, below_set, GE579.out])) hk_), (Kd.freshB (g := gb579) (o := .cells #[.int .u8 a0_0, .int .i8 a0_1, .int .i8 a0_2, .int .i8 a0_3, .int .i8 a0_4] 50 (0, 0)) (by apply_rules [BK579.out, blk_drewN, blk_drew, blk_alloc]) k_ hk_)⟩)) (below_size (by apply_rules [HB.out, below_alloc, pw_below_drewN, below_drew1, below_set, GE579.out]))); replace BK579 := Aside0.mk (blk_below (g := gb579) (o := .cells #[.int .u8 a0_0, .int .i8 a0_1, .int .i8 a0_2, .int .i8 a0_3, .int .i8 a0_4] 50 (0, 0)) (by apply_rules [BK579.out, blk_drewN, blk_drew, blk_alloc]) hb); replace HB := Aside0.mk (below_step (by apply_rules [HB.out, below_alloc, pw_below_drewN, below_drew1, below_set, GE579.out]) hb); (try clear hb); (try clear ho0); have hcz7_0 : w6.cell? ⟨gb579, 0, none⟩ = some (.int .u8 a0_0) := (blk_cell BK579.out 0).trans rfl; have hcz7_1 : w6.cell? ⟨gb579, 1, none⟩ = some (.int .i8 a0_1) := (blk_cell BK579.out 1).trans rfl; have hcz7_2 : w6.cell? ⟨gb579, 2, none⟩ = some (.int .i8 a0_2) := (blk_cell BK579.out 2).trans rfl; have hcz7_3 : w6.cell? ⟨gb579, 3, none⟩ = some (.int .i8 a0_3) := (blk_cell BK579.out 3).trans rfl; have hcz7_4 : w6.cell? ⟨gb579, 4, none⟩ = some (.int .i8 a0_4) := (blk_cell BK579.out 4).trans rfl; have hfz7_0 := blk_frozen BK579.out 0; have hfz7_1 := blk_frozen BK579.out 1; have hfz7_2 := blk_frozen BK579.out 2; have hfz7_3 := blk_frozen BK579.out 3; have hfz7_4 := blk_frozen BK579.out 4; obtain ⟨Ao8, co8, eo8⟩ := Kd.V_slice HO582.out; subst eo8) | ((with_reducible refine gate_callee (f := 46) rfl ?_); refine goesK (some 12) Tryz.func46 [.slice Ao8 t580.length co8, .agg #[.int .i8 a0_1, .int .i8 a0_2, .int .i8 a0_3, .int .i8 a0_4]] rfl rfl ?_; (with_reducible refine (schismalaw12_Interval.calls k _ _ t580 a0_1 a0_2 a0_3 a0_4 t583 _ ?side1 ?side2 A3.out).mono ?_); (case side1 => apply_rules [(Kd.V_reads' HO582.out).2.2, Kd.C_alloc, Kd.C_drewN, Kd.C_drew]); (case side2 => exact (Kd.V_reads' HO582.out).2.1); rintro e w9 ⟨v584, rfl, ho0, hb⟩; refine ⟨_, rfl, ?_⟩; replace HO582 := Aside0.mk (Kd.V_elder' (by apply_rules [HO582.out, Kd.V_alloc, Kd.V_drewN, Kd.V_drew]) (Kd.R_base ho0) hb); have HO585 := Aside0.mk (Kd.R_lower (Kd.R_newM (M := fun k_ => (w.heap.size ≤ k_)) ho0 (below_size (by apply_rules [HB.out, below_alloc, pw_below_drewN, below_drew1, below_set, GE579.out])) (fun k_ h_ => h_)) (below_size (by apply_rules [HB.out, below_alloc, pw_below_drewN, below_drew1, below_set, GE579.out]))); replace BK579 := Aside0.mk (blk_below (g := gb579) (o := .cells #[.int .u8 a0_0, .int .i8 a0_1, .int .i8 a0_2, .int .i8 a0_3, .int .i8 a0_4] 50 (0, 0)) (by apply_rules [BK579.out, blk_drewN, blk_drew, blk_alloc]) hb); replace HB := Aside0.mk (below_step (by apply_rules [HB.out, below_alloc, pw_below_drewN, below_drew1, below_set, GE579.out]) hb); (try clear hb); (try clear ho0)))
 go_ret2
 exact ⟨_, _, by first | rfl | simp [*], by (with_reducible repeat (first | apply Kd.V_alloc | apply Kd.V_drewN | apply Kd.V_drew)); exact Kd.V_mono HO582.out (fun _ hk => ⟨hk.1.1, hk.2⟩), by (with_reducible repeat (first | apply Kd.R_alloc | apply Kd.R_drewN | apply Kd.R_drew)); exact Kd.R_mono HO585.out (fun _ hk => hk.1), by apply_rules [HB.out, below_alloc, pw_below_drewN, below_drew1, below_set, GE579.out]⟩
end Go.Proofs.YtccebdpjdpjgnaaGreatDoor.P
end
section
namespace Go.Proofs.YtccebdpjdpjgnaaGreatDoor.P
open Go.RowKit Go.Proofs.YtccebdpjdpjgnaaGreatDoorW.PrintWords Go.Proofs.YtccebdpjdpjgnaaGreatDoorW.PrintLast Go.Proofs.YtccebdpjdpjgnaaGreatDoorW.PrintMore
attribute [local go_sem] max2_int min2_int max_two min_two max_three min_three max_four min_four
mutual
def schismalaw12_MonzoChecks.j0 : Nat → List Int → List Int → List Int → Bool → Option (Bool)
 | 0, _, _, _, _ => none
 | k + 1, x0, x1, x2, x25 => if x25 = true then ((schismalaw12_known.f k).bind fun t500 => (some t500)) else ((schismalaw12_check.f k x0 x1).bind fun t501 => (if t501 = 0 then ((schismalaw12_check.f k x0 x2).bind fun t502 => (schismalaw12_MonzoChecks.j1 k x0 x1 x2 t501 t502)) else (schismalaw12_MonzoChecks.j1 k x0 x1 x2 t501 t501)))
def schismalaw12_MonzoChecks.j1 : Nat → List Int → List Int → List Int → Int → Int → Option (Bool)
 | 0, _, _, _, _, _ => none
 | k + 1, x0, x1, x2, x7, x8 => (monzo_Brackets.f k x0 x1).bind fun bt503 => (if x7 = 0 then (schismalaw12_MonzoChecks.j2 k x0 x1 x2 x7 x8 bt503.1 bt503.2 false) else (if bt503.1.toList = ([] : List UInt8) then (schismalaw12_MonzoChecks.j2 k x0 x1 x2 x7 x8 bt503.1 bt503.2 (bt503.2 != x7)) else (schismalaw12_MonzoChecks.j2 k x0 x1 x2 x7 x8 bt503.1 bt503.2 true)))
def schismalaw12_MonzoChecks.j2 : Nat → List Int → List Int → List Int → Int → Int → ByteArray → Int → Bool → Option (Bool)
 | 0, _, _, _, _, _, _, _, _ => none
 | k + 1, x0, x1, x2, x7, x8, x9, x10, x52 => if x52 = true then (some false) else (if x7 = 0 then ((row_Text.f k x1 true).bind fun bt505 => (if x9.toList = bt505.1.toList then (if x10 = 0 then (if bt505.2 = 0 then (schismalaw12_MonzoChecks.j3 k x0 x1 x2 x7 x8) else (some false)) else (some false)) else (some false))) else (schismalaw12_MonzoChecks.j3 k x0 x1 x2 x7 x8))
def schismalaw12_MonzoChecks.j3 : Nat → List Int → List Int → List Int → Int → Int → Option (Bool)
 | 0, _, _, _, _, _ => none
 | k + 1, x0, x1, x2, x7, x8 => (monzo_Check.f k x0 x1).bind fun t507 => (if t507 = x7 then ((monzo_CheckAll.f k x0 (([x1, x2] : List (List Int)))).bind fun t511 => (if t511 = x8 then ((monzo_CheckAll.f k x0 ([] : List (List Int))).bind fun t512 => ((prime_Check.f k x0).bind fun t513 => (some (t512 == t513)))) else (some false))) else (some false))
end
def schismalaw12_MonzoChecks.f (k : Nat) (l0 : List Int) (l1 : List Int) (l2 : List Int) : Option (Bool) := (schismalaw12_known.f k).bind fun t498 => (if t498 = true then ((schismalaw12_few.f l0 l1).bind fun t499 => (if t499 = true then (schismalaw12_MonzoChecks.j0 k l0 l1 l2 (decide ((l2.length : Int) > 8))) else (schismalaw12_MonzoChecks.j0 k l0 l1 l2 true))) else (schismalaw12_MonzoChecks.j0 k l0 l1 l2 true))
theorem schismalaw12_MonzoChecks.mono_l : ∀ k, (∀ y0 y1 y2 y3, LeO (schismalaw12_MonzoChecks.j0 k y0 y1 y2 y3) (schismalaw12_MonzoChecks.j0 (k + 1) y0 y1 y2 y3)) ∧ (∀ y0 y1 y2 y3 y4, LeO (schismalaw12_MonzoChecks.j1 k y0 y1 y2 y3 y4) (schismalaw12_MonzoChecks.j1 (k + 1) y0 y1 y2 y3 y4)) ∧ (∀ y0 y1 y2 y3 y4 y5 y6 y7, LeO (schismalaw12_MonzoChecks.j2 k y0 y1 y2 y3 y4 y5 y6 y7) (schismalaw12_MonzoChecks.j2 (k + 1) y0 y1 y2 y3 y4 y5 y6 y7)) ∧ (∀ y0 y1 y2 y3 y4, LeO (schismalaw12_MonzoChecks.j3 k y0 y1 y2 y3 y4) (schismalaw12_MonzoChecks.j3 (k + 1) y0 y1 y2 y3 y4))
 | 0 => ⟨fun _ _ _ _ r h => by simp [schismalaw12_MonzoChecks.j0] at h, fun _ _ _ _ _ r h => by simp [schismalaw12_MonzoChecks.j1] at h, fun _ _ _ _ _ _ _ _ r h => by simp [schismalaw12_MonzoChecks.j2] at h, fun _ _ _ _ _ r h => by simp [schismalaw12_MonzoChecks.j3] at h⟩
 | k + 1 => by
  obtain ⟨ih0, ih1, ih2, ih3⟩ := schismalaw12_MonzoChecks.mono_l k
  refine ⟨?_, ?_, ?_, ?_⟩
  ·intro y0 y1 y2 y3
   unfold schismalaw12_MonzoChecks.j0
   repeat' first
   | (with_reducible exact ih0 _ _ _ _)
   | (with_reducible exact ih1 _ _ _ _ _)
   | (with_reducible exact ih2 _ _ _ _ _ _ _ _)
   | (with_reducible exact ih3 _ _ _ _ _)
   | (with_reducible exact monzo_Brackets.mono _ _ _)
   | (with_reducible exact monzo_Check.mono _ _ _)
   | (with_reducible exact monzo_CheckAll.mono _ _ _)
   | (with_reducible exact prime_Check.mono _ _)
   | (with_reducible exact row_Text.mono _ _ _)
   | (with_reducible exact schismalaw12_check.mono _ _ _)
   | (with_reducible exact schismalaw12_known.mono _)
   | (with_reducible exact LeO.refl _)
   | (with_reducible exact LeO.none _)
   | (with_reducible refine LeO.ite ?_ ?_)
   | (with_reducible refine LeO.bind ?_ (fun _ => ?_))
  ·intro y0 y1 y2 y3 y4
   unfold schismalaw12_MonzoChecks.j1
   repeat' first
   | (with_reducible exact ih0 _ _ _ _)
   | (with_reducible exact ih1 _ _ _ _ _)
   | (with_reducible exact ih2 _ _ _ _ _ _ _ _)
   | (with_reducible exact ih3 _ _ _ _ _)
   | (with_reducible exact monzo_Brackets.mono _ _ _)
   | (with_reducible exact monzo_Check.mono _ _ _)
   | (with_reducible exact monzo_CheckAll.mono _ _ _)
   | (with_reducible exact prime_Check.mono _ _)
   | (with_reducible exact row_Text.mono _ _ _)
   | (with_reducible exact schismalaw12_check.mono _ _ _)
   | (with_reducible exact schismalaw12_known.mono _)
   | (with_reducible exact LeO.refl _)
   | (with_reducible exact LeO.none _)
   | (with_reducible refine LeO.ite ?_ ?_)
   | (with_reducible refine LeO.bind ?_ (fun _ => ?_))
  ·intro y0 y1 y2 y3 y4 y5 y6 y7
   unfold schismalaw12_MonzoChecks.j2
   repeat' first
   | (with_reducible exact ih0 _ _ _ _)
   | (with_reducible exact ih1 _ _ _ _ _)
   | (with_reducible exact ih2 _ _ _ _ _ _ _ _)
   | (with_reducible exact ih3 _ _ _ _ _)
   | (with_reducible exact monzo_Brackets.mono _ _ _)
   | (with_reducible exact monzo_Check.mono _ _ _)
   | (with_reducible exact monzo_CheckAll.mono _ _ _)
   | (with_reducible exact prime_Check.mono _ _)
   | (with_reducible exact row_Text.mono _ _ _)
   | (with_reducible exact schismalaw12_check.mono _ _ _)
   | (with_reducible exact schismalaw12_known.mono _)
   | (with_reducible exact LeO.refl _)
   | (with_reducible exact LeO.none _)
   | (with_reducible refine LeO.ite ?_ ?_)
   | (with_reducible refine LeO.bind ?_ (fun _ => ?_))
  ·intro y0 y1 y2 y3 y4
   unfold schismalaw12_MonzoChecks.j3
   repeat' first
   | (with_reducible exact ih0 _ _ _ _)
   | (with_reducible exact ih1 _ _ _ _ _)
   | (with_reducible exact ih2 _ _ _ _ _ _ _ _)
   | (with_reducible exact ih3 _ _ _ _ _)
   | (with_reducible exact monzo_Brackets.mono _ _ _)
   | (with_reducible exact monzo_Check.mono _ _ _)
   | (with_reducible exact monzo_CheckAll.mono _ _ _)
   | (with_reducible exact prime_Check.mono _ _)
   | (with_reducible exact row_Text.mono _ _ _)
   | (with_reducible exact schismalaw12_check.mono _ _ _)
   | (with_reducible exact schismalaw12_known.mono _)
   | (with_reducible exact LeO.refl _)
   | (with_reducible exact LeO.none _)
   | (with_reducible refine LeO.ite ?_ ?_)
   | (with_reducible refine LeO.bind ?_ (fun _ => ?_))
theorem schismalaw12_MonzoChecks.mono : ∀ a0 a1 a2 k, LeO (schismalaw12_MonzoChecks.f k a0 a1 a2) (schismalaw12_MonzoChecks.f (k + 1) a0 a1 a2) := by
 intro a0 a1 a2 k
 obtain ⟨ih0, ih1, ih2, ih3⟩ := schismalaw12_MonzoChecks.mono_l k
 unfold schismalaw12_MonzoChecks.f
 repeat' first
   | (with_reducible exact ih0 _ _ _ _)
   | (with_reducible exact ih1 _ _ _ _ _)
   | (with_reducible exact ih2 _ _ _ _ _ _ _ _)
   | (with_reducible exact ih3 _ _ _ _ _)
   | (with_reducible exact monzo_Brackets.mono _ _ _)
   | (with_reducible exact monzo_Check.mono _ _ _)
   | (with_reducible exact monzo_CheckAll.mono _ _ _)
   | (with_reducible exact prime_Check.mono _ _)
   | (with_reducible exact row_Text.mono _ _ _)
   | (with_reducible exact schismalaw12_check.mono _ _ _)
   | (with_reducible exact schismalaw12_known.mono _)
   | (with_reducible exact LeO.refl _)
   | (with_reducible exact LeO.none _)
   | (with_reducible refine LeO.ite ?_ ?_)
   | (with_reducible refine LeO.bind ?_ (fun _ => ?_))
end Go.Proofs.YtccebdpjdpjgnaaGreatDoor.P
end
section
namespace Go.Proofs.YtccebdpjdpjgnaaGreatDoor.P
open Go.RowKit Go.Proofs.YtccebdpjdpjgnaaGreatDoorW.PrintWords Go.Proofs.YtccebdpjdpjgnaaGreatDoorW.PrintLast Go.Proofs.YtccebdpjdpjgnaaGreatDoorW.PrintMore
attribute [local go_sem] max2_int min2_int max_two min_two max_three min_three max_four min_four
theorem eqA38 (d : Nat) (w : World) (x0 y0 : ByteArray) (x1 y1 : ByteArray) :
  (Op.equalIn (d + 2) 38 (.agg #[.string x0, .string x1]) (.agg #[.string y0, .string y1])).run Tryz.prog w = .ok (x0.toList == y0.toList && (x1.toList == y1.toList)) w := by
 refine eqA_of Tryz.underlying38 (by kernel_rfl) ?_
 refine eqf_cons (by rfl) (by go_simp; rfl) (by go_simp; rfl) (by go_simp) ?_
 exact eqf_last (by rfl) (by go_simp; rfl) (by go_simp; rfl) (by go_simp)
end Go.Proofs.YtccebdpjdpjgnaaGreatDoor.P
end
section
namespace Go.Proofs.YtccebdpjdpjgnaaGreatDoor.P
open Go.RowKit Go.Proofs.YtccebdpjdpjgnaaGreatDoorW.PrintWords Go.Proofs.YtccebdpjdpjgnaaGreatDoorW.PrintLast Go.Proofs.YtccebdpjdpjgnaaGreatDoorW.PrintMore
attribute [local go_sem] max2_int min2_int max_two min_two max_three min_three max_four min_four
attribute [local go_sem high] eqA38
def schismalaw12_MonzoFractions.f (k : Nat) (a0_0 : Int) (a0_1 : Int) (a0_2 : Int) (a0_3 : Int) (a0_4 : Int) : Option (Bool) := (schismalaw12_known.f k).bind fun t606 => (if t606 = true then ((schismalaw12_Make.f k a0_0 a0_1 a0_2 a0_3 a0_4).bind fun bt607 => ((schismalaw12_Value.f k bt607.1 bt607.2).bind fun bt613 => ((monzo_Fraction.f k bt607.1 bt607.2).bind fun bt615 => ((monzo_Text.f k bt607.1 bt607.2).bind fun bt619 => ((monzo_Of.f k bt607.1 bt615.1 bt615.2.1).bind fun bt621 => (if (bt615.1.toList == bt613.1.toList && (bt615.2.1.toList == bt613.2.toList)) = true then (if bt615.2.2 = 0 then ((fraction_Text.f bt615.1 bt615.2.1).bind fun t625 => (if bt619.1.toList = t625.toList then (if bt619.2 = 0 then ((schismalaw12_Same.f k bt607.2 bt621.1).bind fun t626 => (if t626 = true then (some (bt621.2 == 0)) else (some false))) else (some false)) else (some false))) else (some false)) else (some false))))))) else (some false))
theorem schismalaw12_MonzoFractions.mono : ∀ a0 a1 a2 a3 a4 k, LeO (schismalaw12_MonzoFractions.f k a0 a1 a2 a3 a4) (schismalaw12_MonzoFractions.f (k + 1) a0 a1 a2 a3 a4) := by
 intro a0 a1 a2 a3 a4 k
 unfold schismalaw12_MonzoFractions.f
 repeat' first
   | (with_reducible exact monzo_Fraction.mono _ _ _)
   | (with_reducible exact monzo_Of.mono _ _ _ _)
   | (with_reducible exact monzo_Text.mono _ _ _)
   | (with_reducible exact schismalaw12_Make.mono _ _ _ _ _ _)
   | (with_reducible exact schismalaw12_Same.mono _ _ _)
   | (with_reducible exact schismalaw12_Value.mono _ _ _)
   | (with_reducible exact schismalaw12_known.mono _)
   | (with_reducible exact LeO.refl _)
   | (with_reducible exact LeO.none _)
   | (with_reducible refine LeO.ite ?_ ?_)
   | (with_reducible refine LeO.bind ?_ (fun _ => ?_))
end Go.Proofs.YtccebdpjdpjgnaaGreatDoor.P
end
