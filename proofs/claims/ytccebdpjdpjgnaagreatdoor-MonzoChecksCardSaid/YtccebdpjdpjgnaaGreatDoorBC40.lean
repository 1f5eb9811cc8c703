/-
parts of the walks and of the plain laws: Pschismalaw12MonzoChecks PEq0
-/
import Derived.Test.YtccebdpjdpjgnaaGreatDoorBC06
import Derived.Test.YtccebdpjdpjgnaaGreatDoorBC29
import Derived.Test.YtccebdpjdpjgnaaGreatDoorBC28
import Derived.Test.YtccebdpjdpjgnaaGreatDoorBC39
import Derived.Test.YtccebdpjdpjgnaaGreatDoorBC30
set_option linter.unusedVariables false
set_option linter.unusedSimpArgs false
section
namespace Go.Proofs.YtccebdpjdpjgnaaGreatDoor.P
open Go.RowKit Go.Proofs.YtccebdpjdpjgnaaGreatDoorW.PrintWords Go.Proofs.YtccebdpjdpjgnaaGreatDoorW.PrintLast Go.Proofs.YtccebdpjdpjgnaaGreatDoorW.PrintMore
attribute [local go_sem] max2_int min2_int max_two min_two max_three min_three max_four min_four
mutual
def schismalaw12_MonzoChecks.j0 : Nat → List Int → List Int → List Int → Bool → Option (Bool)
 | 0, _, _, _, _ => none
 | k + 1, x0, x1, x2, x25 => if x25 = true then ((schismalaw12_known.f k).bind fun t500 => (some t500)) else ((schismalaw12_check.f k x0 x1).bind fun t501 => (if t501 = 0 then ((schismalaw12_check.f k x0 x2).bind fun t502 => (schismalaw12_MonzoChecks.j1 k x0 x1 x2 t501 t502)) else (schismalaw12_MonzoChecks.j1 k x0 x1 x2 t501 t501)))
def schismalaw12_MonzoChecks.j1 : Nat → List Int → List Int → List Int → Int → Int → Option (Bool)
 | 0, _, _, _, _, _ => none
 | k + 1, x0, x1, x2, x7, x8 => (monzo_Brackets.f k x0 x1).bind fun bt503 => (if x7 = 0 then (schismalaw12_MonzoChecks.j2 k x0 x1 x2 x7 x8 bt503.1 bt503.2 false) else (if bt503.1.toList = ([] : List UInt8) then (schismalaw12_MonzoChecks.j2 k x0 x1 x2 x7 x8 bt503.1 bt503.2 (bt503.2 != x7)) else (schismalaw12_MonzoChecks.j2 k x0 x1 x2 x7 x8 bt503.1 bt503.2 true)))
def schismalaw12_MonzoChecks.j2 : Nat → List Int → List Int → List Int → Int → Int → ByteArray → Int → Bool → Option (Bool)
 | 0, _, _, _, _, _, _, _, _ => none
 | k + 1, x0, x1, x2, x7, x8, x9, x10, x52 => if x52 = true then (some false) else (if x7 = 0 then ((row_Text.f k x1 true).bind fun bt505 => (if x9.toList = bt505.1.toList then (if x10 = 0 then (if bt505.2 = 0 then (schismalaw12_MonzoChecks.j3 k x0 x1 x2 x7 x8) else (some false)) else (some false)) else (some false))) else (schismalaw12_MonzoChecks.j3 k x0 x1 x2 x7 x8))
def schismalaw12_MonzoChecks.j3 : Nat → List Int → List Int → List Int → Int → Int → Option (Bool)
 | 0, _, _, _, _, _ => none
 | k + 1, x0, x1, x2, x7, x8 => (monzo_Check.f k x0 x1).bind fun t507 => (if t507 = x7 then ((monzo_CheckAll.f k x0 (([x1, x2] : List (List Int)))).bind fun t511 => (if t511 = x8 then ((monzo_CheckAll.f k x0 ([] : List (List Int))).bind fun t512 => ((prime_Check.f k x0).bind fun t513 => (some (t512 == t513)))) else (some false))) else (some false))
end
def schismalaw12_MonzoChecks.f (k : Nat) (l0 : List Int) (l1 : List Int) (l2 : List Int) : Option (Bool) := (schismalaw12_known.f k).bind fun t498 => (if t498 = true then ((schismalaw12_few.f l0 l1).bind fun t499 => (if t499 = true then (schismalaw12_MonzoChecks.j0 k l0 l1 l2 (decide ((l2.length : Int) > 8))) else (schismalaw12_MonzoChecks.j0 k l0 l1 l2 true))) else (schismalaw12_MonzoChecks.j0 k l0 l1 l2 true))
theorem schismalaw12_MonzoChecks.mono_l : ∀ k, (∀ y0 y1 y2 y3, LeO (schismalaw12_MonzoChecks.j0 k y0 y1 y2 y3) (schismalaw12_MonzoChecks.j0 (k + 1) y0 y1 y2 y3)) ∧ (∀ y0 y1 y2 y3 y4, LeO (schismalaw12_MonzoChecks.j1 k y0 y1 y2 y3 y4) (schismalaw12_MonzoChecks.j1 (k + 1) y0 y1 y2 y3 y4)) ∧ (∀ y0 y1 y2 y3 y4 y5 y6 y7, LeO (schismalaw12_MonzoChecks.j2 k y0 y1 y2 y3 y4 y5 y6 y7) (schismalaw12_MonzoChecks.j2 (k + 1) y0 y1 y2 y3 y4 y5 y6 y7)) ∧ (∀ y0 y1 y2 y3 y4, LeO (schismalaw12_MonzoChecks.j3 k y0 y1 y2 y3 y4) (schismalaw12_MonzoChecks.j3 (k + 1) y0 y1 y2 y3 y4))
 | 0 => ⟨fun _ _ _ _ r h => by simp [schismalaw12_MonzoChecks.j0] at h, fun _ _ _ _ _ r h => by simp [schismalaw12_MonzoChecks.j1] at h, fun _ _ _ _ _ _ _ _ r h => by simp [schismalaw12_MonzoChecks.j2] at h, fun _ _ _ _ _ r h => by simp [schismalaw12_MonzoChecks.j3] at h⟩
 | k + 1 => by
  obtain ⟨ih0, ih1, ih2, ih3⟩ := schismalaw12_MonzoChecks.mono_l k
  refine ⟨?_, ?_, ?_, ?_⟩
  ·intro y0 y1 y2 y3
   unfold schismalaw12_MonzoChecks.j0
   repeat' first
   | (with_reducible exact ih0 _ _ _ _)
   | (with_reducible exact ih1 _ _ _ _ _)
   | (with_reducible exact ih2 _ _ _ _ _ _ _ _)
   | (with_reducible exact ih3 _ _ _ _ _)
   | (with_reducible exact monzo_Brackets.mono _ _ _)
   | (with_reducible exact monzo_Check.mono _ _ _)
   | (with_reducible exact monzo_CheckAll.mono _ _ _)
   | (with_reducible exact prime_Check.mono _ _)
   | (with_reducible exact row_Text.mono _ _ _)
   | (with_reducible exact schismalaw12_check.mono _ _ _)
   | (with_reducible exact schismalaw12_known.mono _)
   | (with_reducible exact LeO.refl _)
   | (with_reducible exact LeO.none _)
   | (with_reducible refine LeO.ite ?_ ?_)
   | (with_reducible refine LeO.bind ?_ (fun _ => ?_))
   | exact ih0 _ _ _ _
   | exact ih1 _ _ _ _ _
   | exact ih2 _ _ _ _ _ _ _ _
   | exact ih3 _ _ _ _ _
   | exact monzo_Brackets.mono _ _ _
   | exact monzo_Check.mono _ _ _
   | exact monzo_CheckAll.mono _ _ _
   | exact prime_Check.mono _ _
   | exact row_Text.mono _ _ _
   | exact schismalaw12_check.mono _ _ _
   | exact schismalaw12_known.mono _
   | exact LeO.none _
   | refine LeO.ite ?_ ?_
   | refine LeO.bind ?_ (fun _ => ?_)
  ·intro y0 y1 y2 y3 y4
   unfold schismalaw12_MonzoChecks.j1
   repeat' first
   | (with_reducible exact ih0 _ _ _ _)
   | (with_reducible exact ih1 _ _ _ _ _)
   | (with_reducible exact ih2 _ _ _ _ _ _ _ _)
   | (with_reducible exact ih3 _ _ _ _ _)
   | (with_reducible exact monzo_Brackets.mono _ _ _)
   | (with_reducible exact monzo_Check.mono _ _ _)
   | (with_reducible exact monzo_CheckAll.mono _ _ _)
   | (with_reducible exact prime_Check.mono _ _)
   | (with_reducible exact row_Text.mono _ _ _)
   | (with_reducible exact schismalaw12_check.mono _ _ _)
   | (with_reducible exact schismalaw12_known.mono _)
   | (with_reducible exact LeO.refl _)
   | (with_reducible exact LeO.none _)
   | (with_reducible refine LeO.ite ?_ ?_)
   | (with_reducible refine LeO.bind ?_ (fun _ => ?_))
   | exact ih0 _ _ _ _
   | exact ih1 _ _ _ _ _
   | exact ih2 _ _ _ _ _ _ _ _
   | exact ih3 _ _ _ _ _
   | exact monzo_Brackets.mono _ _ _
   | exact monzo_Check.mono _ _ _
   | exact monzo_CheckAll.mono _ _ _
   | exact prime_Check.mono _ _
   | exact row_Text.mono _ _ _
   | exact schismalaw12_check.mono _ _ _
   | exact schismalaw12_known.mono _
   | exact LeO.none _
   | refine LeO.ite ?_ ?_
   | refine LeO.bind ?_ (fun _ => ?_)
  ·intro y0 y1 y2 y3 y4 y5 y6 y7
   unfold schismalaw12_MonzoChecks.j2
   repeat' first
   | (with_reducible exact ih0 _ _ _ _)
   | (with_reducible exact ih1 _ _ _ _ _)
   | (with_reducible exact ih2 _ _ _ _ _ _ _ _)
   | (with_reducible exact ih3 _ _ _ _ _)
   | (with_reducible exact monzo_Brackets.mono _ _ _)
   | (with_reducible exact monzo_Check.mono _ _ _)
   | (with_reducible exact monzo_CheckAll.mono _ _ _)
   | (with_reducible exact prime_Check.mono _ _)
   | (with_reducible exact row_Text.mono _ _ _)
   | (with_reducible exact schismalaw12_check.mono _ _ _)
   | (with_reducible exact schismalaw12_known.mono _)
   | (with_reducible exact LeO.refl _)
   | (with_reducible exact LeO.none _)
   | (with_reducible refine LeO.ite ?_ ?_)
   | (with_reducible refine LeO.bind ?_ (fun _ => ?_))
   | exact ih0 _ _ _ _
   | exact ih1 _ _ _ _ _
   | exact ih2 _ _ _ _ _ _ _ _
   | exact ih3 _ _ _ _ _
   | exact monzo_Brackets.mono _ _ _
   | exact monzo_Check.mono _ _ _
   | exact monzo_CheckAll.mono _ _ _
   | exact prime_Check.mono _ _
   | exact row_Text.mono _ _ _
   | exact schismalaw12_check.mono _ _ _
   | exact schismalaw12_known.mono _
   | exact LeO.none _
   | refine LeO.ite ?_ ?_
   | refine LeO.bind ?_ (fun _ => ?_)
  ·intro y0 y1 y2 y3 y4
   unfold schismalaw12_MonzoChecks.j3
   repeat' first
   | (with_reducible exact ih0 _ _ _ _)
   | (with_reducible exact ih1 _ _ _ _ _)
   | (with_reducible exact ih2 _ _ _ _ _ _ _ _)
   | (with_reducible exact ih3 _ _ _ _ _)
   | (with_reducible exact monzo_Brackets.mono _ _ _)
   | (with_reducible exact monzo_Check.mono _ _ _)
   | (with_reducible exact monzo_CheckAll.mono _ _ _)
   | (with_reducible exact prime_Check.mono _ _)
   | (with_reducible exact row_Text.mono _ _ _)
   | (with_reducible exact schismalaw12_check.mono _ _ _)
   | (with_reducible exact schismalaw12_known.mono _)
   | (with_reducible exact LeO.refl _)
   | (with_reducible exact LeO.none _)
   | (with_reducible refine LeO.ite ?_ ?_)
   | (with_reducible refine LeO.bind ?_ (fun _ => ?_))
   | exact ih0 _ _ _ _
   | exact ih1 _ _ _ _ _
   | exact ih2 _ _ _ _ _ _ _ _
   | exact ih3 _ _ _ _ _
   | exact monzo_Brackets.mono _ _ _
   | exact monzo_Check.mono _ _ _
   | exact monzo_CheckAll.mono _ _ _
   | exact prime_Check.mono _ _
   | exact row_Text.mono _ _ _
   | exact schismalaw12_check.mono _ _ _
   | exact schismalaw12_known.mono _
   | exact LeO.none _
   | refine LeO.ite ?_ ?_
   | refine LeO.bind ?_ (fun _ => ?_)
theorem schismalaw12_MonzoChecks.mono : ∀ a0 a1 a2 k, LeO (schismalaw12_MonzoChecks.f k a0 a1 a2) (schismalaw12_MonzoChecks.f (k + 1) a0 a1 a2) := by
 intro a0 a1 a2 k
 obtain ⟨ih0, ih1, ih2, ih3⟩ := schismalaw12_MonzoChecks.mono_l k
 unfold schismalaw12_MonzoChecks.f
 repeat' first
   | (with_reducible exact ih0 _ _ _ _)
   | (with_reducible exact ih1 _ _ _ _ _)
   | (with_reducible exact ih2 _ _ _ _ _ _ _ _)
   | (with_reducible exact ih3 _ _ _ _ _)
   | (with_reducible exact monzo_Brackets.mono _ _ _)
   | (with_reducible exact monzo_Check.mono _ _ _)
   | (with_reducible exact monzo_CheckAll.mono _ _ _)
   | (with_reducible exact prime_Check.mono _ _)
   | (with_reducible exact row_Text.mono _ _ _)
   | (with_reducible exact schismalaw12_check.mono _ _ _)
   | (with_reducible exact schismalaw12_known.mono _)
   | (with_reducible exact LeO.refl _)
   | (with_reducible exact LeO.none _)
   | (with_reducible refine LeO.ite ?_ ?_)
   | (with_reducible refine LeO.bind ?_ (fun _ => ?_))
   | exact ih0 _ _ _ _
   | exact ih1 _ _ _ _ _
   | exact ih2 _ _ _ _ _ _ _ _
   | exact ih3 _ _ _ _ _
   | exact monzo_Brackets.mono _ _ _
   | exact monzo_Check.mono _ _ _
   | exact monzo_CheckAll.mono _ _ _
   | exact prime_Check.mono _ _
   | exact row_Text.mono _ _ _
   | exact schismalaw12_check.mono _ _ _
   | exact schismalaw12_known.mono _
   | exact LeO.none _
   | refine LeO.ite ?_ ?_
   | refine LeO.bind ?_ (fun _ => ?_)
set_option maxHeartbeats 8000000 in
set_option maxRecDepth 100000 in
theorem schismalaw12_MonzoChecks.calls (k : Nat) (A0 : Option Addr) (c0 : Nat) (l0 : List Int) (P1_ : Nat → Prop) (A1 : Option Addr) (c1 : Nat) (l1 : List Int) (P2_ : Nat → Prop) (A2 : Option Addr) (c2 : Nat) (l2 : List Int) (r : Bool) (w : World) (hT : TabW w) (hr0 : Kd.C (Kd.int .i64) w A0 l0.length l0) (hc0 : l0.length ≤ c0) (hs1 : Kd.V (Kd.int .i64) 3 w w.heap.size (fun k_ => P1_ k_) (.slice A1 l1.length c1) l1) (hs2 : Kd.V (Kd.int .i64) 3 w w.heap.size (fun k_ => P2_ k_) (.slice A2 l2.length c2) l2) (h : schismalaw12_MonzoChecks.f k l0 l1 l2 = some r) (hr : r = true) (hk : ∀ k, schismalaw12_known.f k ≠ some false) :
  Calls Tryz.prog 3 #[.slice A0 l0.length c0, .slice A1 l1.length c1, .slice A2 l2.length c2] w fun e w' => e = .returned (.bool r) ∧ Below w.heap.size w w' := by
 have HR0 := Aside0.mk hr0
 have HC0 := Aside0.mk hc0
 clear hr0 hc0
 have HO1 := Aside0.mk (show Kd.V (Kd.int .i64) 3 w w.heap.size (fun k_ => ((P1_ k_ ∨ P2_ k_) ∨ w.heap.size ≤ k_)) (.slice A1 l1.length c1) l1 from Kd.V_mono hs1 (fun k_ hk => .inl (.inl hk)))
 have HO2 := Aside0.mk (show Kd.V (Kd.int .i64) 3 w w.heap.size (fun k_ => ((P1_ k_ ∨ P2_ k_) ∨ w.heap.size ≤ k_)) (.slice A2 l2.length c2) l2 from Kd.V_mono hs2 (fun k_ hk => .inl (.inr hk)))
 have HB := Aside0.mk (Below.refl w.heap.size w)
 have H : ((schismalaw12_known.f k).bind fun t498 => (if t498 = true then ((schismalaw12_few.f l0 l1).bind fun t499 => (if t499 = true then (schismalaw12_MonzoChecks.j0 k l0 l1 l2 (decide ((l2.length : Int) > 8))) else (schismalaw12_MonzoChecks.j0 k l0 l1 l2 true))) else (schismalaw12_MonzoChecks.j0 k l0 l1 l2 true))) = some r := h
 clear h
 have HC4 := Aside0.mk H
 clear H
 go_enter Tryz.func3, Tryz.ntmps3
 go_upto_region 1 with (fail)
 go_cut [25] (fun v25 wc => ∃ (kq : Nat) (x25_3 : Bool), v25 = .bool x25_3 ∧ Aside0 (schismalaw12_MonzoChecks.j0 kq l0 l1 l2 x25_3 = some r) ∧ Aside0 (kq ≤ k) ∧ Aside0 (Kd.V (Kd.int .i64) 3 wc w.heap.size (fun k_ => ((P1_ k_ ∨ P2_ k_) ∨ w.heap.size ≤ k_)) (.slice A1 l1.length c1) l1) ∧ Aside0 (Kd.V (Kd.int .i64) 3 wc w.heap.size (fun k_ => ((P1_ k_ ∨ P2_ k_) ∨ w.heap.size ≤ k_)) (.slice A2 l2.length c2) l2) ∧ Aside0 (Below w.heap.size w wc))
 case first =>
  have H := HC4.out
  clear HC4
  replace H := Option.bind_eq_some_iff.mp H
  obtain ⟨t498, A50, H⟩ := H
  try dsimp only at H
  have A5 := Aside0.mk A50
  clear A50
  by_cases c6 : t498 = true
  ·subst c6
   have H1 : ((schismalaw12_few.f l0 l1).bind fun t499 => (if t499 = true then (schismalaw12_MonzoChecks.j0 k l0 l1 l2 (decide ((l2.length : Int) > 8))) else (schismalaw12_MonzoChecks.j0 k l0 l1 l2 true))) = some r := by rw [if_pos rfl] at H; exact H
   clear H
   have H := H1
   clear H1
   replace H := Option.bind_eq_some_iff.mp H
   obtain ⟨t499, A70, H⟩ := H
   try dsimp only at H
   have A7 := Aside0.mk A70
   clear A70
   by_cases c8 : t499 = true
   ·subst c8
    have H1 : (schismalaw12_MonzoChecks.j0 k l0 l1 l2 (decide ((l2.length : Int) > 8))) = some r := by rw [if_pos rfl] at H; exact H
    clear H
    have H := H1
    clear H1
    have H' := Aside0.mk H
    clear H
    go_wp2_with (first | ((with_reducible refine gate_callee (f := 22) rfl ?_); refine goesK (some 13) Tryz.func22 [] rfl rfl ?_; (with_reducible refine (schismalaw12_known.calls k  true _ ?side1 A5.out (by first | rfl | assumption)).mono ?_); (case side1 => refine TabW.below hT ?_; apply_rules [HB.out, below_alloc, pw_below_drewN, below_drew1]); rintro e w9 ⟨rfl, hb⟩; refine ⟨_, rfl, ?_⟩; replace HO1 := Aside0.mk (Kd.V_below (by (with_reducible repeat (first | apply Kd.V_alloc | apply Kd.V_drewN | apply Kd.V_drew)); exact HO1.out) hb); replace HO2 := Aside0.mk (Kd.V_below (by (with_reducible repeat (first | apply Kd.V_alloc | apply Kd.V_drewN | apply Kd.V_drew)); exact HO2.out) hb); replace HB := Aside0.mk (below_step (by apply_rules [HB.out, below_alloc, pw_below_drewN, below_drew1]) hb); (try clear hb)) | (go_at_call 23; (with_reducible refine (schismalaw12_few.calls _ _ l0 _ _ l1 true _ ?side1 ?side2 ?side3 ?side4 A7.out).mono ?_); (case side1 => repeat (first | exact (Kd.C_below HR0.out HB.out) | (with_reducible refine Kd.C_alloc ?_ _) | (with_reducible refine Kd.C_drewN ?_ _) | (with_reducible refine Kd.C_drew ?_))); (case side2 => exact HC0.out); (case side3 => repeat (first | exact (Kd.V_reads' HO1.out).2.2 | (with_reducible refine Kd.C_alloc ?_ _) | (with_reducible refine Kd.C_drewN ?_ _) | (with_reducible refine Kd.C_drew ?_))); (case side4 => exact (Kd.V_reads' HO1.out).2.1); rintro e w' ⟨rfl, ⟨nd, rfl⟩⟩))
    go_meet
    case rel => exact ⟨_, (decide ((l2.length : Int) > 8)), (by first | rfl | (simp; done) | (simp [*]; done)), H', ⟨by first | omega | exact Nat.le_refl _⟩, ⟨by (with_reducible repeat (first | apply Kd.V_alloc | apply Kd.V_drewN | apply Kd.V_drew)); exact HO1.out⟩, ⟨by (with_reducible repeat (first | apply Kd.V_alloc | apply Kd.V_drewN | apply Kd.V_drew)); exact HO2.out⟩, ⟨by apply_rules [HB.out, below_alloc, pw_below_drewN, below_drew1]⟩⟩
   ·replace c8 := Bool.eq_false_iff.mpr c8
    subst c8
    have H1 : (schismalaw12_MonzoChecks.j0 k l0 l1 l2 true) = some r := by rw [if_neg (show ¬ (false = true) by decide)] at H; exact H
    clear H
    have H := H1
    clear H1
    have H' := Aside0.mk H
    clear H
    go_wp2_with (first | ((with_reducible refine gate_callee (f := 22) rfl ?_); refine goesK (some 13) Tryz.func22 [] rfl rfl ?_; (with_reducible refine (schismalaw12_known.calls k  true _ ?side1 A5.out (by first | rfl | assumption)).mono ?_); (case side1 => refine TabW.below hT ?_; apply_rules [HB.out, below_alloc, pw_below_drewN, below_drew1]); rintro e w10 ⟨rfl, hb⟩; refine ⟨_, rfl, ?_⟩; replace HO1 := Aside0.mk (Kd.V_below (by (with_reducible repeat (first | apply Kd.V_alloc | apply Kd.V_drewN | apply Kd.V_drew)); exact HO1.out) hb); replace HO2 := Aside0.mk (Kd.V_below (by (with_reducible repeat (first | apply Kd.V_alloc | apply Kd.V_drewN | apply Kd.V_drew)); exact HO2.out) hb); replace HB := Aside0.mk (below_step (by apply_rules [HB.out, below_alloc, pw_below_drewN, below_drew1]) hb); (try clear hb)) | (go_at_call 23; (with_reducible refine (schismalaw12_few.calls _ _ l0 _ _ l1 false _ ?side1 ?side2 ?side3 ?side4 A7.out).mono ?_); (case side1 => repeat (first | exact (Kd.C_below HR0.out HB.out) | (with_reducible refine Kd.C_alloc ?_ _) | (with_reducible refine Kd.C_drewN ?_ _) | (with_reducible refine Kd.C_drew ?_))); (case side2 => exact HC0.out); (case side3 => repeat (first | exact (Kd.V_reads' HO1.out).2.2 | (with_reducible refine Kd.C_alloc ?_ _) | (with_reducible refine Kd.C_drewN ?_ _) | (with_reducible refine Kd.C_drew ?_))); (case side4 => exact (Kd.V_reads' HO1.out).2.1); rintro e w' ⟨rfl, ⟨nd, rfl⟩⟩))
    go_meet
    case rel => exact ⟨_, (true), (by first | rfl | (simp; done) | (simp [*]; done)), H', ⟨by first | omega | exact Nat.le_refl _⟩, ⟨by (with_reducible repeat (first | apply Kd.V_alloc | apply Kd.V_drewN | apply Kd.V_drew)); exact HO1.out⟩, ⟨by (with_reducible repeat (first | apply Kd.V_alloc | apply Kd.V_drewN | apply Kd.V_drew)); exact HO2.out⟩, ⟨by apply_rules [HB.out, below_alloc, pw_below_drewN, below_drew1]⟩⟩
  ·replace c6 := Bool.eq_false_iff.mpr c6
   subst c6
   have H1 : (schismalaw12_MonzoChecks.j0 k l0 l1 l2 true) = some r := by rw [if_neg (show ¬ (false = true) by decide)] at H; exact H
   clear H
   have H := H1
   clear H1
   have H' := Aside0.mk H
   clear H
   exact absurd A5.out (hk _)
 case rest =>
  clear HC4
  obtain ⟨kq, x25_3, rfl, HA, HJ3, HO_1, HO_2, HB⟩ := hcut
  cases kq with
  | zero => exact absurd HA.out (by simp [schismalaw12_MonzoChecks.j0])
  | succ kj3 =>
   have H := HA.out
   clear HA
   simp only [schismalaw12_MonzoChecks.j0] at H
   by_cases c12 : x25_3 = true
   ·subst c12
    have H1 : ((schismalaw12_known.f kj3).bind fun t500 => (some t500)) = some r := by rw [if_pos rfl] at H; exact H
    clear H
    have H := H1
    clear H1
    replace H := Option.bind_eq_some_iff.mp H
    obtain ⟨t500, A130, H⟩ := H
    try dsimp only at H
    have A13 := Aside0.mk A130
    clear A130
    obtain rfl := Option.some.inj H
    go_wp2_with (first | ((with_reducible refine gate_callee (f := 22) rfl ?_); refine goesK (some 26) Tryz.func22 [] rfl rfl ?_; (with_reducible refine (schismalaw12_known.calls kj3  t500 _ ?side1 A13.out (by first | rfl | assumption)).mono ?_); (case side1 => refine TabW.below hT ?_; apply_rules [HB.out, below_alloc, pw_below_drewN, below_drew1]); rintro e w14 ⟨rfl, hb⟩; refine ⟨_, rfl, ?_⟩; replace HO_1 := Aside0.mk (Kd.V_below (by (with_reducible repeat (first | apply Kd.V_alloc | apply Kd.V_drewN | apply Kd.V_drew)); exact HO_1.out) hb); replace HO_2 := Aside0.mk (Kd.V_below (by (with_reducible repeat (first | apply Kd.V_alloc | apply Kd.V_drewN | apply Kd.V_drew)); exact HO_2.out) hb); replace HB := Aside0.mk (below_step (by apply_rules [HB.out, below_alloc, pw_below_drewN, below_drew1]) hb); (try clear hb)))
    go_ret
    exact ⟨by first | rfl | simp [*], by apply_rules [HB.out, below_alloc, pw_below_drewN, below_drew1]⟩
   ·replace c12 := Bool.eq_false_iff.mpr c12
    subst c12
    have H1 : ((schismalaw12_check.f kj3 l0 l1).bind fun t501 => (if t501 = 0 then ((schismalaw12_check.f kj3 l0 l2).bind fun t502 => (schismalaw12_MonzoChecks.j1 kj3 l0 l1 l2 t501 t502)) else (schismalaw12_MonzoChecks.j1 kj3 l0 l1 l2 t501 t501))) = some r := by rw [if_neg (show ¬ (false = true) by decide)] at H; exact H
    clear H
    have H := H1
    clear H1
    replace H := Option.bind_eq_some_iff.mp H
    obtain ⟨t501, A150, H⟩ := H
    try dsimp only at H
    have A15 := Aside0.mk A150
    clear A150
    have HC16 := Aside0.mk H
    clear H
    go_upto_if 32 with (first | ((with_reducible refine gate_callee (f := 24) rfl ?_); refine goesK (some 29) Tryz.func24 [.slice A0 l0.length c0, .slice A1 l1.length c1] rfl rfl ?_; (with_reducible refine (schismalaw12_check.calls kj3 _ _ l0 _ _ l1 t501 _ ?side1 ?side2 ?side3 ?side4 A15.out).mono ?_); (case side1 => repeat (first | exact (Kd.C_below HR0.out HB.out) | (with_reducible refine Kd.C_alloc ?_ _) | (with_reducible refine Kd.C_drewN ?_ _) | (with_reducible refine Kd.C_drew ?_))); (case side2 => exact HC0.out); (case side3 => repeat (first | exact (Kd.V_reads' HO_1.out).2.2 | (with_reducible refine Kd.C_alloc ?_ _) | (with_reducible refine Kd.C_drewN ?_ _) | (with_reducible refine Kd.C_drew ?_))); (case side4 => exact (Kd.V_reads' HO_1.out).2.1); rintro e w' ⟨rfl, ⟨nd, rfl⟩⟩; refine ⟨_, rfl, ?_⟩))
    (try simp only [Act.put, List.setIfInBounds_toArray, List.set_cons_zero, List.set_cons_succ])
    go_cut [8] (fun v8 wc => ∃ (kq : Nat) (x8_15 : Int), v8 = .int .i64 x8_15 ∧ Aside0 (schismalaw12_MonzoChecks.j1 kq l0 l1 l2 t501 x8_15 = some r) ∧ Aside0 (kq ≤ kj3) ∧ Aside0 (Kd.V (Kd.int .i64) 3 wc w.heap.size (fun k_ => ((P1_ k_ ∨ P2_ k_) ∨ w.heap.size ≤ k_)) (.slice A1 l1.length c1) l1) ∧ Aside0 (Kd.V (Kd.int .i64) 3 wc w.heap.size (fun k_ => ((P1_ k_ ∨ P2_ k_) ∨ w.heap.size ≤ k_)) (.slice A2 l2.length c2) l2) ∧ Aside0 (Below w.heap.size w wc))
    case first =>
     have H := HC16.out
     clear HC16
     by_cases c17 : t501 = 0
     ·rw [if_pos c17] at H
      have c17b0 : (t501 == 0) = true := beq_iff_eq.mpr c17
      have c17b1 : (t501 != 0) = false := bne_eq_false_iff_eq.mpr c17
      clear c17
      (first | rw [c17b0] | (simp only [i64_w, i32_w]; rw [c17b0]) | skip)
      replace H := Option.bind_eq_some_iff.mp H
      obtain ⟨t502, A180, H⟩ := H
      try dsimp only at H
      have A18 := Aside0.mk A180
      clear A180
      have H' := Aside0.mk H
      clear H
      go_wp2_with (first | ((with_reducible refine gate_callee (f := 24) rfl ?_); refine goesK (some 35) Tryz.func24 [.slice A0 l0.length c0, .slice A2 l2.length c2] rfl rfl ?_; (with_reducible refine (schismalaw12_check.calls kj3 _ _ l0 _ _ l2 t502 _ ?side1 ?side2 ?side3 ?side4 A18.out).mono ?_); (case side1 => repeat (first | exact (Kd.C_below HR0.out HB.out) | (with_reducible refine Kd.C_alloc ?_ _) | (with_reducible refine Kd.C_drewN ?_ _) | (with_reducible refine Kd.C_drew ?_))); (case side2 => exact HC0.out); (case side3 => repeat (first | exact (Kd.V_reads' HO_2.out).2.2 | (with_reducible refine Kd.C_alloc ?_ _) | (with_reducible refine Kd.C_drewN ?_ _) | (with_reducible refine Kd.C_drew ?_))); (case side4 => exact (Kd.V_reads' HO_2.out).2.1); rintro e w' ⟨rfl, ⟨nd, rfl⟩⟩; refine ⟨_, rfl, ?_⟩))
      go_meet
      case rel => exact ⟨_, (t502), (by first | rfl | (simp; done) | (simp [*]; done)), H', ⟨by have := HJ3.out; first | omega | exact Nat.le_refl _⟩, ⟨by (with_reducible repeat (first | apply Kd.V_alloc | apply Kd.V_drewN | apply Kd.V_drew)); exact HO_1.out⟩, ⟨by (with_reducible repeat (first | apply Kd.V_alloc | apply Kd.V_drewN | apply Kd.V_drew)); exact HO_2.out⟩, ⟨by apply_rules [HB.out, below_alloc, pw_below_drewN, below_drew1]⟩⟩
     ·rw [if_neg c17] at H
      have c17b0 : (t501 == 0) = false := beq_eq_false_iff_ne.mpr c17
      have c17b1 : (t501 != 0) = true := bne_iff_ne.mpr c17
      (first | rw [c17b0] | (simp only [i64_w, i32_w]; rw [c17b0]) | skip)
      have H' := Aside0.mk H
      clear H
      go_wp2
      go_meet
      case rel => exact ⟨_, (t501), (by first | rfl | (simp; done) | (simp [*]; done)), H', ⟨by have := HJ3.out; first | omega | exact Nat.le_refl _⟩, ⟨by (with_reducible repeat (first | apply Kd.V_alloc | apply Kd.V_drewN | apply Kd.V_drew)); exact HO_1.out⟩, ⟨by (with_reducible repeat (first | apply Kd.V_alloc | apply Kd.V_drewN | apply Kd.V_drew)); exact HO_2.out⟩, ⟨by apply_rules [HB.out, below_alloc, pw_below_drewN, below_drew1]⟩⟩
    case rest =>
     clear HC16
     obtain ⟨kq, x8_15, rfl, HA, HJ15, HO_1, HO_2, HB⟩ := hcut
     cases kq with
     | zero => exact absurd HA.out (by simp [schismalaw12_MonzoChecks.j1])
     | succ kj15 =>
      have H := HA.out
      clear HA
      simp only [schismalaw12_MonzoChecks.j1] at H
      replace H := Option.bind_eq_some_iff.mp H
      obtain ⟨⟨t503, t504⟩, A190, H⟩ := H
      try dsimp only at H
      have A19 := Aside0.mk A190
      clear A190
      have HC20 := Aside0.mk H
      clear H
      go_upto_region 8 with (first | ((with_reducible refine gate_callee (f := 25) rfl ?_); refine goesK (some 39) Tryz.func25 [.slice A0 l0.length c0, .slice A1 l1.length c1] rfl rfl ?_; (with_reducible refine (monzo_Brackets.calls kj15 _ _ l0 _ _ l1 t503 t504 _ ?side1 ?side2 ?side3 ?side4 ?side5 A19.out).mono ?_); (case side1 => refine TabW.below hT ?_; apply_rules [HB.out, below_alloc, pw_below_drewN, below_drew1]); (case side2 => repeat (first | exact (Kd.C_below HR0.out HB.out) | (with_reducible refine Kd.C_alloc ?_ _) | (with_reducible refine Kd.C_drewN ?_ _) | (with_reducible refine Kd.C_drew ?_))); (case side3 => exact HC0.out); (case side4 => repeat (first | exact (Kd.V_reads' HO_1.out).2.2 | (with_reducible refine Kd.C_alloc ?_ _) | (with_reducible refine Kd.C_drewN ?_ _) | (with_reducible refine Kd.C_drew ?_))); (case side5 => exact (Kd.V_reads' HO_1.out).2.1); rintro e w21 ⟨rfl, hb⟩; refine ⟨_, rfl, ?_⟩; replace HO_1 := Aside0.mk (Kd.V_below (by (with_reducible repeat (first | apply Kd.V_alloc | apply Kd.V_drewN | apply Kd.V_drew)); exact HO_1.out) hb); replace HO_2 := Aside0.mk (Kd.V_below (by (with_reducible repeat (first | apply Kd.V_alloc | apply Kd.V_drewN | apply Kd.V_drew)); exact HO_2.out) hb); replace HB := Aside0.mk (below_step (by apply_rules [HB.out, below_alloc, pw_below_drewN, below_drew1]) hb); (try clear hb)))
      (try simp only [Act.put, List.setIfInBounds_toArray, List.set_cons_zero, List.set_cons_succ])
      go_cut [52] (fun v52 wc => ∃ (kq : Nat) (x52_19 : Bool), v52 = .bool x52_19 ∧ Aside0 (schismalaw12_MonzoChecks.j2 kq l0 l1 l2 t501 x8_15 t503 t504 x52_19 = some r) ∧ Aside0 (kq ≤ kj15) ∧ Aside0 (Kd.V (Kd.int .i64) 3 wc w.heap.size (fun k_ => ((P1_ k_ ∨ P2_ k_) ∨ w.heap.size ≤ k_)) (.slice A1 l1.length c1) l1) ∧ Aside0 (Kd.V (Kd.int .i64) 3 wc w.heap.size (fun k_ => ((P1_ k_ ∨ P2_ k_) ∨ w.heap.size ≤ k_)) (.slice A2 l2.length c2) l2) ∧ Aside0 (Below w.heap.size w wc))
      case first =>
       have H := HC20.out
       clear HC20
       by_cases c22 : t501 = 0
       ·rw [if_pos c22] at H
        have c22b0 : (t501 == 0) = true := beq_iff_eq.mpr c22
        have c22b1 : (t501 != 0) = false := bne_eq_false_iff_eq.mpr c22
        clear c22
        (first | rw [c22b0] | (simp only [i64_w, i32_w]; rw [c22b0]) | skip)
        have H' := Aside0.mk H
        clear H
        go_wp2
        go_meet
        case rel => exact ⟨_, (false), (by first | rfl | (simp; done) | (simp [*]; done)), H', ⟨by have := HJ3.out; have := HJ15.out; first | omega | exact Nat.le_refl _⟩, ⟨by (with_reducible repeat (first | apply Kd.V_alloc | apply Kd.V_drewN | apply Kd.V_drew)); exact HO_1.out⟩, ⟨by (with_reducible repeat (first | apply Kd.V_alloc | apply Kd.V_drewN | apply Kd.V_drew)); exact HO_2.out⟩, ⟨by apply_rules [HB.out, below_alloc, pw_below_drewN, below_drew1]⟩⟩
       ·rw [if_neg c22] at H
        have c22b0 : (t501 == 0) = false := beq_eq_false_iff_ne.mpr c22
        have c22b1 : (t501 != 0) = true := bne_iff_ne.mpr c22
        (first | rw [c22b0] | (simp only [i64_w, i32_w]; rw [c22b0]) | skip)
        by_cases c23 : t503.toList = ([] : List UInt8)
        ·rw [if_pos c23] at H
         have c23b0 : (t503.toList == ([] : List UInt8)) = true := beq_iff_eq.mpr c23
         have c23b1 : (t503.toList != ([] : List UInt8)) = false := bne_eq_false_iff_eq.mpr c23
         clear c23
         have H' := Aside0.mk H
         clear H
         go_wp2
         go_meet
         case rel => exact ⟨_, ((t504 != t501)), (by first | rfl | (simp; done) | (simp [*]; done)), H', ⟨by have := HJ3.out; have := HJ15.out; first | omega | exact Nat.le_refl _⟩, ⟨by (with_reducible repeat (first | apply Kd.V_alloc | apply Kd.V_drewN | apply Kd.V_drew)); exact HO_1.out⟩, ⟨by (with_reducible repeat (first | apply Kd.V_alloc | apply Kd.V_drewN | apply Kd.V_drew)); exact HO_2.out⟩, ⟨by apply_rules [HB.out, below_alloc, pw_below_drewN, below_drew1]⟩⟩
        ·rw [if_neg c23] at H
         have c23b0 : (t503.toList == ([] : List UInt8)) = false := beq_eq_false_iff_ne.mpr c23
         have c23b1 : (t503.toList != ([] : List UInt8)) = true := bne_iff_ne.mpr c23
         have H' := Aside0.mk H
         clear H
         go_wp2
         go_meet
         case rel => exact ⟨_, (true), (by first | rfl | (simp; done) | (simp [*]; done)), H', ⟨by have := HJ3.out; have := HJ15.out; first | omega | exact Nat.le_refl _⟩, ⟨by (with_reducible repeat (first | apply Kd.V_alloc | apply Kd.V_drewN | apply Kd.V_drew)); exact HO_1.out⟩, ⟨by (with_reducible repeat (first | apply Kd.V_alloc | apply Kd.V_drewN | apply Kd.V_drew)); exact HO_2.out⟩, ⟨by apply_rules [HB.out, below_alloc, pw_below_drewN, below_drew1]⟩⟩
      case rest =>
       clear HC20
       obtain ⟨kq, x52_19, rfl, HA, HJ19, HO_1, HO_2, HB⟩ := hcut
       cases kq with
       | zero => exact absurd HA.out (by simp [schismalaw12_MonzoChecks.j2])
       | succ kj19 =>
        have H := HA.out
        clear HA
        simp only [schismalaw12_MonzoChecks.j2] at H
        by_cases c24 : x52_19 = true
        ·subst c24
         have H1 : (some false) = some r := by rw [if_pos rfl] at H; exact H
         clear H
         have H := H1
         clear H1
         exact absurd ((Option.some.inj H).trans hr) Bool.false_ne_true
        ·replace c24 := Bool.eq_false_iff.mpr c24
         subst c24
         have H1 : (if t501 = 0 then ((row_Text.f kj19 l1 true).bind fun bt505 => (if t503.toList = bt505.1.toList then (if t504 = 0 then (if bt505.2 = 0 then (schismalaw12_MonzoChecks.j3 kj19 l0 l1 l2 t501 x8_15) else (some false)) else (some false)) else (some false))) else (schismalaw12_MonzoChecks.j3 kj19 l0 l1 l2 t501 x8_15)) = some r := by rw [if_neg (show ¬ (false = true) by decide)] at H; exact H
         clear H
         have H := H1
         clear H1
         have HC25 := Aside0.mk H
         clear H
         go_upto_if 54 with (fail)
         go_cut [] (fun wc => ∃ (kq : Nat), Aside0 (schismalaw12_MonzoChecks.j3 kq l0 l1 l2 t501 x8_15 = some r) ∧ Aside0 (kq ≤ kj19) ∧ Aside0 (Kd.V (Kd.int .i64) 3 wc w.heap.size (fun k_ => ((P1_ k_ ∨ P2_ k_) ∨ w.heap.size ≤ k_)) (.slice A1 l1.length c1) l1) ∧ Aside0 (Kd.V (Kd.int .i64) 3 wc w.heap.size (fun k_ => ((P1_ k_ ∨ P2_ k_) ∨ w.heap.size ≤ k_)) (.slice A2 l2.length c2) l2) ∧ Aside0 (Below w.heap.size w wc))
         case first =>
          have H := HC25.out
          clear HC25
          by_cases c26 : t501 = 0
          ·rw [if_pos c26] at H
           have c26b0 : (t501 == 0) = true := beq_iff_eq.mpr c26
           have c26b1 : (t501 != 0) = false := bne_eq_false_iff_eq.mpr c26
           clear c26
           (first | rw [c26b0] | (simp only [i64_w, i32_w]; rw [c26b0]) | skip)
           replace H := Option.bind_eq_some_iff.mp H
           obtain ⟨⟨t505, t506⟩, A270, H⟩ := H
           try dsimp only at H
           have A27 := Aside0.mk A270
           clear A270
           by_cases c28 : t503.toList = t505.toList
           ·rw [if_pos c28] at H
            have c28b0 : (t503.toList == t505.toList) = true := beq_iff_eq.mpr c28
            have c28b1 : (t503.toList != t505.toList) = false := bne_eq_false_iff_eq.mpr c28
            clear c28
            by_cases c29 : t504 = 0
            ·rw [if_pos c29] at H
             have c29b0 : (t504 == 0) = true := beq_iff_eq.mpr c29
             have c29b1 : (t504 != 0) = false := bne_eq_false_iff_eq.mpr c29
             clear c29
             by_cases c30 : t506 = 0
             ·rw [if_pos c30] at H
              have c30b0 : (t506 == 0) = true := beq_iff_eq.mpr c30
              have c30b1 : (t506 != 0) = false := bne_eq_false_iff_eq.mpr c30
              clear c30
              have H' := Aside0.mk H
              clear H
              go_wp2_with (first | ((with_reducible refine gate_callee (f := 26) rfl ?_); refine goesK (some 57) Tryz.func26 [.slice A1 l1.length c1, .bool true] rfl rfl ?_; (with_reducible refine (row_Text.calls kj19 _ _ l1 true t505 t506 _ ?side1 ?side2 ?side3 A27.out).mono ?_); (case side1 => refine TabW.below hT ?_; apply_rules [HB.out, below_alloc, pw_below_drewN, below_drew1]); (case side2 => repeat (first | exact (Kd.V_reads' HO_1.out).2.2 | (with_reducible refine Kd.C_alloc ?_ _) | (with_reducible refine Kd.C_drewN ?_ _) | (with_reducible refine Kd.C_drew ?_))); (case side3 => exact (Kd.V_reads' HO_1.out).2.1); rintro e w31 ⟨rfl, hb⟩; refine ⟨_, rfl, ?_⟩; replace HO_1 := Aside0.mk (Kd.V_below (by (with_reducible repeat (first | apply Kd.V_alloc | apply Kd.V_drewN | apply Kd.V_drew)); exact HO_1.out) hb); replace HO_2 := Aside0.mk (Kd.V_below (by (with_reducible repeat (first | apply Kd.V_alloc | apply Kd.V_drewN | apply Kd.V_drew)); exact HO_2.out) hb); replace HB := Aside0.mk (below_step (by apply_rules [HB.out, below_alloc, pw_below_drewN, below_drew1]) hb); (try clear hb)))
              go_meet
              case rel => exact ⟨_, H', ⟨by have := HJ3.out; have := HJ15.out; have := HJ19.out; first | omega | exact Nat.le_refl _⟩, ⟨by (with_reducible repeat (first | apply Kd.V_alloc | apply Kd.V_drewN | apply Kd.V_drew)); exact HO_1.out⟩, ⟨by (with_reducible repeat (first | apply Kd.V_alloc | apply Kd.V_drewN | apply Kd.V_drew)); exact HO_2.out⟩, ⟨by apply_rules [HB.out, below_alloc, pw_below_drewN, below_drew1]⟩⟩
             ·rw [if_neg c30] at H
              have c30b0 : (t506 == 0) = false := beq_eq_false_iff_ne.mpr c30
              have c30b1 : (t506 != 0) = true := bne_iff_ne.mpr c30
              exact absurd ((Option.some.inj H).trans hr) Bool.false_ne_true
            ·rw [if_neg c29] at H
             have c29b0 : (t504 == 0) = false := beq_eq_false_iff_ne.mpr c29
             have c29b1 : (t504 != 0) = true := bne_iff_ne.mpr c29
             exact absurd ((Option.some.inj H).trans hr) Bool.false_ne_true
           ·rw [if_neg c28] at H
            have c28b0 : (t503.toList == t505.toList) = false := beq_eq_false_iff_ne.mpr c28
            have c28b1 : (t503.toList != t505.toList) = true := bne_iff_ne.mpr c28
            exact absurd ((Option.some.inj H).trans hr) Bool.false_ne_true
          ·rw [if_neg c26] at H
           have c26b0 : (t501 == 0) = false := beq_eq_false_iff_ne.mpr c26
           have c26b1 : (t501 != 0) = true := bne_iff_ne.mpr c26
           (first | rw [c26b0] | (simp only [i64_w, i32_w]; rw [c26b0]) | skip)
           have H' := Aside0.mk H
           clear H
           go_wp2
           go_meet
           case rel => exact ⟨_, H', ⟨by have := HJ3.out; have := HJ15.out; have := HJ19.out; first | omega | exact Nat.le_refl _⟩, ⟨by (with_reducible repeat (first | apply Kd.V_alloc | apply Kd.V_drewN | apply Kd.V_drew)); exact HO_1.out⟩, ⟨by (with_reducible repeat (first | apply Kd.V_alloc | apply Kd.V_drewN | apply Kd.V_drew)); exact HO_2.out⟩, ⟨by apply_rules [HB.out, below_alloc, pw_below_drewN, below_drew1]⟩⟩
         case rest =>
          clear HC25
          obtain ⟨kq, HA, HJ24, HO_1, HO_2, HB⟩ := hcut
          cases kq with
          | zero => exact absurd HA.out (by simp [schismalaw12_MonzoChecks.j3])
          | succ kj24 =>
           have H := HA.out
           clear HA
           simp only [schismalaw12_MonzoChecks.j3] at H
           replace H := Option.bind_eq_some_iff.mp H
           obtain ⟨t507, A350, H⟩ := H
           try dsimp only at H
           have A35 := Aside0.mk A350
           clear A350
           by_cases c36 : t507 = t501
           ·rw [if_pos c36] at H
            have c36b0 : (t507 == t501) = true := beq_iff_eq.mpr c36
            have c36b1 : (t507 != t501) = false := bne_eq_false_iff_eq.mpr c36
            clear c36
            obtain ⟨y508, hy508⟩ : ∃ y_ : List (List Int), y_ = (([l1, l2] : List (List Int))) := ⟨_, rfl⟩
            replace H : ((monzo_CheckAll.f kj24 l0 y508).bind fun t511 => (if t511 = x8_15 then ((monzo_CheckAll.f kj24 l0 ([] : List (List Int))).bind fun t512 => ((prime_Check.f kj24 l0).bind fun t513 => (some (t512 == t513)))) else (some false))) = some r := by first | (rw [hy508]; with_reducible exact H) | (have H2_ := (Option.bind_some _ _).symm.trans H; rw [hy508]; with_reducible exact H2_) | (have H2_ := (Option.bind_some _ _).symm.trans H; with_reducible exact H2_) | with_reducible exact H | (rw [hy508]; exact H) | exact H
            have Ny508 := Aside0.mk hy508
            clear hy508
            replace H := Option.bind_eq_some_iff.mp H
            obtain ⟨t511, A370, H⟩ := H
            try dsimp only at H
            have A37 := Aside0.mk A370
            clear A370
            by_cases c38 : t511 = x8_15
            ·rw [if_pos c38] at H
             have c38b0 : (t511 == x8_15) = true := beq_iff_eq.mpr c38
             have c38b1 : (t511 != x8_15) = false := bne_eq_false_iff_eq.mpr c38
             clear c38
             replace H := Option.bind_eq_some_iff.mp H
             obtain ⟨t512, A390, H⟩ := H
             try dsimp only at H
             have A39 := Aside0.mk A390
             clear A390
             replace H := Option.bind_eq_some_iff.mp H
             obtain ⟨t513, A400, H⟩ := H
             try dsimp only at H
             have A40 := Aside0.mk A400
             clear A400
             obtain rfl := Option.some.inj H
             go_wp2_with (first | ((with_reducible refine gate_callee (f := 27) rfl ?_); refine goesK (some 73) Tryz.func27 [.slice A0 l0.length c0, .slice A1 l1.length c1] rfl rfl ?_; (with_reducible refine (monzo_Check.calls kj24 _ _ l0 (fun k_ => ((P1_ k_ ∨ P2_ k_) ∨ w.heap.size ≤ k_)) _ _ l1 t507 _ ?side1 ?side2 ?side3 A35.out).mono ?_); (case side1 => repeat (first | exact (Kd.C_below HR0.out HB.out) | (with_reducible refine Kd.C_alloc ?_ _) | (with_reducible refine Kd.C_drewN ?_ _) | (with_reducible refine Kd.C_drew ?_))); (case side2 => exact HC0.out); (case side3 => exact HO_1.out); rintro e w41 ⟨rfl, hb⟩; refine ⟨_, rfl, ?_⟩; replace HO_1 := Aside0.mk (Kd.V_below (by (with_reducible repeat (first | apply Kd.V_alloc | apply Kd.V_drewN | apply Kd.V_drew)); exact HO_1.out) hb); replace HO_2 := Aside0.mk (Kd.V_below (by (with_reducible repeat (first | apply Kd.V_alloc | apply Kd.V_drewN | apply Kd.V_drew)); exact HO_2.out) hb); replace HB := Aside0.mk (below_step (by apply_rules [HB.out, below_alloc, pw_below_drewN, below_drew1]) hb); (try clear hb)) | ((with_reducible refine gate_dst (N := 80) rfl ?_); (try (refine gate_guard (by rfl) ?_; dsimp only)); refine Kd.N_lit (Kd.slice 3 (Kd.int .i64)) _ 24 ?hg (N' := 80) ?hd (xs := ([l1, l2] : List (List Int))) (inner := [.slice A1 l1.length c1, .slice A2 l2.length c2]) (ok := (fun k_ => ((P1_ k_ ∨ P2_ k_) ∨ w.heap.size ≤ k_))) (okp := (fun k_ => ((P1_ k_ ∨ P2_ k_) ∨ w.heap.size ≤ k_))) ?hr ?hp (fun _ hk => hk) ((show ∀ k_, w41.heap.size ≤ k_ → (fun k_ => ((P1_ k_ ∨ P2_ k_) ∨ w.heap.size ≤ k_)) k_ from fun k_ hk => (.inr (Nat.le_trans (below_size (by apply_rules [HB.out, below_alloc, pw_below_drewN, below_drew1])) hk))) _ (Nat.le_refl _)) (Below.refl _ _) (Nat.le_refl _) (by simp) ?_; (case hd => rfl); (case hg => rfl); (case hr => go_simp; try rfl); (case hp => exact (Reps.one (show Kd.FK (Kd.slice 3 (Kd.int .i64)) _ _ l1 [.slice A1 l1.length c1] from (Kd.FK_slice_mk (Kd.V_reads' (Kd.V_mono (ok' := (fun k_ => ((P1_ k_ ∨ P2_ k_) ∨ w.heap.size ≤ k_))) (HO_1.out) (fun k_ hk => hk))).2.1 (Kd.V_F (Kd.V_mono (ok' := (fun k_ => ((P1_ k_ ∨ P2_ k_) ∨ w.heap.size ≤ k_))) (HO_1.out) (fun k_ hk => hk))))) (Reps.one (show Kd.FK (Kd.slice 3 (Kd.int .i64)) _ _ l2 [.slice A2 l2.length c2] from (Kd.FK_slice_mk (Kd.V_reads' (Kd.V_mono (ok' := (fun k_ => ((P1_ k_ ∨ P2_ k_) ∨ w.heap.size ≤ k_))) (HO_2.out) (fun k_ hk => hk))).2.1 (Kd.V_F (Kd.V_mono (ok' := (fun k_ => ((P1_ k_ ∨ P2_ k_) ∨ w.heap.size ≤ k_))) (HO_2.out) (fun k_ hk => hk))))) (Reps.none _ _)))); intro v509 w42 ho43 hb hg_ hnew_; clear hg_ hnew_; (first | rw [← Ny508.out] at ho43 | (simp only [Int.reduceToNat] at ho43; rw [← Ny508.out] at ho43)); replace HO_1 := Aside0.mk (Kd.V_elder' (by (with_reducible repeat (first | apply Kd.V_alloc | apply Kd.V_drewN | apply Kd.V_drew)); exact HO_1.out) (Kd.N_base ho43) hb); replace HO_2 := Aside0.mk (Kd.V_elder' (by (with_reducible repeat (first | apply Kd.V_alloc | apply Kd.V_drewN | apply Kd.V_drew)); exact HO_2.out) (Kd.N_base ho43) hb); have HO510 := Aside0.mk (Kd.N_lower ho43 (below_size (by apply_rules [HB.out, below_alloc, pw_below_drewN, below_drew1]))); replace HB := Aside0.mk (below_step (by apply_rules [HB.out, below_alloc, pw_below_drewN, below_drew1]) hb); clear hb ho43; obtain ⟨Ao44, co44, eo44⟩ := Kd.N_slice HO510.out; subst eo44) | (go_at_call 28; (with_reducible refine (monzo_CheckAll.calls kj24 _ _ l0 _ _ y508 t511 _ ?side1 ?side2 ?side3 ?side4 A37.out).mono ?_); (case side1 => repeat (first | exact (Kd.C_below HR0.out HB.out) | (with_reducible refine Kd.C_alloc ?_ _) | (with_reducible refine Kd.C_drewN ?_ _) | (with_reducible refine Kd.C_drew ?_))); (case side2 => exact HC0.out); (case side3 => repeat (first | exact (Kd.N_reads' HO510.out).2.2 | (with_reducible refine Kd.C_alloc ?_ _) | (with_reducible refine Kd.C_drewN ?_ _) | (with_reducible refine Kd.C_drew ?_))); (case side4 => exact (Kd.N_reads' HO510.out).2.1); rintro e w' ⟨rfl, ⟨nd, rfl⟩⟩) | (go_at_call 28; (refine (monzo_CheckAll.calls kj24 _ _ l0 _ _ ([] : List (List Int)) t512 _ ?side1 ?side2 ?side3 ?side4 A39.out).mono ?_); (case side1 => repeat (first | exact (Kd.C_below HR0.out (by apply_rules [HB.out, below_alloc, pw_below_drewN, below_drew1])) | (with_reducible refine Kd.C_alloc ?_ _) | (with_reducible refine Kd.C_drewN ?_ _) | (with_reducible refine Kd.C_drew ?_))); (case side2 => exact HC0.out); (case side3 => exact Kd.C_nil _ _); (case side4 => exact Nat.le_refl _); rintro e w' ⟨rfl, ⟨nd, rfl⟩⟩) | (go_at_call 29; (with_reducible refine (prime_Check.calls kj24 _ _ l0 t513 _ ?side1 ?side2 A40.out).mono ?_); (case side1 => repeat (first | exact (Kd.C_below HR0.out (by apply_rules [HB.out, below_alloc, pw_below_drewN, below_drew1])) | (with_reducible refine Kd.C_alloc ?_ _) | (with_reducible refine Kd.C_drewN ?_ _) | (with_reducible refine Kd.C_drew ?_))); (case side2 => exact HC0.out); rintro e w' ⟨rfl, ⟨nd, rfl⟩⟩))
             go_ret
             exact ⟨by first | rfl | simp [*], by apply_rules [HB.out, below_alloc, pw_below_drewN, below_drew1]⟩
            ·rw [if_neg c38] at H
             have c38b0 : (t511 == x8_15) = false := beq_eq_false_iff_ne.mpr c38
             have c38b1 : (t511 != x8_15) = true := bne_iff_ne.mpr c38
             exact absurd ((Option.some.inj H).trans hr) Bool.false_ne_true
           ·rw [if_neg c36] at H
            have c36b0 : (t507 == t501) = false := beq_eq_false_iff_ne.mpr c36
            have c36b1 : (t507 != t501) = true := bne_iff_ne.mpr c36
            exact absurd ((Option.some.inj H).trans hr) Bool.false_ne_true
end Go.Proofs.YtccebdpjdpjgnaaGreatDoor.P
end
section
namespace Go.Proofs.YtccebdpjdpjgnaaGreatDoor.P
open Go.RowKit Go.Proofs.YtccebdpjdpjgnaaGreatDoorW.PrintWords Go.Proofs.YtccebdpjdpjgnaaGreatDoorW.PrintLast Go.Proofs.YtccebdpjdpjgnaaGreatDoorW.PrintMore
attribute [local go_sem] max2_int min2_int max_two min_two max_three min_three max_four min_four
theorem eqA38 (d : Nat) (w : World) (x0 y0 : ByteArray) (x1 y1 : ByteArray) :
  (Op.equalIn (d + 2) 38 (.agg #[.string x0, .string x1]) (.agg #[.string y0, .string y1])).run Tryz.prog w = .ok (x0.toList == y0.toList && (x1.toList == y1.toList)) w := by
 refine eqA_of Tryz.underlying38 (by kernel_rfl) ?_
 refine eqf_cons (by rfl) (by go_simp; rfl) (by go_simp; rfl) (by go_simp) ?_
 exact eqf_last (by rfl) (by go_simp; rfl) (by go_simp; rfl) (by go_simp)
end Go.Proofs.YtccebdpjdpjgnaaGreatDoor.P
end
