/-
parts of the walks and of the plain laws: Pschismalaw11parse Pschismalaw11PrimeTexts
-/
import Derived.Test.YtccebdpjdpjgnaaGreatDoorTX36
import Derived.Test.YtccebdpjdpjgnaaGreatDoorTX38
set_option linter.unusedVariables false
set_option linter.unusedSimpArgs false
section
namespace Go.Proofs.YtccebdpjdpjgnaaGreatDoor.P
open Go.RowKit Go.Proofs.YtccebdpjdpjgnaaGreatDoorW.PrintWords Go.Proofs.YtccebdpjdpjgnaaGreatDoorW.PrintLast Go.Proofs.YtccebdpjdpjgnaaGreatDoorW.PrintMore
attribute [local go_sem] max2_int min2_int max_two min_two max_three min_three max_four min_four
def schismalaw11_parse.l0 : Nat → List Int → List ByteArray → Int → Int → Option (List Int × Bool)
 | 0, _, _, _, _ => none
 | k + 1, x4, x13, x14, x15 => if x15 < x14 then (if 0 ≤ x15 then (if x15 < (x13.length : Int) then ((strconv_Atoi.f (rdOf ByteArray.empty x13 x15)).bind fun bt1230 => (if bt1230.2.isNone = true then (if ((rdOf ByteArray.empty x13 x15).size : Int) > 3 then (some (([] : List Int), false)) else ((strconv_Itoa.f bt1230.1).bind fun t1233 => (if t1233.toList = (rdOf ByteArray.empty x13 x15).toList then (if bt1230.1 < 0 then (some (([] : List Int), false)) else (if x4.length < 17592186044416 then (schismalaw11_parse.l0 k (x4 ++ [bt1230.1]) x13 x14 (wrap64 (x15 + 1))) else (none))) else (some (([] : List Int), false))))) else (some (([] : List Int), false)))) else (none)) else (none)) else (some (x4, true))
def schismalaw11_parse.f (k : Nat) (a0 : ByteArray) : Option (List Int × Bool) := if (a0.size : Int) > 40 then (some (([] : List Int), false)) else ((strings_Split.f a0 (⟨#[46]⟩ : ByteArray)).bind fun t1226 => (schismalaw11_parse.l0 k ([] : List Int) t1226 (t1226.length : Int) 0))
set_option maxHeartbeats 8000000 in
set_option maxRecDepth 100000 in
theorem schismalaw11_parse.calls (k : Nat) (a0 : ByteArray) (r1 : List Int) (r2 : Bool) (w : World) (hT : TabW w) (h : schismalaw11_parse.f k a0 = some (r1, r2)) :
  Calls Tryz.prog 75 #[.string a0] w fun e w' => ∃ v0_ : Value, e = .returned (.tuple #[v0_, .bool r2]) ∧ Kd.R (Kd.int .i64) 3 w' w.heap.size (fun _ => True) v0_ r1 ∧ Below w.heap.size w w' := by
 have hu162 := Tryz.underlying162
 have HB := Aside0.mk (Below.refl w.heap.size w)
 have H : (if (a0.size : Int) > 40 then (some (([] : List Int), false)) else ((strings_Split.f a0 (⟨#[46]⟩ : ByteArray)).bind fun t1226 => (schismalaw11_parse.l0 k ([] : List Int) t1226 (t1226.length : Int) 0))) = some (r1, r2) := h
 clear h
 by_cases c2 : (a0.size : Int) > 40
 ·rw [if_pos c2] at H
  have c2b0 : decide (40 < (a0.size : Int)) = true := decide_eq_true c2
  have c2b1 : decide (40 < a0.size) = true := decide_eq_true (by omega)
  clear c2
  simp only [Option.some.injEq, Prod.mk.injEq] at H
  obtain ⟨rfl, rfl⟩ := H
  go_enter Tryz.func75, Tryz.ntmps75
  go_wp2
  go_ret2
  exact ⟨(.slice none 0 0), by first | rfl | simp [*], by first | exact Kd.R_nil _ _ _ _ _ | exact Kd.N_nil _ _ _ _ _ | exact Kd.V_nil _ _ _ _ _ | exact Kd.Q_nil _ _ _ _ _ | exact Kd.S_nil _ _ _ _ _, by apply_rules [HB.out, below_alloc, pw_below_drewN, below_drew1]⟩
 ·rw [if_neg c2] at H
  have c2b0 : decide (40 < (a0.size : Int)) = false := decide_eq_false c2
  have c2b1 : decide (40 < a0.size) = false := decide_eq_false (by omega)
  clear c2
  replace H := Option.bind_eq_some_iff.mp H
  obtain ⟨t1226, A30, H⟩ := H
  try dsimp only at H
  have A3 := Aside0.mk A30
  clear A30
  have H' := Aside0.mk H
  clear H
  go_enter Tryz.func75, Tryz.ntmps75
  go_wp2_with (first | ((with_reducible refine gate_callee (f := 132) rfl ?_); refine goesK (some 13) Tryz.func132 [.string a0, .string (⟨#[46]⟩ : ByteArray)] rfl rfl ?_; (with_reducible refine (strings_Split.calls a0 (⟨#[46]⟩ : ByteArray) t1226 _ ?side1 A3.out).mono ?_); (case side1 => refine TabW.below hT ?_; apply_rules [HB.out, below_alloc, pw_below_drewN, below_drew1]); rintro e w4 ⟨v1227, rfl, ho0, hb⟩; refine ⟨_, rfl, ?_⟩; have HO1228 := Aside0.mk (Kd.R_lower ho0 (below_size (by apply_rules [HB.out, below_alloc, pw_below_drewN, below_drew1]))); replace HB := Aside0.mk (below_step (by apply_rules [HB.out, below_alloc, pw_below_drewN, below_drew1]) hb); (try clear hb); (try clear ho0); obtain ⟨Ao5, co5, eo5⟩ := Kd.R_slice HO1228.out; subst eo5))
  go_loopg [4, 15] k (fun kq v4 v15 w' => ∃ (x4_1 : List Int) (x15_1 : Int), v15 = .int .i64 x15_1 ∧ Aside0 (schismalaw11_parse.l0 kq x4_1 t1226 (t1226.length : Int) x15_1 = some (r1, r2)) ∧ Aside0 (kq ≤ k) ∧ Aside0 (Kd.R (Kd.int .i64) 3 w' w.heap.size (fun _ => True) v4 x4_1) ∧ Aside0 (Kd.R Kd.string 9 w' w.heap.size (fun _ => True) (.slice Ao5 t1226.length co5) t1226) ∧ Aside0 (Below w.heap.size w w'))
  case atStart => exact ⟨(([] : List Int)), (0), (by first | rfl | (simp; done) | (simp [*]; done)), H', ⟨Nat.le_refl _⟩, ⟨by first | exact Kd.R_nil _ _ _ _ _ | exact Kd.N_nil _ _ _ _ _ | exact Kd.V_nil _ _ _ _ _ | exact Kd.Q_nil _ _ _ _ _ | exact Kd.S_nil _ _ _ _ _⟩, ⟨by apply_rules [HO1228.out, Kd.R_alloc, Kd.R_drewN, Kd.R_drew]⟩, ⟨by apply_rules [HB.out, below_alloc, pw_below_drewN, below_drew1]⟩⟩
  case round =>
   clear H'
   obtain ⟨x4_1, x15_1, rfl, HA, HK1, HO_4, HO_13, HB⟩ := hrel
   cases gk with
   | zero => exact absurd HA.out (by simp [schismalaw11_parse.l0])
   | succ k1 =>
    have H := HA.out
    clear HA
    simp only [schismalaw11_parse.l0] at H
    by_cases c6 : x15_1 < (t1226.length : Int)
    ·rw [if_pos c6] at H
     have c6b0 : decide (x15_1 < (t1226.length : Int)) = true := decide_eq_true c6
     clear c6
     by_cases c7 : 0 ≤ x15_1
     case neg => rw [if_neg c7] at H; exact absurd H (by simp)
     rw [if_pos c7] at H
     have c7b0 : decide (0 ≤ x15_1) = true := decide_eq_true c7
     clear c7
     by_cases c8 : x15_1 < (t1226.length : Int)
     case neg => rw [if_neg c8] at H; exact absurd H (by simp)
     rw [if_pos c8] at H
     have c8b0 : decide (x15_1 < (t1226.length : Int)) = true := decide_eq_true c8
     clear c8
     replace H := Option.bind_eq_some_iff.mp H
     obtain ⟨⟨t1230, t1231⟩, A90, H⟩ := H
     try dsimp only at H
     have A9 := Aside0.mk A90
     clear A90
     rcases t1231 with _ | q1232
     ·have H1 : (if ((rdOf ByteArray.empty t1226 x15_1).size : Int) > 3 then (some (([] : List Int), false)) else ((strconv_Itoa.f t1230).bind fun t1233 => (if t1233.toList = (rdOf ByteArray.empty t1226 x15_1).toList then (if t1230 < 0 then (some (([] : List Int), false)) else (if x4_1.length < 17592186044416 then (schismalaw11_parse.l0 k1 (x4_1 ++ [t1230]) t1226 (t1226.length : Int) (wrap64 (x15_1 + 1))) else (none))) else (some (([] : List Int), false))))) = some (r1, r2) := by rw [if_pos (show (none : Option Int).isNone = true by rfl)] at H; exact H
      clear H
      have H := H1
      clear H1
      try simp only [errW_none, errW_some]
      by_cases c10 : ((rdOf ByteArray.empty t1226 x15_1).size : Int) > 3
      ·rw [if_pos c10] at H
       have c10b0 : decide (3 < ((rdOf ByteArray.empty t1226 x15_1).size : Int)) = true := decide_eq_true c10
       have c10b1 : decide (3 < (rdOf ByteArray.empty t1226 x15_1).size) = true := decide_eq_true (by omega)
       clear c10
       simp only [Option.some.injEq, Prod.mk.injEq] at H
       obtain ⟨rfl, rfl⟩ := H
       have p1229 : 0 ≤ (x15_1 : Int) := of_decide_eq_true (by assumption)
       have q1229 : x15_1 < (t1226.length : Int) := of_decide_eq_true (by assumption)
       obtain ⟨ad1229, e1229, hx1229_0⟩ := Kd.at_string (Kd.R_reads' HO_13.out).2.2 x15_1 p1229 q1229
       cases e1229
       replace p1229 := eq_true p1229
       replace q1229 := eq_true q1229
       go_wp2_with (first | ((with_reducible refine gate_callee (f := 133) rfl ?_); refine goesK (some 21) Tryz.func133 [.string (rdOf ByteArray.empty t1226 x15_1)] rfl rfl ?_; (with_reducible refine (strconv_Atoi.calls (rdOf ByteArray.empty t1226 x15_1) t1230 none _ ?side1 A9.out).mono ?_); (case side1 => refine TabW.below hT ?_; apply_rules [HB.out, below_alloc, pw_below_drewN, below_drew1]); rintro e w11 ⟨ex_, rfl, hx_, hb⟩; refine ⟨_, rfl, ?_⟩; replace HO_4 := Aside0.mk (Kd.R_below (by apply_rules [HO_4.out, Kd.R_alloc, Kd.R_drewN, Kd.R_drew]) hb); replace HO_13 := Aside0.mk (Kd.R_below (by apply_rules [HO_13.out, Kd.R_alloc, Kd.R_drewN, Kd.R_drew]) hb); replace HB := Aside0.mk (below_step (by apply_rules [HB.out, below_alloc, pw_below_drewN, below_drew1]) hb); (try clear hb); (first | (have hx2_ := errIs_none hx_; clear hx_; subst hx2_) | (obtain ⟨qx_, hx2_⟩ := errIs_some hx_; clear hx_; subst hx2_) | skip)))
       go_ret2
       exact ⟨(.slice none 0 0), by first | rfl | simp [*], by first | exact Kd.R_nil _ _ _ _ _ | exact Kd.N_nil _ _ _ _ _ | exact Kd.V_nil _ _ _ _ _ | exact Kd.Q_nil _ _ _ _ _ | exact Kd.S_nil _ _ _ _ _, by apply_rules [HB.out, below_alloc, pw_below_drewN, below_drew1]⟩
      ·rw [if_neg c10] at H
       have c10b0 : decide (3 < ((rdOf ByteArray.empty t1226 x15_1).size : Int)) = false := decide_eq_false c10
       have c10b1 : decide (3 < (rdOf ByteArray.empty t1226 x15_1).size) = false := decide_eq_false (by omega)
       clear c10
       replace H := Option.bind_eq_some_iff.mp H
       obtain ⟨t1233, A120, H⟩ := H
       try dsimp only at H
       have A12 := Aside0.mk A120
       clear A120
       by_cases c13 : t1233.toList = (rdOf ByteArray.empty t1226 x15_1).toList
       ·rw [if_pos c13] at H
        have c13b0 : (t1233.toList == (rdOf ByteArray.empty t1226 x15_1).toList) = true := beq_iff_eq.mpr c13
        have c13b1 : (t1233.toList != (rdOf ByteArray.empty t1226 x15_1).toList) = false := bne_eq_false_iff_eq.mpr c13
        clear c13
        by_cases c14 : t1230 < 0
        ·rw [if_pos c14] at H
         have c14b0 : decide (t1230 < 0) = true := decide_eq_true c14
         clear c14
         simp only [Option.some.injEq, Prod.mk.injEq] at H
         obtain ⟨rfl, rfl⟩ := H
         have p1229 : 0 ≤ (x15_1 : Int) := of_decide_eq_true (by assumption)
         have q1229 : x15_1 < (t1226.length : Int) := of_decide_eq_true (by assumption)
         obtain ⟨ad1229, e1229, hx1229_0⟩ := Kd.at_string (Kd.R_reads' HO_13.out).2.2 x15_1 p1229 q1229
         cases e1229
         replace p1229 := eq_true p1229
         replace q1229 := eq_true q1229
         go_wp2_with (first | ((with_reducible refine gate_callee (f := 133) rfl ?_); refine goesK (some 21) Tryz.func133 [.string (rdOf ByteArray.empty t1226 x15_1)] rfl rfl ?_; (with_reducible refine (strconv_Atoi.calls (rdOf ByteArray.empty t1226 x15_1) t1230 none _ ?side1 A9.out).mono ?_); (case side1 => refine TabW.below hT ?_; apply_rules [HB.out, below_alloc, pw_below_drewN, below_drew1]); rintro e w15 ⟨ex_, rfl, hx_, hb⟩; refine ⟨_, rfl, ?_⟩; replace HO_4 := Aside0.mk (Kd.R_below (by apply_rules [HO_4.out, Kd.R_alloc, Kd.R_drewN, Kd.R_drew]) hb); replace HO_13 := Aside0.mk (Kd.R_below (by apply_rules [HO_13.out, Kd.R_alloc, Kd.R_drewN, Kd.R_drew]) hb); replace HB := Aside0.mk (below_step (by apply_rules [HB.out, below_alloc, pw_below_drewN, below_drew1]) hb); (try clear hb); (first | (have hx2_ := errIs_none hx_; clear hx_; subst hx2_) | (obtain ⟨qx_, hx2_⟩ := errIs_some hx_; clear hx_; subst hx2_) | skip)) | (go_at_call 96; (with_reducible refine (strconv_Itoa.calls t1230 t1233 _ ?side1 A12.out).mono ?_); (case side1 => refine TabW.below hT ?_; apply_rules [HB.out, below_alloc, pw_below_drewN, below_drew1]); rintro e w16 ⟨rfl, hb⟩; replace HO_4 := Aside0.mk (Kd.R_below (by apply_rules [HO_4.out, Kd.R_alloc, Kd.R_drewN, Kd.R_drew]) hb); replace HO_13 := Aside0.mk (Kd.R_below (by apply_rules [HO_13.out, Kd.R_alloc, Kd.R_drewN, Kd.R_drew]) hb); replace HB := Aside0.mk (below_step (by apply_rules [HB.out, below_alloc, pw_below_drewN, below_drew1]) hb); (try clear hb)))
         go_ret2
         exact ⟨(.slice none 0 0), by first | rfl | simp [*], by first | exact Kd.R_nil _ _ _ _ _ | exact Kd.N_nil _ _ _ _ _ | exact Kd.V_nil _ _ _ _ _ | exact Kd.Q_nil _ _ _ _ _ | exact Kd.S_nil _ _ _ _ _, by apply_rules [HB.out, below_alloc, pw_below_drewN, below_drew1]⟩
        ·rw [if_neg c14] at H
         have c14b0 : decide (t1230 < 0) = false := decide_eq_false c14
         clear c14
         by_cases c17 : x4_1.length < 17592186044416
         case neg => rw [if_neg c17] at H; exact absurd H (by simp)
         rw [if_pos c17] at H
         have LMc17 := Aside0.mk c17
         clear c17
         obtain ⟨y1234, hy1234⟩ : ∃ y_ : List Int, y_ = (x4_1 ++ [t1230]) := ⟨_, rfl⟩
         replace H : (schismalaw11_parse.l0 k1 y1234 t1226 (t1226.length : Int) (wrap64 (x15_1 + 1))) = some (r1, r2) := by first | (rw [hy1234]; with_reducible exact H) | (have H2_ := (Option.bind_some _ _).symm.trans H; rw [hy1234]; with_reducible exact H2_) | (have H2_ := (Option.bind_some _ _).symm.trans H; with_reducible exact H2_) | with_reducible exact H | (rw [hy1234]; exact H) | exact H
         have Ny1234 := Aside0.mk hy1234
         clear hy1234
         have H' := Aside0.mk H
         clear H
         have p1229 : 0 ≤ (x15_1 : Int) := of_decide_eq_true (by assumption)
         have q1229 : x15_1 < (t1226.length : Int) := of_decide_eq_true (by assumption)
         obtain ⟨ad1229, e1229, hx1229_0⟩ := Kd.at_string (Kd.R_reads' HO_13.out).2.2 x15_1 p1229 q1229
         cases e1229
         replace p1229 := eq_true p1229
         replace q1229 := eq_true q1229
         go_wp2_with (first | ((with_reducible refine gate_callee (f := 133) rfl ?_); refine goesK (some 21) Tryz.func133 [.string (rdOf ByteArray.empty t1226 x15_1)] rfl rfl ?_; (with_reducible refine (strconv_Atoi.calls (rdOf ByteArray.empty t1226 x15_1) t1230 none _ ?side1 A9.out).mono ?_); (case side1 => refine TabW.below hT ?_; apply_rules [HB.out, below_alloc, pw_below_drewN, below_drew1]); rintro e w18 ⟨ex_, rfl, hx_, hb⟩; refine ⟨_, rfl, ?_⟩; replace HO_4 := Aside0.mk (Kd.R_below (by apply_rules [HO_4.out, Kd.R_alloc, Kd.R_drewN, Kd.R_drew]) hb); replace HO_13 := Aside0.mk (Kd.R_below (by apply_rules [HO_13.out, Kd.R_alloc, Kd.R_drewN, Kd.R_drew]) hb); replace HB := Aside0.mk (below_step (by apply_rules [HB.out, below_alloc, pw_below_drewN, below_drew1]) hb); (try clear hb); (first | (have hx2_ := errIs_none hx_; clear hx_; subst hx2_) | (obtain ⟨qx_, hx2_⟩ := errIs_some hx_; clear hx_; subst hx2_) | skip)) | (go_at_call 96; (with_reducible refine (strconv_Itoa.calls t1230 t1233 _ ?side1 A12.out).mono ?_); (case side1 => refine TabW.below hT ?_; apply_rules [HB.out, below_alloc, pw_below_drewN, below_drew1]); rintro e w19 ⟨rfl, hb⟩; replace HO_4 := Aside0.mk (Kd.R_below (by apply_rules [HO_4.out, Kd.R_alloc, Kd.R_drewN, Kd.R_drew]) hb); replace HO_13 := Aside0.mk (Kd.R_below (by apply_rules [HO_13.out, Kd.R_alloc, Kd.R_drewN, Kd.R_drew]) hb); replace HB := Aside0.mk (below_step (by apply_rules [HB.out, below_alloc, pw_below_drewN, below_drew1]) hb); (try clear hb)) | ((with_reducible refine gate_builtin (b := .append) (xs := #[.tmp 41, .tmp 43]) rfl ?_); (try (refine gate_guard (by rfl) ?_; dsimp only)); at_builtin; refine Kd.R_append (Kd.int .i64) (w0 := w) w.heap.size rfl (.tmp 41) (.tmp 43) 23 3 (.int .i64 0) 8 rfl Tryz.underlying23 info3 rfl (by decide) (by omega) u4 x4_1 t1230 [.int .i64 t1230] (fun _ => True) (fun _ => False) rfl rfl ?aP (fun _ hk => hk.elim) ?aF ?aO ?aB ?aS ?aL ?_; (case aP => exact rfl); (case aB => exact (by apply_rules [HB.out, below_alloc, pw_below_drewN, below_drew1])); (case aF => exact (fun _ _ => trivial)); (case aO => exact (by apply_rules [HO_4.out, Kd.R_alloc, Kd.R_drewN, Kd.R_drew])); (case aS => exact (below_size (by apply_rules [HB.out, below_alloc, pw_below_drewN, below_drew1]))); (case aL => have := LMc17.out; omega); intro v1235 w20 ho hb hg hat; rw [← Ny1234.out] at ho; replace HO_13 := Aside0.mk (Kd.R_over' (by apply_rules [HO_13.out, Kd.R_alloc, Kd.R_drewN, Kd.R_drew]) (Kd.R_typed (by apply_rules [HO_4.out, Kd.R_alloc, Kd.R_drewN, Kd.R_drew])) (by decide) hg); replace HB := Aside0.mk (hb); have HO1236 := Aside0.mk (ho); clear HO_4; clear ho hb hg hat))
         go_roundg k1
         case measure => have := HK1.out; omega
         case rel => exact ⟨(y1234), (wrap64 (x15_1 + 1)), (by first | rfl | (simp; done) | (simp [*]; done)), H', ⟨by have := HK1.out; omega⟩, ⟨by apply_rules [HO1236.out, Kd.R_alloc, Kd.R_drewN, Kd.R_drew]⟩, ⟨by apply_rules [HO_13.out, Kd.R_alloc, Kd.R_drewN, Kd.R_drew]⟩, ⟨by apply_rules [HB.out, below_alloc, pw_below_drewN, below_drew1]⟩⟩
       ·rw [if_neg c13] at H
        have c13b0 : (t1233.toList == (rdOf ByteArray.empty t1226 x15_1).toList) = false := beq_eq_false_iff_ne.mpr c13
        have c13b1 : (t1233.toList != (rdOf ByteArray.empty t1226 x15_1).toList) = true := bne_iff_ne.mpr c13
        simp only [Option.some.injEq, Prod.mk.injEq] at H
        obtain ⟨rfl, rfl⟩ := H
        have p1229 : 0 ≤ (x15_1 : Int) := of_decide_eq_true (by assumption)
        have q1229 : x15_1 < (t1226.length : Int) := of_decide_eq_true (by assumption)
        obtain ⟨ad1229, e1229, hx1229_0⟩ := Kd.at_string (Kd.R_reads' HO_13.out).2.2 x15_1 p1229 q1229
        cases e1229
        replace p1229 := eq_true p1229
        replace q1229 := eq_true q1229
        go_wp2_with (first | ((with_reducible refine gate_callee (f := 133) rfl ?_); refine goesK (some 21) Tryz.func133 [.string (rdOf ByteArray.empty t1226 x15_1)] rfl rfl ?_; (with_reducible refine (strconv_Atoi.calls (rdOf ByteArray.empty t1226 x15_1) t1230 none _ ?side1 A9.out).mono ?_); (case side1 => refine TabW.below hT ?_; apply_rules [HB.out, below_alloc, pw_below_drewN, below_drew1]); rintro e w21 ⟨ex_, rfl, hx_, hb⟩; refine ⟨_, rfl, ?_⟩; replace HO_4 := Aside0.mk (Kd.R_below (by apply_rules [HO_4.out, Kd.R_alloc, Kd.R_drewN, Kd.R_drew]) hb); replace HO_13 := Aside0.mk (Kd.R_below (by apply_rules [HO_13.out, Kd.R_alloc, Kd.R_drewN, Kd.R_drew]) hb); replace HB := Aside0.mk (below_step (by apply_rules [HB.out, below_alloc, pw_below_drewN, below_drew1]) hb); (try clear hb); (first | (have hx2_ := errIs_none hx_; clear hx_; subst hx2_) | (obtain ⟨qx_, hx2_⟩ := errIs_some hx_; clear hx_; subst hx2_) | skip)) | (go_at_call 96; (with_reducible refine (strconv_Itoa.calls t1230 t1233 _ ?side1 A12.out).mono ?_); (case side1 => refine TabW.below hT ?_; apply_rules [HB.out, below_alloc, pw_below_drewN, below_drew1]); rintro e w22 ⟨rfl, hb⟩; replace HO_4 := Aside0.mk (Kd.R_below (by apply_rules [HO_4.out, Kd.R_alloc, Kd.R_drewN, Kd.R_drew]) hb); replace HO_13 := Aside0.mk (Kd.R_below (by apply_rules [HO_13.out, Kd.R_alloc, Kd.R_drewN, Kd.R_drew]) hb); replace HB := Aside0.mk (below_step (by apply_rules [HB.out, below_alloc, pw_below_drewN, below_drew1]) hb); (try clear hb)))
        go_ret2
        exact ⟨(.slice none 0 0), by first | rfl | simp [*], by first | exact Kd.R_nil _ _ _ _ _ | exact Kd.N_nil _ _ _ _ _ | exact Kd.V_nil _ _ _ _ _ | exact Kd.Q_nil _ _ _ _ _ | exact Kd.S_nil _ _ _ _ _, by apply_rules [HB.out, below_alloc, pw_below_drewN, below_drew1]⟩
     ·have H1 : (some (([] : List Int), false)) = some (r1, r2) := by rw [if_neg (show ¬ (some q1232).isNone = true by simp)] at H; exact H
      clear H
      have H := H1
      clear H1
      try simp only [errW_none, errW_some]
      simp only [Option.some.injEq, Prod.mk.injEq] at H
      obtain ⟨rfl, rfl⟩ := H
      have p1229 : 0 ≤ (x15_1 : Int) := of_decide_eq_true (by assumption)
      have q1229 : x15_1 < (t1226.length : Int) := of_decide_eq_true (by assumption)
      obtain ⟨ad1229, e1229, hx1229_0⟩ := Kd.at_string (Kd.R_reads' HO_13.out).2.2 x15_1 p1229 q1229
      cases e1229
      replace p1229 := eq_true p1229
      replace q1229 := eq_true q1229
      go_wp2_with (first | ((with_reducible refine gate_callee (f := 133) rfl ?_); refine goesK (some 21) Tryz.func133 [.string (rdOf ByteArray.empty t1226 x15_1)] rfl rfl ?_; (with_reducible refine (strconv_Atoi.calls (rdOf ByteArray.empty t1226 x15_1) t1230 (some q1232) _ ?side1 A9.out).mono ?_); (case side1 => refine TabW.below hT ?_; apply_rules [HB.out, below_alloc, pw_below_drewN, below_drew1]); rintro e w23 ⟨ex_, rfl, hx_, hb⟩; refine ⟨_, rfl, ?_⟩; replace HO_4 := Aside0.mk (Kd.R_below (by apply_rules [HO_4.out, Kd.R_alloc, Kd.R_drewN, Kd.R_drew]) hb); replace HO_13 := Aside0.mk (Kd.R_below (by apply_rules [HO_13.out, Kd.R_alloc, Kd.R_drewN, Kd.R_drew]) hb); replace HB := Aside0.mk (below_step (by apply_rules [HB.out, below_alloc, pw_below_drewN, below_drew1]) hb); (try clear hb); (first | (have hx2_ := errIs_none hx_; clear hx_; subst hx2_) | (obtain ⟨qx_, hx2_⟩ := errIs_some hx_; clear hx_; subst hx2_) | skip)))
      go_ret2
      exact ⟨(.slice none 0 0), by first | rfl | simp [*], by first | exact Kd.R_nil _ _ _ _ _ | exact Kd.N_nil _ _ _ _ _ | exact Kd.V_nil _ _ _ _ _ | exact Kd.Q_nil _ _ _ _ _ | exact Kd.S_nil _ _ _ _ _, by apply_rules [HB.out, below_alloc, pw_below_drewN, below_drew1]⟩
    ·rw [if_neg c6] at H
     have c6b0 : decide (x15_1 < (t1226.length : Int)) = false := decide_eq_false c6
     clear c6
     simp only [Option.some.injEq, Prod.mk.injEq] at H
     obtain ⟨rfl, rfl⟩ := H
     go_wp2
     go_ret2
     exact ⟨_, by first | rfl | simp [*], by (with_reducible repeat (first | apply Kd.R_alloc | apply Kd.R_drewN | apply Kd.R_drew)); exact HO_4.out, by apply_rules [HB.out, below_alloc, pw_below_drewN, below_drew1]⟩
end Go.Proofs.YtccebdpjdpjgnaaGreatDoor.P
end
section
namespace Go.Proofs.YtccebdpjdpjgnaaGreatDoor.P
open Go.RowKit Go.Proofs.YtccebdpjdpjgnaaGreatDoorW.PrintWords Go.Proofs.YtccebdpjdpjgnaaGreatDoorW.PrintLast Go.Proofs.YtccebdpjdpjgnaaGreatDoorW.PrintMore
attribute [local go_sem] max2_int min2_int max_two min_two max_three min_three max_four min_four
mutual
def schismalaw11_PrimeTexts.j0 : Nat → ByteArray → Bool → Int → Int → Option (Bool)
 | 0, _, _, _, _ => none
 | k + 1, x1, x21, x1238000, x1238001 => if x21 = true then ((schismalaw11_known.f k).bind fun t1239 => (some t1239)) else ((schismalaw11_Make.f k x1238000).bind fun t1240 => ((prime_Text.f k t1240).bind fun bt1243 => ((prime_Parse.f k bt1243.1).bind fun bt1245 => (if bt1243.2 = 0 then ((schismalaw11_text.f k t1240).bind fun t1249 => (if bt1243.1.toList = t1249.toList then (if bt1245.2 = 0 then ((api_Primes_int_63.f k bt1245.1 t1240).bind fun t1250 => (schismalaw11_PrimeTexts.j1 k x1 (!t1250))) else (schismalaw11_PrimeTexts.j1 k x1 true)) else (schismalaw11_PrimeTexts.j1 k x1 true))) else (schismalaw11_PrimeTexts.j1 k x1 true)))))
def schismalaw11_PrimeTexts.j1 : Nat → ByteArray → Bool → Option (Bool)
 | 0, _, _ => none
 | k + 1, x1, x53 => if x53 = true then (some false) else ((prime_Parse.f k x1).bind fun bt1251 => ((schismalaw11_parse.f k x1).bind fun bt1255 => (if bt1255.2 = true then ((schismalaw11_check.f k bt1255.1).bind fun t1259 => (if t1259 = 0 then (if bt1251.2 = 0 then ((api_Primes_int_63.f k bt1251.1 bt1255.1).bind fun t1260 => (some t1260)) else (some false)) else (if bt1251.2 = t1259 then (some ((bt1251.1.length : Int) == 0)) else (some false)))) else (if bt1251.2 = 15 then (some ((bt1251.1.length : Int) == 0)) else (some false)))))
end
def schismalaw11_PrimeTexts.f (k : Nat) (a0_0 : Int) (a0_1 : Int) (a1 : ByteArray) : Option (Bool) := (schismalaw11_known.f k).bind fun t1238 => (if t1238 = true then (schismalaw11_PrimeTexts.j0 k a1 (decide ((a1.size : Int) > 50)) a0_0 a0_1) else (schismalaw11_PrimeTexts.j0 k a1 true a0_0 a0_1))
theorem schismalaw11_PrimeTexts.j1_no {k : Nat} {x1} {r : Bool} (h : schismalaw11_PrimeTexts.j1 k x1 true = some r) (e : r = true) : False := by
 subst e
 cases k <;> simp [schismalaw11_PrimeTexts.j1] at h
set_option maxHeartbeats 8000000 in
set_option maxRecDepth 100000 in
theorem schismalaw11_PrimeTexts.calls (k : Nat) (a0_0 : Int) (a0_1 : Int) (a1 : ByteArray) (r : Bool) (w : World) (hT : TabW w) (h : schismalaw11_PrimeTexts.f k a0_0 a0_1 a1 = some r) (hr : r = true) (hk : ∀ k, schismalaw11_known.f k ≠ some false) :
  Calls Tryz.prog 14 #[.agg #[.int .u16 a0_0, .int .u16 a0_1], .string a1] w fun e w' => e = .returned (.bool r) ∧ Below w.heap.size w w' := by
 have hu88 := Tryz.underlying88
 have HB := Aside0.mk (Below.refl w.heap.size w)
 have H : ((schismalaw11_known.f k).bind fun t1238 => (if t1238 = true then (schismalaw11_PrimeTexts.j0 k a1 (decide ((a1.size : Int) > 50)) a0_0 a0_1) else (schismalaw11_PrimeTexts.j0 k a1 true a0_0 a0_1))) = some r := h
 clear h
 have HC3 := Aside0.mk H
 clear H
 go_enter Tryz.func14, Tryz.ntmps14
 go_upto_region 1 with (first | ((with_reducible refine gate_dst (N := 2) rfl ?_); (try (refine gate_guard (by rfl) ?_; dsimp only)); refine box_event ?hg (N := 2) ?hd (cs := #[.int .u16 a0_0, .int .u16 a0_1]) (t := 88) ?hr ?_; (case hd => rfl); (case hg => rfl); (case hr => go_simp; try rfl); intro gb1237 hg w4 hbox hb; have n0_ := Aside0.mk (below_step (by apply_rules [HB.out, below_alloc, pw_below_drewN, below_drew1]) hb); have n1_ := Aside0.mk (hbox); have n2_ := Aside0.mk ((by rw [hg]; exact (below_size (by apply_rules [HB.out, below_alloc, pw_below_drewN, below_drew1])) : w.heap.size ≤ gb1237)); have n3_ := Aside0.mk ((by rw [hg]; exact (below_size (by apply_rules [HB.out, below_alloc, pw_below_drewN, below_drew1])) : w.heap.size ≤ gb1237)); clear HB; have HB := n0_; have BK1237 := n1_; have GW1237 := n2_; have GE1237 := n3_; clear n0_ n1_ n2_ n3_; clear hb hbox hg))
 (try simp only [Act.put, List.setIfInBounds_toArray, List.set_cons_zero, List.set_cons_succ])
 go_cut [21] (fun v21 wc => ∃ (kq : Nat) (x21_2 : Bool), v21 = .bool x21_2 ∧ Aside0 (schismalaw11_PrimeTexts.j0 kq a1 x21_2 a0_0 a0_1 = some r) ∧ Aside0 (kq ≤ k) ∧ Aside0 (wc.heap[gb1237]? = some (.cells #[.int .u16 a0_0, .int .u16 a0_1] 88 (0, 0))) ∧ Aside0 (Below w.heap.size w wc))
 case first =>
  have H := HC3.out
  clear HC3
  replace H := Option.bind_eq_some_iff.mp H
  obtain ⟨t1238, A50, H⟩ := H
  try dsimp only at H
  have A5 := Aside0.mk A50
  clear A50
  by_cases c6 : t1238 = true
  ·subst c6
   have H1 : (schismalaw11_PrimeTexts.j0 k a1 (decide ((a1.size : Int) > 50)) a0_0 a0_1) = some r := by rw [if_pos rfl] at H; exact H
   clear H
   have H := H1
   clear H1
   have H' := Aside0.mk H
   clear H
   go_wp2_with (first | ((with_reducible refine gate_callee (f := 58) rfl ?_); refine goesK (some 15) Tryz.func58 [] rfl rfl ?_; (with_reducible refine (schismalaw11_known.calls k  true _ ?side1 A5.out (by first | rfl | assumption)).mono ?_); (case side1 => refine TabW.below hT ?_; apply_rules [HB.out, below_alloc, pw_below_drewN, below_drew1, below_set, GE1237.out]); rintro e w7 ⟨rfl, hb⟩; refine ⟨_, rfl, ?_⟩; replace BK1237 := Aside0.mk (blk_below (g := gb1237) (o := .cells #[.int .u16 a0_0, .int .u16 a0_1] 88 (0, 0)) (by apply_rules [BK1237.out, blk_drewN, blk_drew, blk_alloc]) hb); replace HB := Aside0.mk (below_step (by apply_rules [HB.out, below_alloc, pw_below_drewN, below_drew1, below_set, GE1237.out]) hb); (try clear hb)))
   go_meet
   case rel => exact ⟨_, (decide ((a1.size : Int) > 50)), (by first | rfl | (simp; done) | (simp [*]; done)), H', ⟨by first | omega | exact Nat.le_refl _⟩, ⟨by apply_rules [BK1237.out, blk_drewN, blk_drew, blk_alloc]⟩, ⟨by apply_rules [HB.out, below_alloc, pw_below_drewN, below_drew1, below_set, GE1237.out]⟩⟩
  ·replace c6 := Bool.eq_false_iff.mpr c6
   subst c6
   have H1 : (schismalaw11_PrimeTexts.j0 k a1 true a0_0 a0_1) = some r := by rw [if_neg (show ¬ (false = true) by decide)] at H; exact H
   clear H
   have H := H1
   clear H1
   have H' := Aside0.mk H
   clear H
   exact absurd A5.out (hk _)
 case rest =>
  clear HC3
  obtain ⟨kq, x21_2, rfl, HA, HJ2, BK1237, HB⟩ := hcut
  cases kq with
  | zero => exact absurd HA.out (by simp [schismalaw11_PrimeTexts.j0])
  | succ kj2 =>
   have H := HA.out
   clear HA
   simp only [schismalaw11_PrimeTexts.j0] at H
   by_cases c9 : x21_2 = true
   ·subst c9
    have H1 : ((schismalaw11_known.f kj2).bind fun t1239 => (some t1239)) = some r := by rw [if_pos rfl] at H; exact H
    clear H
    have H := H1
    clear H1
    replace H := Option.bind_eq_some_iff.mp H
    obtain ⟨t1239, A100, H⟩ := H
    try dsimp only at H
    have A10 := Aside0.mk A100
    clear A100
    obtain rfl := Option.some.inj H
    go_wp2_with (first | ((with_reducible refine gate_callee (f := 58) rfl ?_); refine goesK (some 22) Tryz.func58 [] rfl rfl ?_; (with_reducible refine (schismalaw11_known.calls kj2  t1239 _ ?side1 A10.out (by first | rfl | assumption)).mono ?_); (case side1 => refine TabW.below hT ?_; apply_rules [HB.out, below_alloc, pw_below_drewN, below_drew1, below_set, GE1237.out]); rintro e w11 ⟨rfl, hb⟩; refine ⟨_, rfl, ?_⟩; replace BK1237 := Aside0.mk (blk_below (g := gb1237) (o := .cells #[.int .u16 a0_0, .int .u16 a0_1] 88 (0, 0)) (by apply_rules [BK1237.out, blk_drewN, blk_drew, blk_alloc]) hb); replace HB := Aside0.mk (below_step (by apply_rules [HB.out, below_alloc, pw_below_drewN, below_drew1, below_set, GE1237.out]) hb); (try clear hb)))
    go_ret
    exact ⟨by first | rfl | simp [*], by apply_rules [HB.out, below_alloc, pw_below_drewN, below_drew1, below_set, GE1237.out]⟩
   ·replace c9 := Bool.eq_false_iff.mpr c9
    subst c9
    have H1 : ((schismalaw11_Make.f kj2 a0_0).bind fun t1240 => ((prime_Text.f kj2 t1240).bind fun bt1243 => ((prime_Parse.f kj2 bt1243.1).bind fun bt1245 => (if bt1243.2 = 0 then ((schismalaw11_text.f kj2 t1240).bind fun t1249 => (if bt1243.1.toList = t1249.toList then (if bt1245.2 = 0 then ((api_Primes_int_63.f kj2 bt1245.1 t1240).bind fun t1250 => (schismalaw11_PrimeTexts.j1 kj2 a1 (!t1250))) else (schismalaw11_PrimeTexts.j1 kj2 a1 true)) else (schismalaw11_PrimeTexts.j1 kj2 a1 true))) else (schismalaw11_PrimeTexts.j1 kj2 a1 true))))) = some r := by rw [if_neg (show ¬ (false = true) by decide)] at H; exact H
    clear H
    have H := H1
    clear H1
    replace H := Option.bind_eq_some_iff.mp H
    obtain ⟨t1240, A120, H⟩ := H
    try dsimp only at H
    have A12 := Aside0.mk A120
    clear A120
    replace H := Option.bind_eq_some_iff.mp H
    obtain ⟨⟨t1243, t1244⟩, A130, H⟩ := H
    try dsimp only at H
    have A13 := Aside0.mk A130
    clear A130
    replace H := Option.bind_eq_some_iff.mp H
    obtain ⟨⟨t1245, t1246⟩, A140, H⟩ := H
    try dsimp only at H
    have A14 := Aside0.mk A140
    clear A140
    have HC15 := Aside0.mk H
    clear H
    have hcz16_0 : wc.cell? ⟨gb1237, 0, none⟩ = some (.int .u16 a0_0) := (blk_cell BK1237.out 0).trans rfl
    have hcz16_1 : wc.cell? ⟨gb1237, 1, none⟩ = some (.int .u16 a0_1) := (blk_cell BK1237.out 1).trans rfl
    have hfz16_0 := blk_frozen BK1237.out 0
    have hfz16_1 := blk_frozen BK1237.out 1
    go_upto_region 6 with (first | ((with_reducible refine gate_callee (f := 66) rfl ?_); refine goesK (some 25) Tryz.func66 [.int .u16 a0_0] rfl rfl ?_; (with_reducible refine (schismalaw11_Make.calls kj2 a0_0 t1240 _ A12.out).mono ?_); rintro e w17 ⟨v1241, rfl, ho0, hb⟩; refine ⟨_, rfl, ?_⟩; have HO1242 := Aside0.mk (Kd.R_lower ho0 (below_size (by apply_rules [HB.out, below_alloc, pw_below_drewN, below_drew1, below_set, GE1237.out]))); replace BK1237 := Aside0.mk (blk_below (g := gb1237) (o := .cells #[.int .u16 a0_0, .int .u16 a0_1] 88 (0, 0)) (by apply_rules [BK1237.out, blk_drewN, blk_drew, blk_alloc]) hb); replace HB := Aside0.mk (below_step (by apply_rules [HB.out, below_alloc, pw_below_drewN, below_drew1, below_set, GE1237.out]) hb); (try clear hb); (try clear ho0); obtain ⟨Ao18, co18, eo18⟩ := Kd.R_slice HO1242.out; subst eo18) | ((with_reducible refine gate_callee (f := 72) rfl ?_); refine goesK (some 28) Tryz.func72 [.slice Ao18 t1240.length co18] rfl rfl ?_; (with_reducible refine (prime_Text.calls kj2 _ _ t1240 t1243 t1244 _ ?side1 ?side2 ?side3 A13.out).mono ?_); (case side1 => refine TabW.below hT ?_; apply_rules [HB.out, below_alloc, pw_below_drewN, below_drew1, below_set, GE1237.out]); (case side2 => apply_rules [(Kd.R_reads' HO1242.out).2.2, Kd.C_alloc, Kd.C_drewN, Kd.C_drew]); (case side3 => exact (Kd.R_reads' HO1242.out).2.1); rintro e w19 ⟨rfl, hb⟩; refine ⟨_, rfl, ?_⟩; replace HO1242 := Aside0.mk (Kd.R_below (by apply_rules [HO1242.out, Kd.R_alloc, Kd.R_drewN, Kd.R_drew]) hb); replace BK1237 := Aside0.mk (blk_below (g := gb1237) (o := .cells #[.int .u16 a0_0, .int .u16 a0_1] 88 (0, 0)) (by apply_rules [BK1237.out, blk_drewN, blk_drew, blk_alloc]) hb); replace HB := Aside0.mk (below_step (by apply_rules [HB.out, below_alloc, pw_below_drewN, below_drew1, below_set, GE1237.out]) hb); (try clear hb)) | ((with_reducible refine gate_callee (f := 73) rfl ?_); refine goesK (some 33) Tryz.func73 [.string t1243] rfl rfl ?_; (with_reducible refine (prime_Parse.calls kj2 t1243 t1245 t1246 _ ?side1 A14.out).mono ?_); (case side1 => refine TabW.below hT ?_; apply_rules [HB.out, below_alloc, pw_below_drewN, below_drew1, below_set, GE1237.out]); rintro e w20 ⟨v1247, rfl, ho0, hb⟩; refine ⟨_, rfl, ?_⟩; have n0_ := Aside0.mk (Kd.R_elder' (by apply_rules [HO1242.out, Kd.R_alloc, Kd.R_drewN, Kd.R_drew]) (Kd.R_base ho0) hb); have n1_ := Aside0.mk (Kd.R_lower (Kd.R_new' ho0 (Kd.R_lt (by apply_rules [HO1242.out, Kd.R_alloc, Kd.R_drewN, Kd.R_drew]))) (below_size (by apply_rules [HB.out, below_alloc, pw_below_drewN, below_drew1, below_set, GE1237.out]))); have n2_ := Aside0.mk (blk_below (g := gb1237) (o := .cells #[.int .u16 a0_0, .int .u16 a0_1] 88 (0, 0)) (by apply_rules [BK1237.out, blk_drewN, blk_drew, blk_alloc]) hb); have n3_ := Aside0.mk (below_step (by apply_rules [HB.out, below_alloc, pw_below_drewN, below_drew1, below_set, GE1237.out]) hb); clear HO1242; clear BK1237; clear HB; have HO1242 := n0_; have HO1248 := n1_; have BK1237 := n2_; have HB := n3_; clear n0_ n1_ n2_ n3_; (try clear hb); (try clear ho0)))
    (try simp only [Act.put, List.setIfInBounds_toArray, List.set_cons_zero, List.set_cons_succ])
    go_cut [53] (fun v53 wc => ∃ (kq : Nat) (x53_14 : Bool), v53 = .bool x53_14 ∧ Aside0 (schismalaw11_PrimeTexts.j1 kq a1 x53_14 = some r) ∧ Aside0 (kq ≤ kj2) ∧ Aside0 (wc.heap[gb1237]? = some (.cells #[.int .u16 a0_0, .int .u16 a0_1] 88 (0, 0))) ∧ Aside0 (Below w.heap.size w wc))
    case first =>
     have H := HC15.out
     clear HC15
     by_cases c21 : t1244 = 0
     case neg => rw [if_neg c21] at H; have c21b0 : (t1244 == 0) = false := beq_eq_false_iff_ne.mpr c21; have c21b1 : (t1244 != 0) = true := bne_iff_ne.mpr c21; (first | rw [c21b0] | (simp only [i64_w, i32_w]; rw [c21b0]) | skip); exact (schismalaw11_PrimeTexts.j1_no H hr).elim
     rw [if_pos c21] at H
     have c21b0 : (t1244 == 0) = true := beq_iff_eq.mpr c21
     have c21b1 : (t1244 != 0) = false := bne_eq_false_iff_eq.mpr c21
     clear c21
     (first | rw [c21b0] | (simp only [i64_w, i32_w]; rw [c21b0]) | skip)
     replace H := Option.bind_eq_some_iff.mp H
     obtain ⟨t1249, A220, H⟩ := H
     try dsimp only at H
     have A22 := Aside0.mk A220
     clear A220
     by_cases c23 : t1243.toList = t1249.toList
     case neg => rw [if_neg c23] at H; have c23b0 : (t1243.toList == t1249.toList) = false := beq_eq_false_iff_ne.mpr c23; have c23b1 : (t1243.toList != t1249.toList) = true := bne_iff_ne.mpr c23; exact (schismalaw11_PrimeTexts.j1_no H hr).elim
     rw [if_pos c23] at H
     have c23b0 : (t1243.toList == t1249.toList) = true := beq_iff_eq.mpr c23
     have c23b1 : (t1243.toList != t1249.toList) = false := bne_eq_false_iff_eq.mpr c23
     clear c23
     by_cases c24 : t1246 = 0
     case neg => rw [if_neg c24] at H; have c24b0 : (t1246 == 0) = false := beq_eq_false_iff_ne.mpr c24; have c24b1 : (t1246 != 0) = true := bne_iff_ne.mpr c24; exact (schismalaw11_PrimeTexts.j1_no H hr).elim
     rw [if_pos c24] at H
     have c24b0 : (t1246 == 0) = true := beq_iff_eq.mpr c24
     have c24b1 : (t1246 != 0) = false := bne_eq_false_iff_eq.mpr c24
     clear c24
     replace H := Option.bind_eq_some_iff.mp H
     obtain ⟨t1250, A250, H⟩ := H
     try dsimp only at H
     have A25 := Aside0.mk A250
     clear A250
     have H' := Aside0.mk H
     clear H
     go_wp2_with (first | (go_at_call 74; (with_reducible refine (schismalaw11_text.calls kj2 _ _ t1240 t1249 _ ?side1 ?side2 ?side3 A22.out).mono ?_); (case side1 => refine TabW.below hT ?_; apply_rules [HB.out, below_alloc, pw_below_drewN, below_drew1, below_set, GE1237.out]); (case side2 => apply_rules [(Kd.R_reads' HO1242.out).2.2, Kd.C_alloc, Kd.C_drewN, Kd.C_drew]); (case side3 => exact (Kd.R_reads' HO1242.out).2.1); rintro e w26 ⟨rfl, hb⟩; replace HO1242 := Aside0.mk (Kd.R_below (by apply_rules [HO1242.out, Kd.R_alloc, Kd.R_drewN, Kd.R_drew]) hb); replace HO1248 := Aside0.mk (Kd.R_below (by apply_rules [HO1248.out, Kd.R_alloc, Kd.R_drewN, Kd.R_drew]) hb); replace BK1237 := Aside0.mk (blk_below (g := gb1237) (o := .cells #[.int .u16 a0_0, .int .u16 a0_1] 88 (0, 0)) (by apply_rules [BK1237.out, blk_drewN, blk_drew, blk_alloc]) hb); replace HB := Aside0.mk (below_step (by apply_rules [HB.out, below_alloc, pw_below_drewN, below_drew1, below_set, GE1237.out]) hb); (try clear hb); obtain ⟨Ao27, co27, eo27⟩ := Kd.R_slice HO1248.out; subst eo27) | (go_at_call 63; (with_reducible refine (api_Primes_int_63.calls kj2 _ _ t1245 _ _ t1240 t1250 _ ?side1 ?side2 ?side3 ?side4 A25.out).mono ?_); (case side1 => apply_rules [(Kd.R_reads' HO1248.out).2.2, Kd.C_alloc, Kd.C_drewN, Kd.C_drew]); (case side2 => exact (Kd.R_reads' HO1248.out).2.1); (case side3 => apply_rules [(Kd.R_reads' HO1242.out).2.2, Kd.C_alloc, Kd.C_drewN, Kd.C_drew]); (case side4 => exact (Kd.R_reads' HO1242.out).2.1); rintro e w' ⟨rfl, ⟨nd, rfl⟩⟩))
     go_meet
     case rel => exact ⟨_, (!t1250), (by first | rfl | (simp; done) | (simp [*]; done)), H', ⟨by have := HJ2.out; first | omega | exact Nat.le_refl _⟩, ⟨by apply_rules [BK1237.out, blk_drewN, blk_drew, blk_alloc]⟩, ⟨by apply_rules [HB.out, below_alloc, pw_below_drewN, below_drew1, below_set, GE1237.out]⟩⟩
    case rest =>
     clear HC15
     obtain ⟨kq, x53_14, rfl, HA, HJ14, BK1237, HB⟩ := hcut
     cases kq with
     | zero => exact absurd HA.out (by simp [schismalaw11_PrimeTexts.j1])
     | succ kj14 =>
      have H := HA.out
      clear HA
      simp only [schismalaw11_PrimeTexts.j1] at H
      by_cases c30 : x53_14 = true
      ·subst c30
       have H1 : (some false) = some r := by rw [if_pos rfl] at H; exact H
       clear H
       have H := H1
       clear H1
       exact absurd ((Option.some.inj H).trans hr) Bool.false_ne_true
      ·replace c30 := Bool.eq_false_iff.mpr c30
       subst c30
       have H1 : ((prime_Parse.f kj14 a1).bind fun bt1251 => ((schismalaw11_parse.f kj14 a1).bind fun bt1255 => (if bt1255.2 = true then ((schismalaw11_check.f kj14 bt1255.1).bind fun t1259 => (if t1259 = 0 then (if bt1251.2 = 0 then ((api_Primes_int_63.f kj14 bt1251.1 bt1255.1).bind fun t1260 => (some t1260)) else (some false)) else (if bt1251.2 = t1259 then (some ((bt1251.1.length : Int) == 0)) else (some false)))) else (if bt1251.2 = 15 then (some ((bt1251.1.length : Int) == 0)) else (some false))))) = some r := by rw [if_neg (show ¬ (false = true) by decide)] at H; exact H
       clear H
       have H := H1
       clear H1
       replace H := Option.bind_eq_some_iff.mp H
       obtain ⟨⟨t1251, t1252⟩, A310, H⟩ := H
       try dsimp only at H
       have A31 := Aside0.mk A310
       clear A310
       replace H := Option.bind_eq_some_iff.mp H
       obtain ⟨⟨t1255, t1256⟩, A320, H⟩ := H
       try dsimp only at H
       have A32 := Aside0.mk A320
       clear A320
       by_cases c33 : t1256 = true
       ·subst c33
        have H1 : ((schismalaw11_check.f kj14 t1255).bind fun t1259 => (if t1259 = 0 then (if t1252 = 0 then ((api_Primes_int_63.f kj14 t1251 t1255).bind fun t1260 => (some t1260)) else (some false)) else (if t1252 = t1259 then (some ((t1251.length : Int) == 0)) else (some false)))) = some r := by rw [if_pos rfl] at H; exact H
        clear H
        have H := H1
        clear H1
        replace H := Option.bind_eq_some_iff.mp H
        obtain ⟨t1259, A340, H⟩ := H
        try dsimp only at H
        have A34 := Aside0.mk A340
        clear A340
        by_cases c35 : t1259 = 0
        ·rw [if_pos c35] at H
         have c35b0 : (t1259 == 0) = true := beq_iff_eq.mpr c35
         have c35b1 : (t1259 != 0) = false := bne_eq_false_iff_eq.mpr c35
         clear c35
         by_cases c36 : t1252 = 0
         case neg => rw [if_neg c36] at H; have c36b0 : (t1252 == 0) = false := beq_eq_false_iff_ne.mpr c36; have c36b1 : (t1252 != 0) = true := bne_iff_ne.mpr c36; exact absurd ((Option.some.inj H).trans hr) Bool.false_ne_true
         rw [if_pos c36] at H
         have c36b0 : (t1252 == 0) = true := beq_iff_eq.mpr c36
         have c36b1 : (t1252 != 0) = false := bne_eq_false_iff_eq.mpr c36
         clear c36
         replace H := Option.bind_eq_some_iff.mp H
         obtain ⟨t1260, A370, H⟩ := H
         try dsimp only at H
         have A37 := Aside0.mk A370
         clear A370
         obtain rfl := Option.some.inj H
         go_wp2_with (first | ((with_reducible refine gate_callee (f := 73) rfl ?_); refine goesK (some 56) Tryz.func73 [.string a1] rfl rfl ?_; (with_reducible refine (prime_Parse.calls kj14 a1 t1251 t1252 _ ?side1 A31.out).mono ?_); (case side1 => refine TabW.below hT ?_; apply_rules [HB.out, below_alloc, pw_below_drewN, below_drew1, below_set, GE1237.out]); rintro e w38 ⟨v1253, rfl, ho0, hb⟩; refine ⟨_, rfl, ?_⟩; have HO1254 := Aside0.mk (Kd.R_lower ho0 (below_size (by apply_rules [HB.out, below_alloc, pw_below_drewN, below_drew1, below_set, GE1237.out]))); replace BK1237 := Aside0.mk (blk_below (g := gb1237) (o := .cells #[.int .u16 a0_0, .int .u16 a0_1] 88 (0, 0)) (by apply_rules [BK1237.out, blk_drewN, blk_drew, blk_alloc]) hb); replace HB := Aside0.mk (below_step (by apply_rules [HB.out, below_alloc, pw_below_drewN, below_drew1, below_set, GE1237.out]) hb); (try clear hb); (try clear ho0)) | ((with_reducible refine gate_callee (f := 75) rfl ?_); refine goesK (some 61) Tryz.func75 [.string a1] rfl rfl ?_; (with_reducible refine (schismalaw11_parse.calls kj14 a1 t1255 true _ ?side1 A32.out).mono ?_); (case side1 => refine TabW.below hT ?_; apply_rules [HB.out, below_alloc, pw_below_drewN, below_drew1, below_set, GE1237.out]); rintro e w39 ⟨v1257, rfl, ho0, hb⟩; refine ⟨_, rfl, ?_⟩; have n0_ := Aside0.mk (Kd.R_elder' (by apply_rules [HO1254.out, Kd.R_alloc, Kd.R_drewN, Kd.R_drew]) (Kd.R_base ho0) hb); have n1_ := Aside0.mk (Kd.R_lower (Kd.R_new' ho0 (Kd.R_lt (by apply_rules [HO1254.out, Kd.R_alloc, Kd.R_drewN, Kd.R_drew]))) (below_size (by apply_rules [HB.out, below_alloc, pw_below_drewN, below_drew1, below_set, GE1237.out]))); have n2_ := Aside0.mk (blk_below (g := gb1237) (o := .cells #[.int .u16 a0_0, .int .u16 a0_1] 88 (0, 0)) (by apply_rules [BK1237.out, blk_drewN, blk_drew, blk_alloc]) hb); have n3_ := Aside0.mk (below_step (by apply_rules [HB.out, below_alloc, pw_below_drewN, below_drew1, below_set, GE1237.out]) hb); clear HO1254; clear BK1237; clear HB; have HO1254 := n0_; have HO1258 := n1_; have BK1237 := n2_; have HB := n3_; clear n0_ n1_ n2_ n3_; (try clear hb); (try clear ho0); obtain ⟨Ao40, co40, eo40⟩ := Kd.R_slice HO1258.out; subst eo40) | ((with_reducible refine gate_callee (f := 61) rfl ?_); refine goesK (some 74) Tryz.func61 [.slice Ao40 t1255.length co40] rfl rfl ?_; (with_reducible refine (schismalaw11_check.calls kj14 _ _ t1255 t1259 _ ?side1 ?side2 A34.out).mono ?_); (case side1 => apply_rules [(Kd.R_reads' HO1258.out).2.2, Kd.C_alloc, Kd.C_drewN, Kd.C_drew]); (case side2 => exact (Kd.R_reads' HO1258.out).2.1); rintro e w' ⟨rfl, ⟨nd, rfl⟩⟩; refine ⟨_, rfl, ?_⟩; obtain ⟨Ao41, co41, eo41⟩ := Kd.R_slice HO1254.out; subst eo41) | (go_at_call 63; (with_reducible refine (api_Primes_int_63.calls kj14 _ _ t1251 _ _ t1255 t1260 _ ?side1 ?side2 ?side3 ?side4 A37.out).mono ?_); (case side1 => apply_rules [(Kd.R_reads' HO1254.out).2.2, Kd.C_alloc, Kd.C_drewN, Kd.C_drew]); (case side2 => exact (Kd.R_reads' HO1254.out).2.1); (case side3 => apply_rules [(Kd.R_reads' HO1258.out).2.2, Kd.C_alloc, Kd.C_drewN, Kd.C_drew]); (case side4 => exact (Kd.R_reads' HO1258.out).2.1); rintro e w' ⟨rfl, ⟨nd, rfl⟩⟩))
         go_ret
         exact ⟨by first | rfl | simp [*], by apply_rules [HB.out, below_alloc, pw_below_drewN, below_drew1, below_set, GE1237.out]⟩
        ·rw [if_neg c35] at H
         have c35b0 : (t1259 == 0) = false := beq_eq_false_iff_ne.mpr c35
         have c35b1 : (t1259 != 0) = true := bne_iff_ne.mpr c35
         by_cases c45 : t1252 = t1259
         case neg => rw [if_neg c45] at H; have c45b0 : (t1252 == t1259) = false := beq_eq_false_iff_ne.mpr c45; have c45b1 : (t1252 != t1259) = true := bne_iff_ne.mpr c45; exact absurd ((Option.some.inj H).trans hr) Bool.false_ne_true
         rw [if_pos c45] at H
         have c45b0 : (t1252 == t1259) = true := beq_iff_eq.mpr c45
         have c45b1 : (t1252 != t1259) = false := bne_eq_false_iff_eq.mpr c45
         clear c45
         obtain rfl := Option.some.inj H
         go_wp2_with (first | ((with_reducible refine gate_callee (f := 73) rfl ?_); refine goesK (some 56) Tryz.func73 [.string a1] rfl rfl ?_; (with_reducible refine (prime_Parse.calls kj14 a1 t1251 t1252 _ ?side1 A31.out).mono ?_); (case side1 => refine TabW.below hT ?_; apply_rules [HB.out, below_alloc, pw_below_drewN, below_drew1, below_set, GE1237.out]); rintro e w46 ⟨v1253, rfl, ho0, hb⟩; refine ⟨_, rfl, ?_⟩; have HO1254 := Aside0.mk (Kd.R_lower ho0 (below_size (by apply_rules [HB.out, below_alloc, pw_below_drewN, below_drew1, below_set, GE1237.out]))); replace BK1237 := Aside0.mk (blk_below (g := gb1237) (o := .cells #[.int .u16 a0_0, .int .u16 a0_1] 88 (0, 0)) (by apply_rules [BK1237.out, blk_drewN, blk_drew, blk_alloc]) hb); replace HB := Aside0.mk (below_step (by apply_rules [HB.out, below_alloc, pw_below_drewN, below_drew1, below_set, GE1237.out]) hb); (try clear hb); (try clear ho0)) | ((with_reducible refine gate_callee (f := 75) rfl ?_); refine goesK (some 61) Tryz.func75 [.string a1] rfl rfl ?_; (with_reducible refine (schismalaw11_parse.calls kj14 a1 t1255 true _ ?side1 A32.out).mono ?_); (case side1 => refine TabW.below hT ?_; apply_rules [HB.out, below_alloc, pw_below_drewN, below_drew1, below_set, GE1237.out]); rintro e w47 ⟨v1257, rfl, ho0, hb⟩; refine ⟨_, rfl, ?_⟩; have n0_ := Aside0.mk (Kd.R_elder' (by apply_rules [HO1254.out, Kd.R_alloc, Kd.R_drewN, Kd.R_drew]) (Kd.R_base ho0) hb); have n1_ := Aside0.mk (Kd.R_lower (Kd.R_new' ho0 (Kd.R_lt (by apply_rules [HO1254.out, Kd.R_alloc, Kd.R_drewN, Kd.R_drew]))) (below_size (by apply_rules [HB.out, below_alloc, pw_below_drewN, below_drew1, below_set, GE1237.out]))); have n2_ := Aside0.mk (blk_below (g := gb1237) (o := .cells #[.int .u16 a0_0, .int .u16 a0_1] 88 (0, 0)) (by apply_rules [BK1237.out, blk_drewN, blk_drew, blk_alloc]) hb); have n3_ := Aside0.mk (below_step (by apply_rules [HB.out, below_alloc, pw_below_drewN, below_drew1, below_set, GE1237.out]) hb); clear HO1254; clear BK1237; clear HB; have HO1254 := n0_; have HO1258 := n1_; have BK1237 := n2_; have HB := n3_; clear n0_ n1_ n2_ n3_; (try clear hb); (try clear ho0); obtain ⟨Ao48, co48, eo48⟩ := Kd.R_slice HO1258.out; subst eo48) | ((with_reducible refine gate_callee (f := 61) rfl ?_); refine goesK (some 74) Tryz.func61 [.slice Ao48 t1255.length co48] rfl rfl ?_; (with_reducible refine (schismalaw11_check.calls kj14 _ _ t1255 t1259 _ ?side1 ?side2 A34.out).mono ?_); (case side1 => apply_rules [(Kd.R_reads' HO1258.out).2.2, Kd.C_alloc, Kd.C_drewN, Kd.C_drew]); (case side2 => exact (Kd.R_reads' HO1258.out).2.1); rintro e w' ⟨rfl, ⟨nd, rfl⟩⟩; refine ⟨_, rfl, ?_⟩; obtain ⟨Ao49, co49, eo49⟩ := Kd.R_slice HO1254.out; subst eo49))
         go_ret
         exact ⟨by first | rfl | simp [*], by apply_rules [HB.out, below_alloc, pw_below_drewN, below_drew1, below_set, GE1237.out]⟩
       ·replace c33 := Bool.eq_false_iff.mpr c33
        subst c33
        have H1 : (if t1252 = 15 then (some ((t1251.length : Int) == 0)) else (some false)) = some r := by rw [if_neg (show ¬ (false = true) by decide)] at H; exact H
        clear H
        have H := H1
        clear H1
        by_cases c53 : t1252 = 15
        case neg => rw [if_neg c53] at H; have c53b0 : (t1252 == 15) = false := beq_eq_false_iff_ne.mpr c53; have c53b1 : (t1252 != 15) = true := bne_iff_ne.mpr c53; exact absurd ((Option.some.inj H).trans hr) Bool.false_ne_true
        rw [if_pos c53] at H
        have c53b0 : (t1252 == 15) = true := beq_iff_eq.mpr c53
        have c53b1 : (t1252 != 15) = false := bne_eq_false_iff_eq.mpr c53
        clear c53
        obtain rfl := Option.some.inj H
        go_wp2_with (first | ((with_reducible refine gate_callee (f := 73) rfl ?_); refine goesK (some 56) Tryz.func73 [.string a1] rfl rfl ?_; (with_reducible refine (prime_Parse.calls kj14 a1 t1251 t1252 _ ?side1 A31.out).mono ?_); (case side1 => refine TabW.below hT ?_; apply_rules [HB.out, below_alloc, pw_below_drewN, below_drew1, below_set, GE1237.out]); rintro e w54 ⟨v1253, rfl, ho0, hb⟩; refine ⟨_, rfl, ?_⟩; have HO1254 := Aside0.mk (Kd.R_lower ho0 (below_size (by apply_rules [HB.out, below_alloc, pw_below_drewN, below_drew1, below_set, GE1237.out]))); replace BK1237 := Aside0.mk (blk_below (g := gb1237) (o := .cells #[.int .u16 a0_0, .int .u16 a0_1] 88 (0, 0)) (by apply_rules [BK1237.out, blk_drewN, blk_drew, blk_alloc]) hb); replace HB := Aside0.mk (below_step (by apply_rules [HB.out, below_alloc, pw_below_drewN, below_drew1, below_set, GE1237.out]) hb); (try clear hb); (try clear ho0)) | ((with_reducible refine gate_callee (f := 75) rfl ?_); refine goesK (some 61) Tryz.func75 [.string a1] rfl rfl ?_; (with_reducible refine (schismalaw11_parse.calls kj14 a1 t1255 false _ ?side1 A32.out).mono ?_); (case side1 => refine TabW.below hT ?_; apply_rules [HB.out, below_alloc, pw_below_drewN, below_drew1, below_set, GE1237.out]); rintro e w55 ⟨v1257, rfl, ho0, hb⟩; refine ⟨_, rfl, ?_⟩; have n0_ := Aside0.mk (Kd.R_elder' (by apply_rules [HO1254.out, Kd.R_alloc, Kd.R_drewN, Kd.R_drew]) (Kd.R_base ho0) hb); have n1_ := Aside0.mk (Kd.R_lower (Kd.R_new' ho0 (Kd.R_lt (by apply_rules [HO1254.out, Kd.R_alloc, Kd.R_drewN, Kd.R_drew]))) (below_size (by apply_rules [HB.out, below_alloc, pw_below_drewN, below_drew1, below_set, GE1237.out]))); have n2_ := Aside0.mk (blk_below (g := gb1237) (o := .cells #[.int .u16 a0_0, .int .u16 a0_1] 88 (0, 0)) (by apply_rules [BK1237.out, blk_drewN, blk_drew, blk_alloc]) hb); have n3_ := Aside0.mk (below_step (by apply_rules [HB.out, below_alloc, pw_below_drewN, below_drew1, below_set, GE1237.out]) hb); clear HO1254; clear BK1237; clear HB; have HO1254 := n0_; have HO1258 := n1_; have BK1237 := n2_; have HB := n3_; clear n0_ n1_ n2_ n3_; (try clear hb); (try clear ho0); obtain ⟨Ao56, co56, eo56⟩ := Kd.R_slice HO1254.out; subst eo56))
        go_ret
        exact ⟨by first | rfl | simp [*], by apply_rules [HB.out, below_alloc, pw_below_drewN, below_drew1, below_set, GE1237.out]⟩
end Go.Proofs.YtccebdpjdpjgnaaGreatDoor.P
end
