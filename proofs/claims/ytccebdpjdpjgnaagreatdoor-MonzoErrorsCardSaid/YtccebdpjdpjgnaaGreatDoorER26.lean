/-
parts of the walks and of the plain laws: ProwText PmonzoBrackets Pmonzoresult Pschismalaw12check Pschismalaw12few Pschismalaw12Same
-/
import Derived.Test.YtccebdpjdpjgnaaGreatDoorER18
import Derived.Test.YtccebdpjdpjgnaaGreatDoorER25
set_option linter.unusedVariables false
set_option linter.unusedSimpArgs false
section
namespace Go.Proofs.YtccebdpjdpjgnaaGreatDoor.P
open Go.RowKit Go.Proofs.YtccebdpjdpjgnaaGreatDoorW.PrintWords Go.Proofs.YtccebdpjdpjgnaaGreatDoorW.PrintLast Go.Proofs.YtccebdpjdpjgnaaGreatDoorW.PrintMore
attribute [local go_sem] max2_int min2_int max_two min_two max_three min_three max_four min_four
def row_Text.l0 : Nat → Bool → List ByteArray → List Int → Int → Int → Option (ByteArray × Int)
 | 0, _, _, _, _, _ => none
 | k + 1, x1, x7, x16, x17, x18 => if x18 < x17 then (if 0 ≤ x18 then (if x18 < (x16.length : Int) then ((strconv_Itoa.f (rd x16 x18)).bind fun t103 => (if x7.length < 8796093022208 then (row_Text.l0 k x1 (x7 ++ [t103]) x16 x17 (wrap64 (x18 + 1))) else (none))) else (none)) else (none)) else ((strings_Join.f x7 (⟨#[32]⟩ : ByteArray)).bind fun t107 => (if x1 = true then (if 1 + t107.size ≤ 9223372036854775807 then (if 1 + t107.size + 1 ≤ 9223372036854775807 then (some (((⟨#[91]⟩ : ByteArray) ++ t107) ++ (⟨#[62]⟩ : ByteArray), 0)) else (none)) else (none)) else (if 1 + t107.size ≤ 9223372036854775807 then (if 1 + t107.size + 1 ≤ 9223372036854775807 then (some (((⟨#[60]⟩ : ByteArray) ++ t107) ++ (⟨#[93]⟩ : ByteArray), 0)) else (none)) else (none))))
def row_Text.f (k : Nat) (l0 : List Int) (a1 : Bool) : Option (ByteArray × Int) := (row_Check.f l0).bind fun t101 => (if t101 = 0 then (row_Text.l0 k a1 ([] : List ByteArray) l0 (l0.length : Int) 0) else (some ((⟨#[]⟩ : ByteArray), t101)))
theorem row_Text.mono_l : ∀ k, (∀ y0 y1 y2 y3 y4, LeO (row_Text.l0 k y0 y1 y2 y3 y4) (row_Text.l0 (k + 1) y0 y1 y2 y3 y4))
 | 0 => fun _ _ _ _ _ r h => by simp [row_Text.l0] at h
 | k + 1 => by
  have ih0 := row_Text.mono_l k
  ·intro y0 y1 y2 y3 y4
   unfold row_Text.l0
   repeat' first
   | (with_reducible exact ih0 _ _ _ _ _)
   | (with_reducible exact LeO.refl _)
   | (with_reducible exact LeO.none _)
   | (with_reducible refine LeO.ite ?_ ?_)
   | (with_reducible refine LeO.bind ?_ (fun _ => ?_))
theorem row_Text.mono : ∀ a0 a1 k, LeO (row_Text.f k a0 a1) (row_Text.f (k + 1) a0 a1) := by
 intro a0 a1 k
 have ih0 := row_Text.mono_l k
 unfold row_Text.f
 repeat' first
   | (with_reducible exact ih0 _ _ _ _ _)
   | (with_reducible exact LeO.refl _)
   | (with_reducible exact LeO.none _)
   | (with_reducible refine LeO.ite ?_ ?_)
   | (with_reducible refine LeO.bind ?_ (fun _ => ?_))
set_option maxHeartbeats 8000000 in
set_option maxRecDepth 100000 in
theorem row_Text.calls (k : Nat) (A0 : Option Addr) (c0 : Nat) (l0 : List Int) (a1 : Bool) (r1 : ByteArray) (r2 : Int) (w : World) (hT : TabW w) (hr0 : Kd.C (Kd.int .i64) w A0 l0.length l0) (hc0 : l0.length ≤ c0) (h : row_Text.f k l0 a1 = some (r1, r2)) :
  Calls Tryz.prog 26 #[.slice A0 l0.length c0, .bool a1] w fun e w' => e = .returned (.tuple #[.string r1, .int .i64 r2]) ∧ Below w.heap.size w w' := by
 have HR0 := Aside0.mk hr0
 have HC0 := Aside0.mk hc0
 clear hr0 hc0
 have HB := Aside0.mk (Below.refl w.heap.size w)
 have H : ((row_Check.f l0).bind fun t101 => (if t101 = 0 then (row_Text.l0 k a1 ([] : List ByteArray) l0 (l0.length : Int) 0) else (some ((⟨#[]⟩ : ByteArray), t101)))) = some (r1, r2) := h
 clear h
 replace H := Option.bind_eq_some_iff.mp H
 obtain ⟨t101, A30, H⟩ := H
 try dsimp only at H
 have A3 := Aside0.mk A30
 clear A30
 by_cases c4 : t101 = 0
 ·rw [if_pos c4] at H
  have c4b0 : (t101 == 0) = true := beq_iff_eq.mpr c4
  have c4b1 : (t101 != 0) = false := bne_eq_false_iff_eq.mpr c4
  clear c4
  have H' := Aside0.mk H
  clear H
  go_enter Tryz.func26, Tryz.ntmps26
  go_wp2_with (first | ((with_reducible refine gate_callee (f := 95) rfl ?_); refine goesK (some 12) Tryz.func95 [.slice A0 l0.length c0] rfl rfl ?_; (with_reducible refine (row_Check.calls _ _ l0 t101 _ ?side1 ?side2 A3.out).mono ?_); (case side1 => apply_rules [HR0.out, Kd.C_alloc, Kd.C_drewN, Kd.C_drew]); (case side2 => exact HC0.out); rintro e w5 ⟨rfl, hb⟩; refine ⟨_, rfl, ?_⟩; replace HB := Aside0.mk (below_step (by apply_rules [HB.out, below_alloc, pw_below_drewN, below_drew1]) hb); (try clear hb)))
  go_loopg [7, 18] k (fun kq v7 v18 w' => ∃ (x7_1 : List ByteArray) (x18_1 : Int), v18 = .int .i64 x18_1 ∧ Aside0 (row_Text.l0 kq a1 x7_1 l0 (l0.length : Int) x18_1 = some (r1, r2)) ∧ Aside0 (kq ≤ k) ∧ Aside0 (Kd.R Kd.string 9 w' w.heap.size (fun _ => True) v7 x7_1) ∧ Aside0 (Below w.heap.size w w'))
  case atStart => exact ⟨(([] : List ByteArray)), (0), (by first | rfl | (simp; done) | (simp [*]; done)), H', ⟨Nat.le_refl _⟩, ⟨by first | exact Kd.R_nil _ _ _ _ _ | exact Kd.N_nil _ _ _ _ _ | exact Kd.V_nil _ _ _ _ _ | exact Kd.Q_nil _ _ _ _ _ | exact Kd.S_nil _ _ _ _ _⟩, ⟨by apply_rules [HB.out, below_alloc, pw_below_drewN, below_drew1]⟩⟩
  case round =>
   clear H'
   obtain ⟨x7_1, x18_1, rfl, HA, HK1, HO_7, HB⟩ := hrel
   cases gk with
   | zero => exact absurd HA.out (by simp [row_Text.l0])
   | succ k1 =>
    have H := HA.out
    clear HA
    simp only [row_Text.l0] at H
    by_cases c6 : x18_1 < (l0.length : Int)
    ·rw [if_pos c6] at H
     have c6b0 : decide (x18_1 < (l0.length : Int)) = true := decide_eq_true c6
     clear c6
     by_cases c7 : 0 ≤ x18_1
     case neg => rw [if_neg c7] at H; exact absurd H (by simp)
     rw [if_pos c7] at H
     have c7b0 : decide (0 ≤ x18_1) = true := decide_eq_true c7
     clear c7
     by_cases c8 : x18_1 < (l0.length : Int)
     case neg => rw [if_neg c8] at H; exact absurd H (by simp)
     rw [if_pos c8] at H
     have c8b0 : decide (x18_1 < (l0.length : Int)) = true := decide_eq_true c8
     clear c8
     replace H := Option.bind_eq_some_iff.mp H
     obtain ⟨t103, A90, H⟩ := H
     try dsimp only at H
     have A9 := Aside0.mk A90
     clear A90
     by_cases c10 : x7_1.length < 8796093022208
     case neg => rw [if_neg c10] at H; exact absurd H (by simp)
     rw [if_pos c10] at H
     have LMc10 := Aside0.mk c10
     clear c10
     obtain ⟨y104, hy104⟩ : ∃ y_ : List ByteArray, y_ = (x7_1 ++ [t103]) := ⟨_, rfl⟩
     replace H : (row_Text.l0 k1 a1 y104 l0 (l0.length : Int) (wrap64 (x18_1 + 1))) = some (r1, r2) := by first | (rw [hy104]; with_reducible exact H) | (have H2_ := (Option.bind_some _ _).symm.trans H; rw [hy104]; with_reducible exact H2_) | (have H2_ := (Option.bind_some _ _).symm.trans H; with_reducible exact H2_) | with_reducible exact H | (rw [hy104]; exact H) | exact H
     have Ny104 := Aside0.mk hy104
     clear hy104
     have H' := Aside0.mk H
     clear H
     have p102 : 0 ≤ (x18_1 : Int) := of_decide_eq_true (by assumption)
     have q102 : x18_1 < (l0.length : Int) := of_decide_eq_true (by assumption)
     obtain ⟨ad102, e102, hx102_0⟩ := Kd.at_int HR0.out x18_1 p102 q102
     cases e102
     replace hx102_0 := (HB.out.cell (World.block_lt_of_cell? w _ hx102_0)).trans hx102_0
     replace p102 := eq_true p102
     replace q102 := eq_true q102
     go_wp2_with (first | ((with_reducible refine gate_callee (f := 96) rfl ?_); refine goesK (some 24) Tryz.func96 [.int .i64 (rd l0 x18_1)] rfl rfl ?_; (with_reducible refine (strconv_Itoa.calls (rd l0 x18_1) t103 _ ?side1 A9.out).mono ?_); (case side1 => refine TabW.below hT ?_; apply_rules [HB.out, below_alloc, pw_below_drewN, below_drew1]); rintro e w11 ⟨rfl, hb⟩; refine ⟨_, rfl, ?_⟩; replace HO_7 := Aside0.mk (Kd.R_below (by apply_rules [HO_7.out, Kd.R_alloc, Kd.R_drewN, Kd.R_drew]) hb); replace HB := Aside0.mk (below_step (by apply_rules [HB.out, below_alloc, pw_below_drewN, below_drew1]) hb); (try clear hb)) | ((with_reducible refine gate_builtin (b := .append) (xs := #[.tmp 22, .tmp 25]) rfl ?_); at_builtin; refine Kd.R_append Kd.string (w0 := w) w.heap.size rfl (.tmp 22) (.tmp 25) 126 9 (.string ⟨#[]⟩) 16 rfl Tryz.underlying126 info9 rfl (by decide) (by omega) u7 x7_1 t103 [.string t103] (fun _ => True) (fun _ => False) rfl rfl ?aP (fun _ hk => hk.elim) ?aF ?aO ?aB ?aS ?aL ?_; (case aP => exact rfl); (case aB => exact (by apply_rules [HB.out, below_alloc, pw_below_drewN, below_drew1])); (case aF => exact (fun _ _ => trivial)); (case aO => exact (by apply_rules [HO_7.out, Kd.R_alloc, Kd.R_drewN, Kd.R_drew])); (case aS => exact (below_size (by apply_rules [HB.out, below_alloc, pw_below_drewN, below_drew1]))); (case aL => have := LMc10.out; omega); intro v105 w12 ho hb hg hat; rw [← Ny104.out] at ho; replace HB := Aside0.mk (hb); have HO106 := Aside0.mk (ho); clear HO_7; clear ho hb hg hat))
     go_roundg k1
     case measure => have := HK1.out; omega
     case rel => exact ⟨(y104), (wrap64 (x18_1 + 1)), (by first | rfl | (simp; done) | (simp [*]; done)), H', ⟨by have := HK1.out; omega⟩, ⟨by apply_rules [HO106.out, Kd.R_alloc, Kd.R_drewN, Kd.R_drew]⟩, ⟨by apply_rules [HB.out, below_alloc, pw_below_drewN, below_drew1]⟩⟩
    ·rw [if_neg c6] at H
     have c6b0 : decide (x18_1 < (l0.length : Int)) = false := decide_eq_false c6
     clear c6
     replace H := Option.bind_eq_some_iff.mp H
     obtain ⟨t107, A130, H⟩ := H
     try dsimp only at H
     have A13 := Aside0.mk A130
     clear A130
     by_cases c14 : a1 = true
     ·subst c14
      have H1 : (if 1 + t107.size ≤ 9223372036854775807 then (if 1 + t107.size + 1 ≤ 9223372036854775807 then (some (((⟨#[91]⟩ : ByteArray) ++ t107) ++ (⟨#[62]⟩ : ByteArray), 0)) else (none)) else (none)) = some (r1, r2) := by rw [if_pos rfl] at H; exact H
      clear H
      have H := H1
      clear H1
      by_cases c15 : 1 + t107.size ≤ 9223372036854775807
      case neg => rw [if_neg c15] at H; exact absurd H (by simp)
      rw [if_pos c15] at H
      have c15b0 := eq_true c15
      have c15b1 : decide (1 + t107.size ≤ 9223372036854775807) = true := decide_eq_true c15
      try have c15b2 : (9223372036854775807 < 1 + t107.size) = False := eq_false (Nat.not_lt.2 c15)
      by_cases c16 : 1 + t107.size + 1 ≤ 9223372036854775807
      case neg => rw [if_neg c16] at H; exact absurd H (by simp)
      rw [if_pos c16] at H
      have c16b0 := eq_true c16
      have c16b1 : decide (1 + t107.size + 1 ≤ 9223372036854775807) = true := decide_eq_true c16
      try have c16b2 : (9223372036854775807 < 1 + t107.size + 1) = False := eq_false (Nat.not_lt.2 c16)
      simp only [Option.some.injEq, Prod.mk.injEq] at H
      obtain ⟨rfl, rfl⟩ := H
      obtain ⟨Ao17, co17, eo17⟩ := Kd.R_slice HO_7.out
      subst eo17
      go_wp2_with (first | ((with_reducible refine gate_callee (f := 97) rfl ?_); refine goesK (some 29) Tryz.func97 [.slice Ao17 x7_1.length co17, .string (⟨#[32]⟩ : ByteArray)] rfl rfl ?_; (with_reducible refine (strings_Join.calls _ _ x7_1 (⟨#[32]⟩ : ByteArray) t107 _ ?side1 ?side2 A13.out).mono ?_); (case side1 => apply_rules [(Kd.R_reads' HO_7.out).2.2, Kd.C_alloc, Kd.C_drewN, Kd.C_drew]); (case side2 => exact (Kd.R_reads' HO_7.out).2.1); rintro e w18 ⟨rfl, hb⟩; refine ⟨_, rfl, ?_⟩; replace HO_7 := Aside0.mk (Kd.R_below (by apply_rules [HO_7.out, Kd.R_alloc, Kd.R_drewN, Kd.R_drew]) hb); replace HB := Aside0.mk (below_step (by apply_rules [HB.out, below_alloc, pw_below_drewN, below_drew1]) hb); (try clear hb)))
      go_ret2
      exact ⟨by first | rfl | simp [*], by apply_rules [HB.out, below_alloc, pw_below_drewN, below_drew1]⟩
     ·replace c14 := Bool.eq_false_iff.mpr c14
      subst c14
      have H1 : (if 1 + t107.size ≤ 9223372036854775807 then (if 1 + t107.size + 1 ≤ 9223372036854775807 then (some (((⟨#[60]⟩ : ByteArray) ++ t107) ++ (⟨#[93]⟩ : ByteArray), 0)) else (none)) else (none)) = some (r1, r2) := by rw [if_neg (show ¬ (false = true) by decide)] at H; exact H
      clear H
      have H := H1
      clear H1
      by_cases c19 : 1 + t107.size ≤ 9223372036854775807
      case neg => rw [if_neg c19] at H; exact absurd H (by simp)
      rw [if_pos c19] at H
      have c19b0 := eq_true c19
      have c19b1 : decide (1 + t107.size ≤ 9223372036854775807) = true := decide_eq_true c19
      try have c19b2 : (9223372036854775807 < 1 + t107.size) = False := eq_false (Nat.not_lt.2 c19)
      by_cases c20 : 1 + t107.size + 1 ≤ 9223372036854775807
      case neg => rw [if_neg c20] at H; exact absurd H (by simp)
      rw [if_pos c20] at H
      have c20b0 := eq_true c20
      have c20b1 : decide (1 + t107.size + 1 ≤ 9223372036854775807) = true := decide_eq_true c20
      try have c20b2 : (9223372036854775807 < 1 + t107.size + 1) = False := eq_false (Nat.not_lt.2 c20)
      simp only [Option.some.injEq, Prod.mk.injEq] at H
      obtain ⟨rfl, rfl⟩ := H
      obtain ⟨Ao21, co21, eo21⟩ := Kd.R_slice HO_7.out
      subst eo21
      go_wp2_with (first | ((with_reducible refine gate_callee (f := 97) rfl ?_); refine goesK (some 29) Tryz.func97 [.slice Ao21 x7_1.length co21, .string (⟨#[32]⟩ : ByteArray)] rfl rfl ?_; (with_reducible refine (strings_Join.calls _ _ x7_1 (⟨#[32]⟩ : ByteArray) t107 _ ?side1 ?side2 A13.out).mono ?_); (case side1 => apply_rules [(Kd.R_reads' HO_7.out).2.2, Kd.C_alloc, Kd.C_drewN, Kd.C_drew]); (case side2 => exact (Kd.R_reads' HO_7.out).2.1); rintro e w22 ⟨rfl, hb⟩; refine ⟨_, rfl, ?_⟩; replace HO_7 := Aside0.mk (Kd.R_below (by apply_rules [HO_7.out, Kd.R_alloc, Kd.R_drewN, Kd.R_drew]) hb); replace HB := Aside0.mk (below_step (by apply_rules [HB.out, below_alloc, pw_below_drewN, below_drew1]) hb); (try clear hb)))
      go_ret2
      exact ⟨by first | rfl | simp [*], by apply_rules [HB.out, below_alloc, pw_below_drewN, below_drew1]⟩
 ·rw [if_neg c4] at H
  have c4b0 : (t101 == 0) = false := beq_eq_false_iff_ne.mpr c4
  have c4b1 : (t101 != 0) = true := bne_iff_ne.mpr c4
  simp only [Option.some.injEq, Prod.mk.injEq] at H
  obtain ⟨rfl, rfl⟩ := H
  go_enter Tryz.func26, Tryz.ntmps26
  go_wp2_with (first | ((with_reducible refine gate_callee (f := 95) rfl ?_); refine goesK (some 12) Tryz.func95 [.slice A0 l0.length c0] rfl rfl ?_; (with_reducible refine (row_Check.calls _ _ l0 t101 _ ?side1 ?side2 A3.out).mono ?_); (case side1 => apply_rules [HR0.out, Kd.C_alloc, Kd.C_drewN, Kd.C_drew]); (case side2 => exact HC0.out); rintro e w23 ⟨rfl, hb⟩; refine ⟨_, rfl, ?_⟩; replace HB := Aside0.mk (below_step (by apply_rules [HB.out, below_alloc, pw_below_drewN, below_drew1]) hb); (try clear hb)))
  go_ret2
  exact ⟨by first | rfl | simp [*], by apply_rules [HB.out, below_alloc, pw_below_drewN, below_drew1]⟩
def monzo_Brackets.f (k : Nat) (l0 : List Int) (l1 : List Int) : Option (ByteArray × Int) := (monzo_Check.f k l0 l1).bind fun t118 => (if t118 = 0 then ((row_Text.f k l1 true).bind fun bt119 => (some (bt119.1, bt119.2))) else (some ((⟨#[]⟩ : ByteArray), t118)))
theorem monzo_Brackets.mono : ∀ a0 a1 k, LeO (monzo_Brackets.f k a0 a1) (monzo_Brackets.f (k + 1) a0 a1) := by
 intro a0 a1 k
 unfold monzo_Brackets.f
 repeat' first
   | (with_reducible exact monzo_Check.mono _ _ _)
   | (with_reducible exact row_Text.mono _ _ _)
   | (with_reducible exact LeO.refl _)
   | (with_reducible exact LeO.none _)
   | (with_reducible refine LeO.ite ?_ ?_)
   | (with_reducible refine LeO.bind ?_ (fun _ => ?_))
set_option maxHeartbeats 8000000 in
set_option maxRecDepth 100000 in
theorem monzo_Brackets.calls (k : Nat) (A0 : Option Addr) (c0 : Nat) (l0 : List Int) (A1 : Option Addr) (c1 : Nat) (l1 : List Int) (r1 : ByteArray) (r2 : Int) (w : World) (hT : TabW w) (hr0 : Kd.C (Kd.int .i64) w A0 l0.length l0) (hc0 : l0.length ≤ c0) (hr1 : Kd.C (Kd.int .i64) w A1 l1.length l1) (hc1 : l1.length ≤ c1) (h : monzo_Brackets.f k l0 l1 = some (r1, r2)) :
  Calls Tryz.prog 25 #[.slice A0 l0.length c0, .slice A1 l1.length c1] w fun e w' => e = .returned (.tuple #[.string r1, .int .i64 r2]) ∧ Below w.heap.size w w' := by
 have HR0 := Aside0.mk hr0
 have HC0 := Aside0.mk hc0
 clear hr0 hc0
 have HR1 := Aside0.mk hr1
 have HC1 := Aside0.mk hc1
 clear hr1 hc1
 have HB := Aside0.mk (Below.refl w.heap.size w)
 have H : ((monzo_Check.f k l0 l1).bind fun t118 => (if t118 = 0 then ((row_Text.f k l1 true).bind fun bt119 => (some (bt119.1, bt119.2))) else (some ((⟨#[]⟩ : ByteArray), t118)))) = some (r1, r2) := h
 clear h
 replace H := Option.bind_eq_some_iff.mp H
 obtain ⟨t118, A30, H⟩ := H
 try dsimp only at H
 have A3 := Aside0.mk A30
 clear A30
 by_cases c4 : t118 = 0
 ·rw [if_pos c4] at H
  have c4b0 : (t118 == 0) = true := beq_iff_eq.mpr c4
  have c4b1 : (t118 != 0) = false := bne_eq_false_iff_eq.mpr c4
  clear c4
  replace H := Option.bind_eq_some_iff.mp H
  obtain ⟨⟨t119, t120⟩, A50, H⟩ := H
  try dsimp only at H
  have A5 := Aside0.mk A50
  clear A50
  simp only [Option.some.injEq, Prod.mk.injEq] at H
  obtain ⟨rfl, rfl⟩ := H
  go_enter Tryz.func25, Tryz.ntmps25
  go_wp2_with (first | ((with_reducible refine gate_callee (f := 27) rfl ?_); refine goesK (some 9) Tryz.func27 [.slice A0 l0.length c0, .slice A1 l1.length c1] rfl rfl ?_; (with_reducible refine (monzo_Check.calls k _ _ l0 (fun k_ => k_ < w.heap.size) _ _ l1 t118 _ ?side1 ?side2 ?side3 A3.out).mono ?_); (case side1 => apply_rules [HR0.out, Kd.C_alloc, Kd.C_drewN, Kd.C_drew]); (case side2 => exact HC0.out); (case side3 => exact Kd.V_mk HC1.out (Kd.F_below (Kd.C_F (Kd.heap_int .i64) HR1.out) (by apply_rules [HB.out, below_alloc, pw_below_drewN, below_drew1]))); rintro e w6 ⟨rfl, hb⟩; refine ⟨_, rfl, ?_⟩; replace HB := Aside0.mk (below_step (by apply_rules [HB.out, below_alloc, pw_below_drewN, below_drew1]) hb); (try clear hb)) | ((with_reducible refine gate_callee (f := 26) rfl ?_); refine goesK (some 14) Tryz.func26 [.slice A1 l1.length c1, .bool true] rfl rfl ?_; (with_reducible refine (row_Text.calls k _ _ l1 true t119 t120 _ ?side1 ?side2 ?side3 A5.out).mono ?_); (case side1 => refine TabW.below hT ?_; apply_rules [HB.out, below_alloc, pw_below_drewN, below_drew1]); (case side2 => apply_rules [(Kd.C_below HR1.out HB.out), Kd.C_alloc, Kd.C_drewN, Kd.C_drew]); (case side3 => exact HC1.out); rintro e w7 ⟨rfl, hb⟩; refine ⟨_, rfl, ?_⟩; replace HB := Aside0.mk (below_step (by apply_rules [HB.out, below_alloc, pw_below_drewN, below_drew1]) hb); (try clear hb)))
  go_ret2
  exact ⟨by first | rfl | simp [*], by apply_rules [HB.out, below_alloc, pw_below_drewN, below_drew1]⟩
 ·rw [if_neg c4] at H
  have c4b0 : (t118 == 0) = false := beq_eq_false_iff_ne.mpr c4
  have c4b1 : (t118 != 0) = true := bne_iff_ne.mpr c4
  simp only [Option.some.injEq, Prod.mk.injEq] at H
  obtain ⟨rfl, rfl⟩ := H
  go_enter Tryz.func25, Tryz.ntmps25
  go_wp2_with (first | ((with_reducible refine gate_callee (f := 27) rfl ?_); refine goesK (some 9) Tryz.func27 [.slice A0 l0.length c0, .slice A1 l1.length c1] rfl rfl ?_; (with_reducible refine (monzo_Check.calls k _ _ l0 (fun k_ => k_ < w.heap.size) _ _ l1 t118 _ ?side1 ?side2 ?side3 A3.out).mono ?_); (case side1 => apply_rules [HR0.out, Kd.C_alloc, Kd.C_drewN, Kd.C_drew]); (case side2 => exact HC0.out); (case side3 => exact Kd.V_mk HC1.out (Kd.F_below (Kd.C_F (Kd.heap_int .i64) HR1.out) (by apply_rules [HB.out, below_alloc, pw_below_drewN, below_drew1]))); rintro e w8 ⟨rfl, hb⟩; refine ⟨_, rfl, ?_⟩; replace HB := Aside0.mk (below_step (by apply_rules [HB.out, below_alloc, pw_below_drewN, below_drew1]) hb); (try clear hb)))
  go_ret2
  exact ⟨by first | rfl | simp [*], by apply_rules [HB.out, below_alloc, pw_below_drewN, below_drew1]⟩
def monzo_result.f (k : Nat) (l0 : List Int) (l1 : List Int) : Option (List Int × Int) := (monzo_CheckAll.f k l0 (([l1] : List (List Int)))).bind fun t392 => (if t392 = 0 then (some (l1, 0)) else (some (([] : List Int), 4)))
theorem monzo_result.mono : ∀ a0 a1 k, LeO (monzo_result.f k a0 a1) (monzo_result.f (k + 1) a0 a1) := by
 intro a0 a1 k
 unfold monzo_result.f
 repeat' first
   | (with_reducible exact monzo_CheckAll.mono _ _ _)
   | (with_reducible exact LeO.refl _)
   | (with_reducible exact LeO.none _)
   | (with_reducible refine LeO.ite ?_ ?_)
   | (with_reducible refine LeO.bind ?_ (fun _ => ?_))
set_option maxHeartbeats 8000000 in
set_option maxRecDepth 100000 in
theorem monzo_result.calls (k : Nat) (A0 : Option Addr) (c0 : Nat) (l0 : List Int) (P1_ : Nat → Prop) (A1 : Option Addr) (c1 : Nat) (l1 : List Int) (r1 : List Int) (r2 : Int) (w : World) (hr0 : Kd.C (Kd.int .i64) w A0 l0.length l0) (hc0 : l0.length ≤ c0) (hs1 : Kd.V (Kd.int .i64) 3 w w.heap.size (fun k_ => P1_ k_) (.slice A1 l1.length c1) l1) (h : monzo_result.f k l0 l1 = some (r1, r2)) :
  Calls Tryz.prog 101 #[.slice A0 l0.length c0, .slice A1 l1.length c1] w fun e w' => ∃ v0_ : Value, e = .returned (.tuple #[v0_, .int .i64 r2]) ∧ Kd.V (Kd.int .i64) 3 w' w.heap.size (fun k_ => (P1_ k_ ∨ w.heap.size ≤ k_)) v0_ r1 ∧ Below w.heap.size w w' := by
 have HR0 := Aside0.mk hr0
 have HC0 := Aside0.mk hc0
 clear hr0 hc0
 have HO1 := Aside0.mk (show Kd.V (Kd.int .i64) 3 w w.heap.size (fun k_ => (P1_ k_ ∨ w.heap.size ≤ k_)) (.slice A1 l1.length c1) l1 from Kd.V_mono hs1 (fun k_ hk => .inl hk))
 have HB := Aside0.mk (Below.refl w.heap.size w)
 have H : ((monzo_CheckAll.f k l0 (([l1] : List (List Int)))).bind fun t392 => (if t392 = 0 then (some (l1, 0)) else (some (([] : List Int), 4)))) = some (r1, r2) := h
 clear h
 obtain ⟨y389, hy389⟩ : ∃ y_ : List (List Int), y_ = (([l1] : List (List Int))) := ⟨_, rfl⟩
 replace H : ((monzo_CheckAll.f k l0 y389).bind fun t392 => (if t392 = 0 then (some (l1, 0)) else (some (([] : List Int), 4)))) = some (r1, r2) := by first | (rw [hy389]; with_reducible exact H) | (have H2_ := (Option.bind_some _ _).symm.trans H; rw [hy389]; with_reducible exact H2_) | (have H2_ := (Option.bind_some _ _).symm.trans H; with_reducible exact H2_) | with_reducible exact H | (rw [hy389]; exact H) | exact H
 have Ny389 := Aside0.mk hy389
 clear hy389
 replace H := Option.bind_eq_some_iff.mp H
 obtain ⟨t392, A30, H⟩ := H
 try dsimp only at H
 have A3 := Aside0.mk A30
 clear A30
 by_cases c4 : t392 = 0
 ·rw [if_pos c4] at H
  have c4b0 : (t392 == 0) = true := beq_iff_eq.mpr c4
  have c4b1 : (t392 != 0) = false := bne_eq_false_iff_eq.mpr c4
  clear c4
  simp only [Option.some.injEq, Prod.mk.injEq] at H
  obtain ⟨rfl, rfl⟩ := H
  go_enter Tryz.func101, Tryz.ntmps101
  go_wp2_with (first | ((with_reducible refine gate_dst (N := 8) rfl ?_); refine Kd.N_lit (Kd.slice 3 (Kd.int .i64)) _ 24 ?hg (N' := 8) ?hd (xs := ([l1] : List (List Int))) (inner := [.slice A1 l1.length c1]) (ok := (fun k_ => (P1_ k_ ∨ w.heap.size ≤ k_))) (okp := (fun k_ => (P1_ k_ ∨ w.heap.size ≤ k_))) ?hr ?hp (fun _ hk => hk) ((show ∀ k_, w.heap.size ≤ k_ → (fun k_ => (P1_ k_ ∨ w.heap.size ≤ k_)) k_ from fun k_ hk => (.inr (Nat.le_trans (below_size (by apply_rules [HB.out, below_alloc, pw_below_drewN, below_drew1])) hk))) _ (Nat.le_refl _)) (Below.refl _ _) (Nat.le_refl _) (by simp) ?_; (case hd => rfl); (case hg => rfl); (case hr => go_simp; try rfl); (case hp => exact (Reps.one (show Kd.FK (Kd.slice 3 (Kd.int .i64)) _ _ l1 [.slice A1 l1.length c1] from (Kd.FK_slice_mk (Kd.V_reads' (Kd.V_mono (ok' := (fun k_ => (P1_ k_ ∨ w.heap.size ≤ k_))) (HO1.out) (fun k_ hk => hk))).2.1 (Kd.V_F (Kd.V_mono (ok' := (fun k_ => (P1_ k_ ∨ w.heap.size ≤ k_))) (HO1.out) (fun k_ hk => hk))))) (Reps.none _ _))); intro v390 w5 ho6 hb hg_ hnew_; clear hg_ hnew_; (first | rw [← Ny389.out] at ho6 | (simp only [Int.reduceToNat] at ho6; rw [← Ny389.out] at ho6)); replace HO1 := Aside0.mk (Kd.V_elder' (by (with_reducible repeat (first | apply Kd.V_alloc | apply Kd.V_drewN | apply Kd.V_drew)); exact HO1.out) (Kd.N_base ho6) hb); have HO391 := Aside0.mk (Kd.N_lower ho6 (below_size (by apply_rules [HB.out, below_alloc, pw_below_drewN, below_drew1]))); replace HB := Aside0.mk (below_step (by apply_rules [HB.out, below_alloc, pw_below_drewN, below_drew1]) hb); clear hb ho6; obtain ⟨Ao7, co7, eo7⟩ := Kd.N_slice HO391.out; subst eo7) | ((with_reducible refine gate_callee (f := 28) rfl ?_); refine goesK (some 9) Tryz.func28 [.slice A0 l0.length c0, .slice Ao7 y389.length co7] rfl rfl ?_; (with_reducible refine (monzo_CheckAll.calls k _ _ l0 _ _ y389 t392 _ ?side1 ?side2 ?side3 ?side4 A3.out).mono ?_); (case side1 => apply_rules [(Kd.C_below HR0.out HB.out), Kd.C_alloc, Kd.C_drewN, Kd.C_drew]); (case side2 => exact HC0.out); (case side3 => apply_rules [(Kd.N_reads' HO391.out).2.2, Kd.C_alloc, Kd.C_drewN, Kd.C_drew]); (case side4 => exact (Kd.N_reads' HO391.out).2.1); rintro e w' ⟨rfl, ⟨nd, rfl⟩⟩; refine ⟨_, rfl, ?_⟩))
  go_ret2
  exact ⟨_, by first | rfl | simp [*], by (with_reducible repeat (first | apply Kd.V_alloc | apply Kd.V_drewN | apply Kd.V_drew)); exact Kd.V_mono HO1.out (fun _ hk => hk.1), by apply_rules [HB.out, below_alloc, pw_below_drewN, below_drew1]⟩
 ·rw [if_neg c4] at H
  have c4b0 : (t392 == 0) = false := beq_eq_false_iff_ne.mpr c4
  have c4b1 : (t392 != 0) = true := bne_iff_ne.mpr c4
  simp only [Option.some.injEq, Prod.mk.injEq] at H
  obtain ⟨rfl, rfl⟩ := H
  go_enter Tryz.func101, Tryz.ntmps101
  go_wp2_with (first | ((with_reducible refine gate_dst (N := 8) rfl ?_); refine Kd.N_lit (Kd.slice 3 (Kd.int .i64)) _ 24 ?hg (N' := 8) ?hd (xs := ([l1] : List (List Int))) (inner := [.slice A1 l1.length c1]) (ok := (fun k_ => (P1_ k_ ∨ w.heap.size ≤ k_))) (okp := (fun k_ => (P1_ k_ ∨ w.heap.size ≤ k_))) ?hr ?hp (fun _ hk => hk) ((show ∀ k_, w.heap.size ≤ k_ → (fun k_ => (P1_ k_ ∨ w.heap.size ≤ k_)) k_ from fun k_ hk => (.inr (Nat.le_trans (below_size (by apply_rules [HB.out, below_alloc, pw_below_drewN, below_drew1])) hk))) _ (Nat.le_refl _)) (Below.refl _ _) (Nat.le_refl _) (by simp) ?_; (case hd => rfl); (case hg => rfl); (case hr => go_simp; try rfl); (case hp => exact (Reps.one (show Kd.FK (Kd.slice 3 (Kd.int .i64)) _ _ l1 [.slice A1 l1.length c1] from (Kd.FK_slice_mk (Kd.V_reads' (Kd.V_mono (ok' := (fun k_ => (P1_ k_ ∨ w.heap.size ≤ k_))) (HO1.out) (fun k_ hk => hk))).2.1 (Kd.V_F (Kd.V_mono (ok' := (fun k_ => (P1_ k_ ∨ w.heap.size ≤ k_))) (HO1.out) (fun k_ hk => hk))))) (Reps.none _ _))); intro v390 w8 ho9 hb hg_ hnew_; clear hg_ hnew_; (first | rw [← Ny389.out] at ho9 | (simp only [Int.reduceToNat] at ho9; rw [← Ny389.out] at ho9)); replace HO1 := Aside0.mk (Kd.V_elder' (by (with_reducible repeat (first | apply Kd.V_alloc | apply Kd.V_drewN | apply Kd.V_drew)); exact HO1.out) (Kd.N_base ho9) hb); have HO391 := Aside0.mk (Kd.N_lower ho9 (below_size (by apply_rules [HB.out, below_alloc, pw_below_drewN, below_drew1]))); replace HB := Aside0.mk (below_step (by apply_rules [HB.out, below_alloc, pw_below_drewN, below_drew1]) hb); clear hb ho9; obtain ⟨Ao10, co10, eo10⟩ := Kd.N_slice HO391.out; subst eo10) | ((with_reducible refine gate_callee (f := 28) rfl ?_); refine goesK (some 9) Tryz.func28 [.slice A0 l0.length c0, .slice Ao10 y389.length co10] rfl rfl ?_; (with_reducible refine (monzo_CheckAll.calls k _ _ l0 _ _ y389 t392 _ ?side1 ?side2 ?side3 ?side4 A3.out).mono ?_); (case side1 => apply_rules [(Kd.C_below HR0.out HB.out), Kd.C_alloc, Kd.C_drewN, Kd.C_drew]); (case side2 => exact HC0.out); (case side3 => apply_rules [(Kd.N_reads' HO391.out).2.2, Kd.C_alloc, Kd.C_drewN, Kd.C_drew]); (case side4 => exact (Kd.N_reads' HO391.out).2.1); rintro e w' ⟨rfl, ⟨nd, rfl⟩⟩; refine ⟨_, rfl, ?_⟩))
  go_ret2
  exact ⟨(.slice none 0 0), by first | rfl | simp [*], Kd.V_mono (Kd.R_V (base := 0) (ok := fun k_ => w.heap.size ≤ k_) (by first | exact Kd.R_nil _ _ _ _ _ | exact Kd.N_nil _ _ _ _ _ | exact Kd.V_nil _ _ _ _ _ | exact Kd.Q_nil _ _ _ _ _ | exact Kd.S_nil _ _ _ _ _)) (fun k_ hk => by first | exact ⟨(.inr (hk.1)), hk.2⟩ | exact (.inr (hk))), by apply_rules [HB.out, below_alloc, pw_below_drewN, below_drew1]⟩
def schismalaw12_check.l0 : Nat → List Int → Int → Option (Int)
 | 0, _, _ => none
 | k + 1, x1, x6 => if x6 < (x1.length : Int) then (if 0 ≤ x6 then (if (rd x1 x6) > 1000 then (some 4) else (if (rd x1 x6) < (-1000) then (some 4) else (schismalaw12_check.l0 k x1 (wrap64 (x6 + 1))))) else (none)) else (some 0)
def schismalaw12_check.f (k : Nat) (l0 : List Int) (l1 : List Int) : Option (Int) := (prime_Check.f k l0).bind fun t530 => (if t530 = 0 then (if (l1.length : Int) = (l0.length : Int) then (schismalaw12_check.l0 k l1 0) else (some 5)) else (some t530))
set_option maxHeartbeats 8000000 in
set_option maxRecDepth 100000 in
theorem schismalaw12_check.calls (k : Nat) (A0 : Option Addr) (c0 : Nat) (l0 : List Int) (A1 : Option Addr) (c1 : Nat) (l1 : List Int) (r : Int) (w : World) (hr0 : Kd.C (Kd.int .i64) w A0 l0.length l0) (hc0 : l0.length ≤ c0) (hr1 : Kd.C (Kd.int .i64) w A1 l1.length l1) (hc1 : l1.length ≤ c1) (h : schismalaw12_check.f k l0 l1 = some r) :
  Calls Tryz.prog 24 #[.slice A0 l0.length c0, .slice A1 l1.length c1] w fun e w' => e = .returned (.int .i64 r) ∧ Drawn0 w w' := by
 have HR0 := Aside0.mk hr0
 have HC0 := Aside0.mk hc0
 clear hr0 hc0
 have HR1 := Aside0.mk hr1
 have HC1 := Aside0.mk hc1
 clear hr1 hc1
 have H : ((prime_Check.f k l0).bind fun t530 => (if t530 = 0 then (if (l1.length : Int) = (l0.length : Int) then (schismalaw12_check.l0 k l1 0) else (some 5)) else (some t530))) = some r := h
 clear h
 replace H := Option.bind_eq_some_iff.mp H
 obtain ⟨t530, A30, H⟩ := H
 try dsimp only at H
 have A3 := Aside0.mk A30
 clear A30
 by_cases c4 : t530 = 0
 ·rw [if_pos c4] at H
  have c4b0 : (t530 == 0) = true := beq_iff_eq.mpr c4
  have c4b1 : (t530 != 0) = false := bne_eq_false_iff_eq.mpr c4
  clear c4
  by_cases c5 : (l1.length : Int) = (l0.length : Int)
  ·rw [if_pos c5] at H
   have c5b0 : ((l1.length : Int) == (l0.length : Int)) = true := beq_iff_eq.mpr c5
   have c5b1 : ((l1.length : Int) != (l0.length : Int)) = false := bne_eq_false_iff_eq.mpr c5
   have c5b2 : (l1.length == l0.length) = true := by first | simpa using c5 | (simp at c5 ⊢; omega)
   clear c5
   have H' := Aside0.mk H
   clear H
   go_enter Tryz.func24, Tryz.ntmps24
   go_wp2_with (first | ((with_reducible refine gate_callee (f := 29) rfl ?_); refine goesK (some 8) Tryz.func29 [.slice A0 l0.length c0] rfl rfl ?_; (with_reducible refine (prime_Check.calls k _ _ l0 t530 _ ?side1 ?side2 A3.out).mono ?_); (case side1 => apply_rules [HR0.out, Kd.C_alloc, Kd.C_drewN, Kd.C_drew]); (case side2 => exact HC0.out); rintro e w' ⟨rfl, ⟨nd, rfl⟩⟩; refine ⟨_, rfl, ?_⟩))
   go_loopg [6] k (fun kq v6 w' => ∃ (x6_1 : Int), v6 = .int .i64 x6_1 ∧ Aside0 (schismalaw12_check.l0 kq l1 x6_1 = some r) ∧ Aside0 (kq ≤ k) ∧ Drawn0 w w')
   case atStart => exact ⟨(0), (by first | rfl | (simp; done) | (simp [*]; done)), H', ⟨Nat.le_refl _⟩, by repeat (first | exact Drawn0.refl _ | apply Drawn0.step)⟩
   case round =>
    clear H'
    obtain ⟨x6_1, rfl, HA, HK1, ⟨m1, rfl⟩⟩ := hrel
    cases gk with
    | zero => exact absurd HA.out (by simp [schismalaw12_check.l0])
    | succ k1 =>
     have H := HA.out
     clear HA
     simp only [schismalaw12_check.l0] at H
     by_cases c6 : x6_1 < (l1.length : Int)
     ·rw [if_pos c6] at H
      have c6b0 : decide (x6_1 < (l1.length : Int)) = true := decide_eq_true c6
      clear c6
      by_cases c7 : 0 ≤ x6_1
      case neg => rw [if_neg c7] at H; exact absurd H (by simp)
      rw [if_pos c7] at H
      have c7b0 : decide (0 ≤ x6_1) = true := decide_eq_true c7
      clear c7
      by_cases c8 : (rd l1 x6_1) > 1000
      ·rw [if_pos c8] at H
       have c8b0 : decide (1000 < (rd l1 x6_1)) = true := decide_eq_true c8
       clear c8
       obtain rfl := Option.some.inj H
       have p531 : 0 ≤ (x6_1 : Int) := of_decide_eq_true (by assumption)
       have q531 : x6_1 < (l1.length : Int) := of_decide_eq_true (by assumption)
       obtain ⟨ad531, e531, hx531_0⟩ := Kd.at_int HR1.out x6_1 p531 q531
       cases e531
       replace p531 := eq_true p531
       replace q531 := eq_true q531
       go_wp2
       go_ret
       exact ⟨by first | rfl | (simp; done) | (simp [*]; done), by repeat (first | exact Drawn0.refl _ | apply Drawn0.step)⟩
      ·rw [if_neg c8] at H
       have c8b0 : decide (1000 < (rd l1 x6_1)) = false := decide_eq_false c8
       clear c8
       by_cases c9 : (rd l1 x6_1) < (-1000)
       ·rw [if_pos c9] at H
        have c9b0 : decide ((rd l1 x6_1) < (-1000)) = true := decide_eq_true c9
        clear c9
        obtain rfl := Option.some.inj H
        have p531 : 0 ≤ (x6_1 : Int) := of_decide_eq_true (by assumption)
        have q531 : x6_1 < (l1.length : Int) := of_decide_eq_true (by assumption)
        obtain ⟨ad531, e531, hx531_0⟩ := Kd.at_int HR1.out x6_1 p531 q531
        cases e531
        replace p531 := eq_true p531
        replace q531 := eq_true q531
        have p532 : 0 ≤ (x6_1 : Int) := of_decide_eq_true (by assumption)
        have q532 : x6_1 < (l1.length : Int) := of_decide_eq_true (by assumption)
        obtain ⟨ad532, e532, hx532_0⟩ := Kd.at_int HR1.out x6_1 p532 q532
        obtain rfl : ad531 = ad532 := (by injection e532)
        replace p532 := eq_true p532
        replace q532 := eq_true q532
        go_wp2
        go_ret
        exact ⟨by first | rfl | (simp; done) | (simp [*]; done), by repeat (first | exact Drawn0.refl _ | apply Drawn0.step)⟩
       ·rw [if_neg c9] at H
        have c9b0 : decide ((rd l1 x6_1) < (-1000)) = false := decide_eq_false c9
        clear c9
        have H' := Aside0.mk H
        clear H
        have p531 : 0 ≤ (x6_1 : Int) := of_decide_eq_true (by assumption)
        have q531 : x6_1 < (l1.length : Int) := of_decide_eq_true (by assumption)
        obtain ⟨ad531, e531, hx531_0⟩ := Kd.at_int HR1.out x6_1 p531 q531
        cases e531
        replace p531 := eq_true p531
        replace q531 := eq_true q531
        have p532 : 0 ≤ (x6_1 : Int) := of_decide_eq_true (by assumption)
        have q532 : x6_1 < (l1.length : Int) := of_decide_eq_true (by assumption)
        obtain ⟨ad532, e532, hx532_0⟩ := Kd.at_int HR1.out x6_1 p532 q532
        obtain rfl : ad531 = ad532 := (by injection e532)
        replace p532 := eq_true p532
        replace q532 := eq_true q532
        go_wp2
        go_roundg k1
        case measure => have := HK1.out; omega
        case rel => exact ⟨(wrap64 (x6_1 + 1)), (by first | rfl | (simp; done) | (simp [*]; done)), H', ⟨by have := HK1.out; omega⟩, by repeat (first | exact Drawn0.refl _ | apply Drawn0.step)⟩
     ·rw [if_neg c6] at H
      have c6b0 : decide (x6_1 < (l1.length : Int)) = false := decide_eq_false c6
      clear c6
      obtain rfl := Option.some.inj H
      go_wp2
      go_ret
      exact ⟨by first | rfl | (simp; done) | (simp [*]; done), by repeat (first | exact Drawn0.refl _ | apply Drawn0.step)⟩
  ·rw [if_neg c5] at H
   have c5b0 : ((l1.length : Int) == (l0.length : Int)) = false := beq_eq_false_iff_ne.mpr c5
   have c5b1 : ((l1.length : Int) != (l0.length : Int)) = true := bne_iff_ne.mpr c5
   have c5b2 : (l1.length == l0.length) = false := by first | simpa using c5 | (simp at c5 ⊢; omega)
   obtain rfl := Option.some.inj H
   go_enter Tryz.func24, Tryz.ntmps24
   go_wp2_with (first | ((with_reducible refine gate_callee (f := 29) rfl ?_); refine goesK (some 8) Tryz.func29 [.slice A0 l0.length c0] rfl rfl ?_; (with_reducible refine (prime_Check.calls k _ _ l0 t530 _ ?side1 ?side2 A3.out).mono ?_); (case side1 => apply_rules [HR0.out, Kd.C_alloc, Kd.C_drewN, Kd.C_drew]); (case side2 => exact HC0.out); rintro e w' ⟨rfl, ⟨nd, rfl⟩⟩; refine ⟨_, rfl, ?_⟩))
   go_ret
   exact ⟨by first | rfl | (simp; done) | (simp [*]; done), by repeat (first | exact Drawn0.refl _ | apply Drawn0.step)⟩
 ·rw [if_neg c4] at H
  have c4b0 : (t530 == 0) = false := beq_eq_false_iff_ne.mpr c4
  have c4b1 : (t530 != 0) = true := bne_iff_ne.mpr c4
  obtain rfl := Option.some.inj H
  go_enter Tryz.func24, Tryz.ntmps24
  go_wp2_with (first | ((with_reducible refine gate_callee (f := 29) rfl ?_); refine goesK (some 8) Tryz.func29 [.slice A0 l0.length c0] rfl rfl ?_; (with_reducible refine (prime_Check.calls k _ _ l0 t530 _ ?side1 ?side2 A3.out).mono ?_); (case side1 => apply_rules [HR0.out, Kd.C_alloc, Kd.C_drewN, Kd.C_drew]); (case side2 => exact HC0.out); rintro e w' ⟨rfl, ⟨nd, rfl⟩⟩; refine ⟨_, rfl, ?_⟩))
  go_ret
  exact ⟨by first | rfl | (simp; done) | (simp [*]; done), by repeat (first | exact Drawn0.refl _ | apply Drawn0.step)⟩
def schismalaw12_few.f (l0 : List Int) (l1 : List Int) : Option (Bool) := if (l0.length : Int) ≤ 8 then (some (decide ((l1.length : Int) ≤ 8))) else (some false)
set_option maxHeartbeats 8000000 in
set_option maxRecDepth 100000 in
theorem schismalaw12_few.calls (A0 : Option Addr) (c0 : Nat) (l0 : List Int) (A1 : Option Addr) (c1 : Nat) (l1 : List Int) (r : Bool) (w : World) (hr0 : Kd.C (Kd.int .i64) w A0 l0.length l0) (hc0 : l0.length ≤ c0) (hr1 : Kd.C (Kd.int .i64) w A1 l1.length l1) (hc1 : l1.length ≤ c1) (h : schismalaw12_few.f l0 l1 = some r) :
  Calls Tryz.prog 23 #[.slice A0 l0.length c0, .slice A1 l1.length c1] w fun e w' => e = .returned (.bool r) ∧ Drawn0 w w' := by
 have HR0 := Aside0.mk hr0
 have HC0 := Aside0.mk hc0
 clear hr0 hc0
 have HR1 := Aside0.mk hr1
 have HC1 := Aside0.mk hc1
 clear hr1 hc1
 have H : (if (l0.length : Int) ≤ 8 then (some (decide ((l1.length : Int) ≤ 8))) else (some false)) = some r := h
 clear h
 by_cases c3 : (l0.length : Int) ≤ 8
 ·rw [if_pos c3] at H
  have c3b0 : decide ((l0.length : Int) ≤ 8) = true := decide_eq_true c3
  have c3b1 : decide (l0.length ≤ 8) = true := decide_eq_true (by omega)
  clear c3
  obtain rfl := Option.some.inj H
  go_enter Tryz.func23, Tryz.ntmps23
  go_wp2
  go_ret
  exact ⟨by first | rfl | (simp; done) | (simp [*]; done), by repeat (first | exact Drawn0.refl _ | apply Drawn0.step)⟩
 ·rw [if_neg c3] at H
  have c3b0 : decide ((l0.length : Int) ≤ 8) = false := decide_eq_false c3
  have c3b1 : decide (l0.length ≤ 8) = false := decide_eq_false (by omega)
  clear c3
  obtain rfl := Option.some.inj H
  go_enter Tryz.func23, Tryz.ntmps23
  go_wp2
  go_ret
  exact ⟨by first | rfl | (simp; done) | (simp [*]; done), by repeat (first | exact Drawn0.refl _ | apply Drawn0.step)⟩
def schismalaw12_Same.l0 : Nat → List Int → List Int → Int → Option (Bool)
 | 0, _, _, _ => none
 | k + 1, x0, x1, x5 => if x5 < (x0.length : Int) then (if 0 ≤ x5 then (if x5 < (x1.length : Int) then (if (rd x0 x5) = (rd x1 x5) then (schismalaw12_Same.l0 k x0 x1 (wrap64 (x5 + 1))) else (some false)) else (none)) else (none)) else (some true)
def schismalaw12_Same.f (k : Nat) (l0 : List Int) (l1 : List Int) : Option (Bool) := if (l0.length : Int) = (l1.length : Int) then (schismalaw12_Same.l0 k l0 l1 0) else (some false)
theorem schismalaw12_Same.mono_l : ∀ k, (∀ y0 y1 y2, LeO (schismalaw12_Same.l0 k y0 y1 y2) (schismalaw12_Same.l0 (k + 1) y0 y1 y2))
 | 0 => fun _ _ _ r h => by simp [schismalaw12_Same.l0] at h
 | k + 1 => by
  have ih0 := schismalaw12_Same.mono_l k
  ·intro y0 y1 y2
   unfold schismalaw12_Same.l0
   repeat' first
   | (with_reducible exact ih0 _ _ _)
   | (with_reducible exact LeO.refl _)
   | (with_reducible exact LeO.none _)
   | (with_reducible refine LeO.ite ?_ ?_)
   | (with_reducible refine LeO.bind ?_ (fun _ => ?_))
theorem schismalaw12_Same.mono : ∀ a0 a1 k, LeO (schismalaw12_Same.f k a0 a1) (schismalaw12_Same.f (k + 1) a0 a1) := by
 intro a0 a1 k
 have ih0 := schismalaw12_Same.mono_l k
 unfold schismalaw12_Same.f
 repeat' first
   | (with_reducible exact ih0 _ _ _)
   | (with_reducible exact LeO.refl _)
   | (with_reducible exact LeO.none _)
   | (with_reducible refine LeO.ite ?_ ?_)
   | (with_reducible refine LeO.bind ?_ (fun _ => ?_))
set_option maxHeartbeats 8000000 in
set_option maxRecDepth 100000 in
theorem schismalaw12_Same.calls (k : Nat) (A0 : Option Addr) (c0 : Nat) (l0 : List Int) (A1 : Option Addr) (c1 : Nat) (l1 : List Int) (r : Bool) (w : World) (hr0 : Kd.C (Kd.int .i64) w A0 l0.length l0) (hc0 : l0.length ≤ c0) (hr1 : Kd.C (Kd.int .i64) w A1 l1.length l1) (hc1 : l1.length ≤ c1) (h : schismalaw12_Same.f k l0 l1 = some r) :
  Calls Tryz.prog 34 #[.slice A0 l0.length c0, .slice A1 l1.length c1] w fun e w' => e = .returned (.bool r) ∧ Drawn0 w w' := by
 have HR0 := Aside0.mk hr0
 have HC0 := Aside0.mk hc0
 clear hr0 hc0
 have HR1 := Aside0.mk hr1
 have HC1 := Aside0.mk hc1
 clear hr1 hc1
 have H : (if (l0.length : Int) = (l1.length : Int) then (schismalaw12_Same.l0 k l0 l1 0) else (some false)) = some r := h
 clear h
 by_cases c3 : (l0.length : Int) = (l1.length : Int)
 ·rw [if_pos c3] at H
  have c3b0 : ((l0.length : Int) == (l1.length : Int)) = true := beq_iff_eq.mpr c3
  have c3b1 : ((l0.length : Int) != (l1.length : Int)) = false := bne_eq_false_iff_eq.mpr c3
  have c3b2 : (l0.length == l1.length) = true := by first | simpa using c3 | (simp at c3 ⊢; omega)
  clear c3
  have H' := Aside0.mk H
  clear H
  go_enter Tryz.func34, Tryz.ntmps34
  go_wp2
  repeat (go_quiet (fail); try go_wp2)
  go_loopg [5] k (fun kq v5 w' => ∃ (x5_1 : Int), v5 = .int .i64 x5_1 ∧ Aside0 (schismalaw12_Same.l0 kq l0 l1 x5_1 = some r) ∧ Aside0 (kq ≤ k) ∧ Drawn0 w w')
  case atStart => exact ⟨(0), (by first | rfl | (simp; done) | (simp [*]; done)), H', ⟨Nat.le_refl _⟩, by repeat (first | exact Drawn0.refl _ | apply Drawn0.step)⟩
  case round =>
   clear H'
   obtain ⟨x5_1, rfl, HA, HK1, ⟨m1, rfl⟩⟩ := hrel
   cases gk with
   | zero => exact absurd HA.out (by simp [schismalaw12_Same.l0])
   | succ k1 =>
    have H := HA.out
    clear HA
    simp only [schismalaw12_Same.l0] at H
    by_cases c4 : x5_1 < (l0.length : Int)
    ·rw [if_pos c4] at H
     have c4b0 : decide (x5_1 < (l0.length : Int)) = true := decide_eq_true c4
     clear c4
     by_cases c5 : 0 ≤ x5_1
     case neg => rw [if_neg c5] at H; exact absurd H (by simp)
     rw [if_pos c5] at H
     have c5b0 : decide (0 ≤ x5_1) = true := decide_eq_true c5
     clear c5
     by_cases c6 : x5_1 < (l1.length : Int)
     case neg => rw [if_neg c6] at H; exact absurd H (by simp)
     rw [if_pos c6] at H
     have c6b0 : decide (x5_1 < (l1.length : Int)) = true := decide_eq_true c6
     clear c6
     by_cases c7 : (rd l0 x5_1) = (rd l1 x5_1)
     ·rw [if_pos c7] at H
      have c7b0 : ((rd l0 x5_1) == (rd l1 x5_1)) = true := beq_iff_eq.mpr c7
      have c7b1 : ((rd l0 x5_1) != (rd l1 x5_1)) = false := bne_eq_false_iff_eq.mpr c7
      clear c7
      have H' := Aside0.mk H
      clear H
      have p409 : 0 ≤ (x5_1 : Int) := of_decide_eq_true (by assumption)
      have q409 : x5_1 < (l0.length : Int) := of_decide_eq_true (by assumption)
      obtain ⟨ad409, e409, hx409_0⟩ := Kd.at_int HR0.out x5_1 p409 q409
      cases e409
      replace p409 := eq_true p409
      replace q409 := eq_true q409
      have p410 : 0 ≤ (x5_1 : Int) := of_decide_eq_true (by assumption)
      have q410 : x5_1 < (l1.length : Int) := of_decide_eq_true (by assumption)
      obtain ⟨ad410, e410, hx410_0⟩ := Kd.at_int HR1.out x5_1 p410 q410
      cases e410
      replace p410 := eq_true p410
      replace q410 := eq_true q410
      go_wp2
      repeat (go_quiet (fail); try go_wp2)
      go_roundg k1
      case measure => have := HK1.out; omega
      case rel => exact ⟨(wrap64 (x5_1 + 1)), (by first | rfl | (simp; done) | (simp [*]; done)), H', ⟨by have := HK1.out; omega⟩, by repeat (first | exact Drawn0.refl _ | apply Drawn0.step)⟩
     ·rw [if_neg c7] at H
      have c7b0 : ((rd l0 x5_1) == (rd l1 x5_1)) = false := beq_eq_false_iff_ne.mpr c7
      have c7b1 : ((rd l0 x5_1) != (rd l1 x5_1)) = true := bne_iff_ne.mpr c7
      obtain rfl := Option.some.inj H
      have p409 : 0 ≤ (x5_1 : Int) := of_decide_eq_true (by assumption)
      have q409 : x5_1 < (l0.length : Int) := of_decide_eq_true (by assumption)
      obtain ⟨ad409, e409, hx409_0⟩ := Kd.at_int HR0.out x5_1 p409 q409
      cases e409
      replace p409 := eq_true p409
      replace q409 := eq_true q409
      have p410 : 0 ≤ (x5_1 : Int) := of_decide_eq_true (by assumption)
      have q410 : x5_1 < (l1.length : Int) := of_decide_eq_true (by assumption)
      obtain ⟨ad410, e410, hx410_0⟩ := Kd.at_int HR1.out x5_1 p410 q410
      cases e410
      replace p410 := eq_true p410
      replace q410 := eq_true q410
      go_wp2
      repeat (go_quiet (fail); try go_wp2)
      go_ret
      exact ⟨by first | rfl | (simp; done) | (simp [*]; done), by repeat (first | exact Drawn0.refl _ | apply Drawn0.step)⟩
    ·rw [if_neg c4] at H
     have c4b0 : decide (x5_1 < (l0.length : Int)) = false := decide_eq_false c4
     clear c4
     obtain rfl := Option.some.inj H
     go_wp2
     repeat (go_quiet (fail); try go_wp2)
     go_ret
     exact ⟨by first | rfl | (simp; done) | (simp [*]; done), by repeat (first | exact Drawn0.refl _ | apply Drawn0.step)⟩
 ·rw [if_neg c3] at H
  have c3b0 : ((l0.length : Int) == (l1.length : Int)) = false := beq_eq_false_iff_ne.mpr c3
  have c3b1 : ((l0.length : Int) != (l1.length : Int)) = true := bne_iff_ne.mpr c3
  have c3b2 : (l0.length == l1.length) = false := by first | simpa using c3 | (simp at c3 ⊢; omega)
  obtain rfl := Option.some.inj H
  go_enter Tryz.func34, Tryz.ntmps34
  go_wp2
  repeat (go_quiet (fail); try go_wp2)
  go_ret
  exact ⟨by first | rfl | (simp; done) | (simp [*]; done), by repeat (first | exact Drawn0.refl _ | apply Drawn0.step)⟩
end Go.Proofs.YtccebdpjdpjgnaaGreatDoor.P
end
